/- Part. -/
import Derived.Test.YtcdpeppblcijfaaGreatDoorEaf
set_option maxRecDepth 999999
set_option maxHeartbeats 0
set_option linter.all false
section
namespace Go.Am.Fe
open Go.Am.Tx Go.Am.Tk Go.Am.Tz
set_option maxRecDepth 1000000
def ZHR:SFunc:=dcs ".S')L'+w^I,yNV$+v[H&+A'B'3#&M%M$q'x'M,G&&m~$~;LH&+yPk$,h#OiM<lG&&M,wI,_~$~;L_~$~;J_~$~;G|_,_+_)_&_%_$Ck#X,n#w#,S'+vHa$+(%$($$(#$)&$G%&G$&G#&wBOO.S')1$$q'x'M*E%w=i<Y<lM%M*J@n#M*w5X*2%%G$&M$w1i0=n*G#&w.,a$)b&v#w#{Q)'R&" [ZHX,Zbv,Zct] []
def ZIz:SFunc:=dcs ".S')3#&E*E$L'&w;I+y1N*A'B'($$(#$)%$ox$M+M%n*E*y3k$,h#Oi0<lM%M+w,,_~$~;J_~$~;G|_+_*_)_&_%_$Ck#X+n#w#,X*z'w#a$)b&v#w#{Q)'R&" [ZHX] []
def ZHD:SFunc:=dcs ".X'tw#I(y3O.X'fw#i=#ox$M(M$ox$M(M#w5k$,h#Oi2<lM#M(w/,|_(_$_#Ck#X(n#w#,O.X'fw#i.#lM$lM#w),X'fw#`'R%" [] []
def ZIp:SFunc:=dcs ".X'Y2#%'#v~$~;GH)&'$v~$~;FH)%JY2#%'#v~$~;GH$&'$v~$~;FH$%JY=G(&G(%J=G#&G#%w(X'fb&v$b%v#w#`'R%" [ZbG] [B (.loadB 10003 (some 4)),B (.loadB 10002 (some 4))]
def ZIq:SFunc:=dcs ".X%'#M&M#w,O.X%M#w+i*<n#M&w),X&2#%USM#w'X%P#w#`%R$" [ZHm] [B (.sliceS false true)]
def ZH4:SFunc:=dcs ".S:'L:(w~$(V'(v~$&H+(3#&E$G$%g'%H+%w|V'(vzH'(3#&M$G$%g'%H'%wuI+yaV$(vsH&(A)B)L),m~$~;IH&(yoV',vmH%,3#&M$G$%g',H%,whS),vga/,q)x)M+G&%wck&,h%Oi`<lG&%M+w[,_~$~;I_~$~;H_~$~;F|_+_(_'_%_$Ck%X+n#w#,s$(z)H&(wZI)y?V$(vXH%(A.B.L.*m~$~;IH%(yTV'*vRH)*3#&M$G$%g'*H)*wMV'*vKH$*3#&M$G$%g'*H$*wFS.*vEa0*q.x.M)G%%wAk$,h#Oi><lG%%M)w:,_~$~;I_~$~;H_~$~;F|_)_(_'_%_$Ck#X)n#w#,s$(z.H%(w9V$(v7H$(1$$M$w6S:(v5a&(L:%w5O.S:'L:%w4i3#lG$%lM$w.,a&'b%v#w#{Q':R%" [ZHC,ZdM] []
def ZIc:SFunc:=dcs ".X'tw#I(y3O.X'fw#i>!2#%q.x.M(M$q.x.M(M#w5k$,h#Oi2<lM#M(w/,|_(_$_#Ck#X(n#w#,O.X'fw#i.#lM$lM#w),X'fw#`'R%" [ZHU] []
def ZIe:SFunc:=dcs ".X'Y2#%'#v~$~;GH+&'$v~$~;JH+)JY2#%'#v~$~;GH'&'$v~$~;JH')J2$%G%&G%)w~$#I*y_O.X'fw#i}Y!2#%q'F%x)M*G&&q'F%x)M*G&)j#oF$x)M*G&&oF$x)M*G&)wak$,h#Oi^<lG&)M*wY,_~$~;J_~$~;G|_*_)_&Ck#X*n#w#,S:)vXa&)2%%G$&L:%wUO.X'fw#iTY#lG&&lG&%jY#lG$&lG$%jY'%=G#&1&$G#&M(j#1&$G#&1&$G#%w2,X(=G#%1&$G#%w+X'fb&v$b%v#w#`'R%" [ZbG,ZHS,ZHH,ZHW] [B (.loadB 10003 (some 4)),B (.loadB 10006 (some 4)),B (.binB .neq)]
def ZIo:SFunc:=dcs ".X(fX'P#w#I)y0O.X(tX'oF#x:M)G&%w9i82#%q:x:M)G&%L:&w2k$,h#Oi/<lG&%M)w*,_~$~;G_~$~;F|_)_&_%Ck#X)n#w#,X(fX'P#b&v$b%v#w#`(`'R%" [ZHB] []
def ZJN:SFunc:=dcs ".S'%L'&w^I)yJOV$&v[H&&A:B:L:*m~$~;GH&&yWiV<n#2#%U~$FG#*wSV.*vQH0*)##wQS:*vPa&*q:x:M)G&$wLk&,h%OiI<lG&$M)wE,_~$~;G_~$~;F_~$~;E|_)_&_%_$Ck%X)n#w#,I'y6V$&vCH#&A5B5L5(m~$~;GH#&y?V.(v=H*()##w=S5(v<a'(q5x5M'G#$w8k$,h#Oi5<lG#$M'w1,_~$~;G_~$~;F_~$~;E|_'_&_%_$Ck#X'n#w#,S'&v0a(&'#G%$G$$w+a(%b$v#w#{Q%'R$" [ZHm] [Q (⟨(.build [ct 17,ct 3,ct 9,ct 22] [(1,1),(2,1)]),[v 9,v 11],[9,11],[12],none,true⟩)]
def ZBt:SFunc:=dcs ".X'tw#I(y3O.X'fw#iZY!2#%q'F%x)M(M$q'F%x)M(M#jY#oF$x)M(M$oF$x)M(M#j#oF#x)M(M$oF#x)M(M#w5k$,h#Oi2<lM#M(w/,|_(_$_#Ck#X(n#w#,O.X'fw#i.#lM$lM#w),X'fw#`'R%" [ZbG] []
def ZE2:SFunc:=dcs ".X)Y3#&M%'#v~$~;HH0''$v~$~;GH0&JY2$%'%v~$~;HH+''&v~$~;GH+&JY2$%'%v~$~;HH'''&v~$~;GH'&JY2%%G&'G&&JY2&%G%'G%&J2'%G$'G$&w*X)fb'v$b&v#w#`)R&" [ZgL,ZbG,ZwD,ZHS,ZHn] [B (.loadB 10004 (some 10)),B (.loadB 10003 (some 10)),B (.loadB 10004 (some 4)),B (.loadB 10003 (some 4))]
def Zwb:SFunc:=dcs ".X)0##w~$'I/yQO.X)fw#i~$&Y!3$&t2%%M%q:x:M/G&,2&%M%q:x:M/G&,jY'#M3M1j#M2M0whX3vgX2vfT$v^T#v^X^2'%q:x:M/G&,L'*w_X1v]X0v[T$vST#vSXS2(%q:x:M/G&,L'*wTk$,h#OiP<lG&,M/wL,_~$~;M_~$~;K|_/_,_*_%Ck#X/n#w#,S',1)$L',wJO.X)0##wIiHY>n8lM%jY!M.j!M+w>,X.v=S',v<a(,T$v9u#v9N92*%n~PyM$w:X+v8S'*v7a(*T$v4u#v4N42*%n~PyM#w5X)fw#`)R&" [Zd3,ZEr,ZHH,Ziy,ZH5,Zh1,ZJk,Zgf] [B (.binB .neq)]
end Go.Am.Fe
end
