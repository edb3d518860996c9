/- Part. -/
import Derived.Test.YtcdjoaepciegnaaGreatDoorZaf
set_option maxRecDepth 999999
set_option maxHeartbeats 0
set_option linter.all false
section
namespace Go.Am.Fe
open Go.Am.Tx Go.Am.Tk Go.Am.Tz
set_option maxRecDepth 1000000
def ZIX:SFunc:=dcs ".S'%v0'#1#$G%$1$$G$$1%$G#$w&a+%b$v#w#{Q%'R$" [ZHH,ZHm,ZHr] [Q (⟨(.build [ct 17,ct 3,ct 9,ct 14] [(0,1),(1,1),(2,1)]),[v 5,v 8,v 11],[5,8,11],[12],none,true⟩)]
def ZJB:SFunc:=dcs ".S'%v,'#G%$G$$G#$w&a+%b$v#w#{Q%'R$" [] [Q (⟨(.build [ct 17,ct 3,ct 9,ct 14] [(0,1),(1,1),(2,1)]),[v 4,v 6,v 8],[4,6,8],[9],none,true⟩)]
def ZJu:SFunc:=dcs ".S'%v,'#G%$G$$G#$w&a*%b$v#w#{Q%'R$" [] [Q (⟨(.build [ct 17,ct 3,ct 9,ct 22] [(0,1),(1,1),(2,1)]),[v 4,v 6,v 8],[4,6,8],[9],none,true⟩)]
def ZIz:SFunc:=dcs ".X'tw#I(y3O.X'fw#i=#ox$M(M$ox$M(M#w5k$,h#Oi2<lM#M(w/,|_(_$_#Ck#X(n#w#,O.X'fw#i.#lM$lM#w),X'fw#`'R%" [] []
def ZIL:SFunc:=dcs ".X'tw#I(y3O.X'fw#iZY!2#%q'F$x)M(M$q'F$x)M(M#jY'#oF(x)M(M$oF(x)M(M#j#oF#x)M(M$oF#x)M(M#w5k$,h#Oi2<lM#M(w/,|_(_$_#Ck#X(n#w#,O.X'fw#i.#lM$lM#w),X'fw#`'R%" [ZbG] [B (.binB .neq)]
def ZJb:SFunc:=dcs ".X'tw#I(y3O.X'fw#iZY!2#%oF$x&M(M$oF$x&M(M#jY'#oF%x&M(M$oF%x&M(M#j#oF#x&M(M$oF#x&M(M#w5k$,h#Oi2<lM#M(w/,|_(_$_#Ck#X(n#w#,O.X'fw#i.#lM$lM#w),X'fw#`'R%" [ZdD] [B (.binB .neq)]
def ZIv:SFunc:=dcs ".X)Y3#&M%'#v~$~;HH*''$v~$~;GH*&JY2$%G)'G)&JY2%%G('G(&JY2&%G%'G%&JY'%G''G'&JY'%G&'G&&JY=G$'G$&J=G#'G#&w*X)fb'v$b&v#w#`)R&" [ZgL,ZIC,ZIl,ZHy] [B (.loadB 10004 (some 10)),B (.loadB 10003 (some 10)),B (.binB .eql)]
def ZIM:SFunc:=dcs ".X'tw#I(y3O.X'fw#iZY!2#%q'F%x)M(M$q'F%x)M(M#jY#oF$x)M(M$oF$x)M(M#j#oF#x)M(M$oF#x)M(M#w5k$,h#Oi2<lM#M(w/,|_(_$_#Ck#X(n#w#,O.X'fw#i.#lM$lM#w),X'fw#`'R%" [ZbG] []
def ZIK:SFunc:=dcs ".X'Y2#%'#v~$~;GH)&'$v~$~;FH)%JY2#%'#v~$~;GH%&'$v~$~;FH%%JY2$%G$&G$%J=G#&G#%w(X'fb&v$b%v#w#`'R%" [ZbG,ZIh] [B (.loadB 10003 (some 4)),B (.loadB 10002 (some 4))]
def ZIp:SFunc:=dcs ".X'tw#I)ylO.X'fw#iy!2#%q.x.M)G%&q.x.M)G%%wnk&,h%Oik<lG%%M)wg,_~$~;G_~$~;F|_)_&_%Ck%X)n#w#,I(yGO.X'fw#ifY!2$%oF$x%M(G$&oF$x%M(G$%j#oF#x%M(G$&oF#x%M(G$%wIk$,h#OiF<lG$%M(wB,_~$~;G_~$~;F|_(_&_%Ck#X(n#w#,O.X'fw#iAY#lG%&lG%%jY#lG$&lG$%j#G#&G#%w*,X'fb&v$b%v#w#`'R%" [ZIk,ZHy] []
def ZJY:SFunc:=dcs ".X'Y2#%'#v~$~;GH)&'$v~$~;FH)%JY2#%'#v~$~;GH$&'$v~$~;FH$%JY=G(&G(%J=G#&G#%w(X'fb&v$b%v#w#`'R%" [ZbG] [B (.loadB 10003 (some 4)),B (.loadB 10002 (some 4))]
def ZJC:SFunc:=dcs ".X'tw#I(y3O.X'fw#i>!2#%q.x.M(M$q.x.M(M#w5k$,h#Oi2<lM#M(w/,|_(_$_#Ck#X(n#w#,O.X'fw#i.#lM$lM#w),X'fw#`'R%" [ZJi] []
def ZJA:SFunc:=dcs ".X'Y2#%G+&G+%JY2$%G*&G*%JY2%%G)&G)%JY2#%G(&G(%JY2&%'#v~$~;GH$&'$v~$~;FH$%J=G#&G#%w(X'fb&v$b%v#w#`'R%" [ZHy,ZdD,ZIy,ZbG] [B (.loadB 10003 (some 4)),B (.loadB 10002 (some 4))]
def ZII:SFunc:=dcs ".X)tw#I,ytO.X)fw#i~$&!2#%q,x,M,G%'q,x,M,G%&wvk(,h'Ois<lG%&M,wo,_~$~;H_~$~;G|_,_'_&Ck'X,n#w#,I+yaO.X)fw#in!2$%q&x&M+G$'q&x&M+G$&wck&,h%Oi`<lG$&M+w[,_~$~;H_~$~;G|_+_'_&Ck%X+n#w#,I*yLO.X)fw#iZ!3%&M%q5x5M*G#'q5x5M*G#&wNk$,h#OiK<lG#&M*wG,_~$~;H_~$~;G|_*_'_&_%Ck#X*n#w#,O.X)fw#iFY#lG%'lG%&jY#lG$'lG$&j#lG#'lG#&w.,X)fb'v$b&v#w#`)R&" [ZIS,ZH5,ZIb] []
def ZJc:SFunc:=dcs ".X'Y2#%G.&G.%JY2$%G,&G,%J2%%g'&H(&g'%H(%w~$<I(yhO.X'fw#i~$;Y!2#%oF%x&M(G%&oF%x&M(G%%jY#oF$x&M(G%&oF$x&M(G%%j#oF#x&M(G%&oF#x&M(G%%wjk$,h#Oig<lG%%M(wc,_~$~;G_~$~;F|_(_&_%Ck#X(n#w#,O.X'fw#ibY#lG%&lG%%jY#G1&G1%jY#G0&G0%jY#G/&G/%jY#G'&G'%jY#G&&G&%jY#G$&G$%j#G#&G#%w),X'fb&v$b%v#w#`'R%" [ZHy,ZdD,ZbG] []
def ZJy:SFunc:=dcs ".X'tw#I)y~$:I*y~$QO.X'fw#i~$e!2#%q2x2M*ox$M)G1&q2x2M*ox$M)G1%w~$Sk(,h'Oi~$P<lox$M)G1%M*w~$I,_~$~;G_~$~;F|_*_)_&_%Ck'X*n#w#O.X'fw#i~$H#lox$M)G1&lox$M)G1%w~$<,k&,h%Oi~$9<lG1%M)w~$5,_~$~;G_~$~;F|_)_&_%Ck%X)n#w#,I(ypO.X'fw#i~$4Y!2$%q'F#x(M(G'&q'F#x(M(G'%j#oF'x(M(G'&oF'x(M(G'%wrk$,h#Oio<lG'%M(wk,_~$~;G_~$~;F|_(_&_%Ck#X(n#w#,O.X'fw#ijY#lG1&lG1%jY#lG'&lG'%jY!2$%'#v~$~;GH,&'$v~$~;FH,%jY!2$%'#v~$~;GH(&'$v~$~;FH(%jY#G&&G&%jY!2%%G%&G%%jY!2&%G$&G$%j#G#&G#%w+,X'fb&v$b%v#w#`'R%" [ZIA,ZbG,ZIy,ZHy] [B (.loadB 10003 (some 4)),B (.loadB 10002 (some 4))]
def ZKv:SFunc:=dcs ".X'tw#I(y>O.X'fw#iK!2#%q2x2M(G&&q2x2M(G&%w@k$,h#Oi=<lG&%M(w9,_~$~;G_~$~;F|_(_&_%Ck#X(n#w#,O.X'fw#i8Y!3$&t1%$'#v~$~;Gv&1%$'$v~$~;Fv%j#lG&&lG&%w),X'fb&v$b%v#w#`'R%" [ZIU,ZIi,ZIY] [B (.loadB 10003 (some 4)),B (.loadB 10002 (some 4))]
def ZIc:SFunc:=dcs ".X%Y0##JY=lG#&lG#(JY2$%1%$'#v~$~;Gv&'$v~$~;Iv(J=n#lG&(w4S'(v3a+(1&$L'&w2O.X%0##w1i0!M'w/,X'v.S'&v,a*&T$v)u#v)N)2'%n~PyM#w*X%fw#`%R$" [ZHZ,ZJt,ZIt,ZIn,Zgf] [B (.loadB 10003 (some 4)),B (.loadB 10005 (some 4))]
def ZJF:SFunc:=dcs ".X%M&wZI(yNX&+loF%x&M(G%$+n$M&yPk&,h%OiMY&n~4qM&J<lG%$M(wE,_~$~;E|_(_&_$Ck%X(n#w#,I'y;X&+2#%n~&Eq'x'M'G,$M&y=k$,h#Oi:Y&n~4qM&J<lG,$M'w2,_~$~;E|_'_&_$Ck#X'n#w#,X&+lG.$+2#%n~&Eg'$H($n$w)X%n#b$v#w#`%R$" [ZcY] []
def ZJ2:SFunc:=dcs ".X%M&w~$;I)yzI*y~$.X&+1#$q2x2M*ox$M)G1$M&y~$0k*,h)Oi~$,Y&n~4qM&J<lox$M)G1$M*w|,_~$~;E|_*_)_&_$Ck)X*n#w#k(,h'OiyY&n~4qM&J<lG1$M)wq,_~$~;E|_)_&_$Ck'X)n#w#,I(yfX&+2$%n~&Eq'F#x(M(G'$M&yhk&,h%OieY&n~4qM&J<lG'$M(w],_~$~;E|_(_&_$Ck%X(n#w#,I'yIX&+2$%n~&Eq'F)x.M'G%$+2$%n~&Eq'F$x.M'G%$M&yKk$,h#OiHY&n~4qM&J<lG%$M'w@,_~$~;E|_'_&_$Ck#X'n#w#,X&+lG1$+2$%n~&Eg'$H,$+2$%n~&Eg'$H($+lG%$+lG$$n$w+X%n#b$v#w#`%R$" [ZIR,ZcY] []
def ZI3:SFunc:=dcs ".X(tS''L'.wTV$.vRH&.E$wRS'.vQa+.1#$L'+wPO.X(fS'')#+wOiNY!M,j>n~4qM)wI,X,vHS'+vGa*+T$vDu#vDND2$%n~PyM#wEI*y;X)+1%$q2x2M*M$M)y=k$,h#Oi:Y&n~4qM)J<lM$M*w3,_~$~;H|_*_)_'_$_#Ck#X*n#w#,X)n#w#O.X(fS'')#+w2i1>n~$ElM$w/,X(fa+'w#}{`(Q''R%" [ZIt,Zgf,ZJk] []
def ZHd:SFunc:=dcs ".X)tw#X5+n$v5yCO.X)fw#iB!'#L5,L5+M%w>S5,v=a&,q5x5M*M$w:S5+v9X*v7a&+q5x5v5v3M5w7k$,h#Oi6,<v4v5w6|_5_4_3_%_$Ck#X5n#lE#w3,O.X)fw#i2#lM$lM#w.,X)fw#`)R&" [] [O (cv 2 [v 26,v 27,v 28,v 9999] 29)]
def ZDE:SFunc:=dcs ".X'tw#X1+n$v1y=O.X'fw#i<#ox$M(M$ox$M(M#w4X(M1w3k$,h#Oi2,<v0v1w2|_1_0_$_#Ck#X1n#lM#w/,O.X'fw#i.#lM$lM#w),X'fw#`'R%" [] []
def Zne:SFunc:=dcs ".X%#M#M#w&X%fw#`%R$" [] []
def ZlZ:SFunc:=dcs ".X'n#w#O.X'n$w#i7>M$M#w5,O.X''#w#i4<M$M#w2,O.X'n$w#i1M)w1,O.X''#w#O.X'n#w#i0M)w0,i/M(w/,X)1#$M$w,X(1#$M#w*X'n#w#`'R%" [Zga] [Pn (-1)]
def ZlE:SFunc:=dcs ".X'2#%M$M#w(X'n#w#`'R%" [Zgw] []
def ZsJ:SFunc:=dcs ".X%M&w5X++n$v+y4O.X%M(w3i2#M&M(w0X(ox$v+v)w.k$,h#Oi,,<v*v+w,|_+_*_)_&Ck#X+n#lE#w),X&n#w#X%n#w#`%R$" [] []
def ZhH:SFunc:=dcs ".X)2#%lE$lE#wFI*y7O.X)M+wEiD#n#M+wCX+'#q'x'M*M$q'x'M*M#M%w9k$,h#Oi6Y<lM$M*J<lM#M*w,,|_*_%_$_#Ck#X*n#w#,X)n#w#`)R&" [ZdR] [O (cv 2 [v 21,v 25,v 29,v 9999] 30)]
def ZlW:SFunc:=dcs ".X'3#&'#G&&G&%w>O.X'M(w=i<#n#M(w;X(1$$'$2%%G%&G%%2&%G$&G$%2%%G#&G#%w),X'n#b&v$b%v#w#`'R%" [ZeX,Zod,ZdR,Zg5] [Pp (.c (.clo Zfu [] [])),V (.buildSlice 1)]
def Zpx:SFunc:=dcs ".X'=n#2#%L'&L'%w(X'fb&v$b%v#w#`'R%" [Zfu] []
def ZbP:SFunc:=dcs ".X)tw#X5+n$v5yCO.X)fw#iB!'#L',L'+M%w>S',v=a$,q'x'M*M$w:S'+v9X*v7a$+q'x'v5v3M5w7k$,h#Oi6,<v4v5w6|_5_4_3_%_$Ck#X5n#lE#w3,O.X)fw#i2#lM$lM#w.,X)fw#`)R&" [] [O (cv 2 [v 26,v 27,v 28,v 9999] 29)]
def ZHg:SFunc:=dcs ".X)tw#X5+n$v5yCO.X)fw#iB!'#L.,L.+M%w>S.,v=a#,q.x.M*M$w:S.+v9X*v7a#+q.x.v5v3M5w7k$,h#Oi6,<v4v5w6|_5_4_3_%_$Ck#X5n#lE#w3,O.X)fw#i2#lM$lM#w.,X)fw#`)R&" [] [O (cv 2 [v 26,v 27,v 28,v 9999] 29)]
def ZH1:SFunc:=dcs ".X'Y3#&'#G+&G+%JY3$&'$G*&G*%JY2%%'%v~$~;GH&&'&v~$~;FH&%JY=G,&G,%JY=G%&G%%JY=G$&G$%J=G#&G#%w(X'fb&v$b%v#w#`'R%" [ZHa,Za5,Zcr] [Pp (.c (.clo ZHq [] [])),Pp (.c (.clo Zcr [] [])),B (.loadB 10003 (some 4)),B (.loadB 10002 (some 4))]
def ZbB:SFunc:=dcs ".X)tw#X5+n$v5yCO.X)fw#iB!'#L),L)+M%w>S),v=a6,q)x)M*M$w:S)+v9X*v7a6+q)x)v5v3M5w7k$,h#Oi6,<v4v5w6|_5_4_3_%_$Ck#X5n#lE#w3,O.X)fw#i2#lM$lM#w.,X)fw#`)R&" [] [O (cv 2 [v 26,v 27,v 28,v 9999] 29)]
def ZHG:SFunc:=dcs ".X'Y2#%'#v~$~;GH$&'$v~$~;FH$%JY'%G(&G(%J=G#&G#%w(X'fb&v$b%v#w#`'R%" [Zcr] [B (.loadB 10003 (some 4)),B (.loadB 10002 (some 4)),B (.binB .eql)]
def ZbN:SFunc:=dcs ".X)tw#X5+n$v5yCO.X)fw#iB!'#L&,L&+M%w>S&,v=a/,q&x&M*M$w:S&+v9X*v7a/+q&x&v5v3M5w7k$,h#Oi6,<v4v5w6|_5_4_3_%_$Ck#X5n#lE#w3,O.X)fw#i2#lM$lM#w.,X)fw#`)R&" [] [O (cv 2 [v 26,v 27,v 28,v 9999] 29)]
def ZHF:SFunc:=dcs ".X'Y3#&'#G$&G$%JY'$G%&G%%J=G#&G#%w(X'fb&v$b%v#w#`'R%" [Za5] [Pp (.c (.clo Zcr [] [])),B (.binB .eql)]
def ZHO:SFunc:=dcs ".X'Y3#&'#G)&G)%JY3$&'$G(&G(%JY2%%'%v~$~;GH*&'&v~$~;FH*%JY2&%G%&G%%JY''G'&G'%JY''G&&G&%JY=G$&G$%J=G#&G#%w(X'fb&v$b%v#w#`'R%" [Za4,ZaV,ZHq,Zmb] [Pp (.c (.clo ZHs [] [])),Pp (.c (.clo ZHt [] [])),B (.loadB 10003 (some 10)),B (.loadB 10002 (some 10)),B (.binB .eql)]
def ZG8:SFunc:=dcs ".X)tw#X5+n$v5yCO.X)fw#iB!'#L&,L&+M%w>S&,v=a',q&x&M*M$w:S&+v9X*v7a'+q&x&v5v3M5w7k$,h#Oi6,<v4v5w6|_5_4_3_%_$Ck#X5n#lE#w3,O.X)fw#i2#lM$lM#w.,X)fw#`)R&" [] [O (cv 2 [v 26,v 27,v 28,v 9999] 29)]
def ZbA:SFunc:=dcs ".X)tw#X5+n$v5yCO.X)fw#iB!'#L%,L%+M%w>S%,v=a2,q%x%M*M$w:S%+v9X*v7a2+q%x%v5v3M5w7k$,h#Oi6,<v4v5w6|_5_4_3_%_$Ck#X5n#lE#w3,O.X)fw#i2#lM$lM#w.,X)fw#`)R&" [] [O (cv 2 [v 26,v 27,v 28,v 9999] 29)]
def ZHB:SFunc:=dcs ".X'Y2#%G$&G$%J=G#&G#%w(X'fb&v$b%v#w#`'R%" [Zmb] []
def Zbr:SFunc:=dcs ".X)tw#X5+n$v5yCO.X)fw#iB!'#L.,L.+M%w>S.,v=a7,q.x.M*M$w:S.+v9X*v7a7+q.x.v5v3M5w7k$,h#Oi6,<v4v5w6|_5_4_3_%_$Ck#X5n#lE#w3,O.X)fw#i2#lM$lM#w.,X)fw#`)R&" [] [O (cv 2 [v 26,v 27,v 28,v 9999] 29)]
def Zbz:SFunc:=dcs ".X)tw#X5+n$v5yCO.X)fw#iB!'#L),L)+M%w>S),v=a0,q)x)M*M$w:S)+v9X*v7a0+q)x)v5v3M5w7k$,h#Oi6,<v4v5w6|_5_4_3_%_$Ck#X5n#lE#w3,O.X)fw#i2#lM$lM#w.,X)fw#`)R&" [] [O (cv 2 [v 26,v 27,v 28,v 9999] 29)]
def ZHW:SFunc:=dcs ".X'Y2#%'#v~$~;GH%&'$v~$~;FH%%JY=G$&G$%J=G#&G#%w(X'fb&v$b%v#w#`'R%" [Zcr] [B (.loadB 10003 (some 4)),B (.loadB 10002 (some 4))]
def ZHC:SFunc:=dcs ".X'Y2#%'#v~$~;GH)&'$v~$~;FH)%JY2#%'#v~$~;GH%&'$v~$~;FH%%JY3$&'%G$&G$%J=G#&G#%w(X'fb&v$b%v#w#`'R%" [Zcr,ZaW] [B (.loadB 10003 (some 4)),B (.loadB 10002 (some 4)),Pp (.c (.clo ZHI [] []))]
def ZHK:SFunc:=dcs ".X'Y3#&'#G%&G%%JY3$&'$G$&G$%J=G#&G#%w(X'fb&v$b%v#w#`'R%" [ZaP,ZaU] [Pp (.c (.clo ZHo [] [])),Pp (.c (.clo ZHn [] []))]
def ZHj:SFunc:=dcs ".X)tw#X5+n$v5yCO.X)fw#iB!'#L,,L,+M%w>S,,v=a5,q,x,M*M$w:S,+v9X*v7a5+q,x,v5v3M5w7k$,h#Oi6,<v4v5w6|_5_4_3_%_$Ck#X5n#lE#w3,O.X)fw#i2#lM$lM#w.,X)fw#`)R&" [] [O (cv 2 [v 26,v 27,v 28,v 9999] 29)]
def Zcb:SFunc:=dcs ".X)tw#X5+n$v5yCO.X)fw#iB!'#L.,L.+M%w>S.,v=a4,q.x.M*M$w:S.+v9X*v7a4+q.x.v5v3M5w7k$,h#Oi6,<v4v5w6|_5_4_3_%_$Ck#X5n#lE#w3,O.X)fw#i2#lM$lM#w.,X)fw#`)R&" [] [O (cv 2 [v 26,v 27,v 28,v 9999] 29)]
def ZHS:SFunc:=dcs ".X'Y2#%'#v~$~;GH)&'$v~$~;FH)%JY2#%'#v~$~;GH$&'$v~$~;FH$%JY=G(&G(%J=G#&G#%w(X'fb&v$b%v#w#`'R%" [Zcr] [B (.loadB 10003 (some 4)),B (.loadB 10002 (some 4))]
def ZH0:SFunc:=dcs ".X'Y2#%G+&G+%JY3$&'#G*&G*%JY3%&'$G)&G)%JY2#%G(&G(%JY2&%'%v~$~;GH$&'&v~$~;FH$%J=G#&G#%w(X'fb&v$b%v#w#`'R%" [Zmb,Za5,Zbd,Zcr] [Pp (.c (.clo Zcr [] [])),Pp (.c (.clo ZHx [] [])),B (.loadB 10003 (some 4)),B (.loadB 10002 (some 4))]
def ZHi:SFunc:=dcs ".X)tw#X5+n$v5yCO.X)fw#iB!'#L2,L2+M%w>S2,v=a8,q2x2M*M$w:S2+v9X*v7a8+q2x2v5v3M5w7k$,h#Oi6,<v4v5w6|_5_4_3_%_$Ck#X5n#lE#w3,O.X)fw#i2#lM$lM#w.,X)fw#`)R&" [] [O (cv 2 [v 26,v 27,v 28,v 9999] 29)]
def ZHh:SFunc:=dcs ".X)tw#X5+n$v5yCO.X)fw#iB!'#L(,L(+M%w>S(,v=a9,q(x(M*M$w:S(+v9X*v7a9+q(x(v5v3M5w7k$,h#Oi6,<v4v5w6|_5_4_3_%_$Ck#X5n#lE#w3,O.X)fw#i2#lM$lM#w.,X)fw#`)R&" [] [O (cv 2 [v 26,v 27,v 28,v 9999] 29)]
def ZHV:SFunc:=dcs ".X'Y2#%'#v~$~;GH#&'$v~$~;FH#%J=G'&G'%w(X'fb&v$b%v#w#`'R%" [Zcr] [B (.loadB 10003 (some 4)),B (.loadB 10002 (some 4))]
def ZG6:SFunc:=dcs ".X)tw#X5+n$v5yCO.X)fw#iB!'#E,E+M%w>N,ox$M*M$w:N+v9X*v7ox$v5v3M5w7k$,h#Oi6,<v4v5w6|_5_4_3_%_$Ck#X5n#lE#w3,O.X)fw#i2#lM$lM#w.,X)fw#`)R&" [] [O (cv 2 [v 26,v 27,v 28,v 9999] 29)]
def ZHf:SFunc:=dcs ".X)tw#X5+n$v5yCO.X)fw#iB!'#L2,L2+M%w>S2,v=a:,q2x2M*M$w:S2+v9X*v7a:+q2x2v5v3M5w7k$,h#Oi6,<v4v5w6|_5_4_3_%_$Ck#X5n#lE#w3,O.X)fw#i2#lM$lM#w.,X)fw#`)R&" [] [O (cv 2 [v 26,v 27,v 28,v 9999] 29)]
def ZHe:SFunc:=dcs ".X)tw#X5+n$v5yCO.X)fw#iB!'#L&,L&+M%w>S&,v=a;,q&x&M*M$w:S&+v9X*v7a;+q&x&v5v3M5w7k$,h#Oi6,<v4v5w6|_5_4_3_%_$Ck#X5n#lE#w3,O.X)fw#i2#lM$lM#w.,X)fw#`)R&" [] [O (cv 2 [v 26,v 27,v 28,v 9999] 29)]
def ZHP:SFunc:=dcs ".X'Y2#%G%&G%%JY=G$&G$%J=G#&G#%w(X'fb&v$b%v#w#`'R%" [Zmb] []
def ZHX:SFunc:=dcs ".X'Y3#&'#G%&G%%JY2$%G.&G.%JY3%&'$G,&G,%JY2&%'%v~$~;GH(&'&v~$~;FH(%JY=G1&G1%JY=G0&G0%JY=G/&G/%JY=G'&G'%JY=G&&G&%JY=G$&G$%J=G#&G#%w(X'fb&v$b%v#w#`'R%" [ZG4,Zmb,Za5,Zcr] [Pp (.c (.clo ZHA [] [])),Pp (.c (.clo Zcr [] [])),B (.loadB 10003 (some 4)),B (.loadB 10002 (some 4))]
def ZHU:SFunc:=dcs ".X'3#&'#E$E#w(X'fw#`'R%" [ZG7] [Pp (.c (.clo ZHJ [] []))]
def ZH2:SFunc:=dcs ".X'Y3#&'#G1&G1%JY3$&'$G'&G'%JY2%%'%v~$~;GH,&'&v~$~;FH,%JY2%%'%v~$~;GH(&'&v~$~;FH(%JY3&&''G%&G%%JY2'%G$&G$%JY=G&&G&%J=G#&G#%w(X'fb&v$b%v#w#`'R%" [ZG2,ZG9,Zcr,Zbd,Zmb] [Pp (.c (.clo ZHl [] [])),Pp (.c (.clo ZHD [] [])),B (.loadB 10003 (some 4)),B (.loadB 10002 (some 4)),Pp (.c (.clo ZHx [] []))]
def ZIQ:SFunc:=dcs ".X'Y3#&'#G&&G&%JY3$&'$G%&G%%JY3%&'%G$&G$%J3&&'&G#&G#%w(X'fb&v$b%v#w#`'R%" [ZHb,ZHc,ZG3,ZG5] [Pp (.c (.clo ZHN [] [])),Pp (.c (.clo ZHL [] [])),Pp (.c (.clo ZHw [] [])),Pp (.c (.clo ZHz [] []))]
def ZH3:SFunc:=dcs ".X)Y0##JY2$%'#v~$~;Kv*'#v~$~;Kv*J'$2%%L',L'*2$%L',L'*wBO.X)0##wAi@Y!M.j!M+w;,X.v:S',v9a+,T$v5u#v5N52&%E%M#w6X+v4S'*v3a+*T$v/u#v/N/2&%E$M#w0X)fw#`)R&" [ZHZ,ZIj,ZJt,ZIB] [B (.loadB 10007 (some 4)),B (.binB .eql)]
structure HasL (S:Nat->Option Fn):Prop where
 middleTables:S ZIn=some (.code ZIX)
 zmTables:S ZIt=some (.code ZJB)
 zmModule:S ZIY=some (.code ZJu)
 zaEqStrings:S ZHy=some (.code ZIz)
 zaEqFields:S ZIl=some (.code ZIL)
 zaEqCases:S ZIC=some (.code ZJb)
 zaEqNominal:S ZIb=some (.code ZIv)
 zaEqParams:S ZIh=some (.code ZIM)
 zaEqMethod:S ZIk=some (.code ZIK)
 zaEqProtocol:S ZH5=some (.code ZIp)
 zaEqReq:S ZJi=some (.code ZJY)
 zaEqReqs:S ZIy=some (.code ZJC)
 zaEqConf:S ZIS=some (.code ZJA)
 zaEqTables:S ZIi=some (.code ZII)
 zmEqInstr:S ZIA=some (.code ZJc)
 zmEqCode:S ZIU=some (.code ZJy)
 zmSame:S ZJt=some (.code ZKv)
 law12MiddleTables:S ZIa=some (.code ZIc)
 zmWeight:S ZIR=some (.code ZJF)
 zmBulkq:S ZJk=some (.code ZJ2)
 zmProgram:S ZIB=some (.code ZI3)
 slicesEqualFuncLApiNominalLApiNominalApiNominalApiNominal:S ZG5=some (.code ZHd)
 slicesEqualLStringString:S Zmb=some (.code ZDE)
 cmpIsNaNIntq:S Zga=some (.code Zne)
 cmpCompareInt:S ZdR=some (.code ZlZ)
 stringsCompare:S Zg5=some (.code ZlE)
 cmpOrInt:S Zod=some (.code ZsJ)
 typesListsApiTypeq:S ZeX=some (.code ZhH)
 typesCompareq:S Zfu=some (.code ZlW)
 typesEqual:S Zcr=some (.code Zpx)
 slicesEqualFuncLApiTypeLApiTypeApiTypeApiType:S Za5=some (.code ZbP)
 slicesEqualFuncLApiNodeLApiNodeApiNodeApiNode:S ZHa=some (.code ZHg)
 middleSameNodeq:S ZHq=some (.code ZH1)
 slicesEqualFuncLApiFieldLApiFieldApiFieldApiField:S ZaV=some (.code ZbB)
 middleSameNominalX1q:S ZHt=some (.code ZHG)
 slicesEqualFuncLApiCaseLApiCaseApiCaseApiCase:S Za4=some (.code ZbN)
 middleSameNominalX2q:S ZHs=some (.code ZHF)
 middleSameNominalq:S ZHz=some (.code ZHO)
 slicesEqualFuncLApiProtocolLApiProtocolApiProtocolApiProtocol:S ZG3=some (.code ZG8)
 slicesEqualFuncLApiAssocLApiAssocApiAssocApiAssoc:S ZaU=some (.code ZbA)
 middleSameProtocolX1q:S ZHn=some (.code ZHB)
 slicesEqualFuncLApiMethodLApiMethodApiMethodApiMethod:S ZaP=some (.code Zbr)
 slicesEqualFuncLApiParamLApiParamApiParamApiParam:S ZaW=some (.code Zbz)
 middleSameParamq:S ZHI=some (.code ZHW)
 middleSameProtocolX2q:S ZHo=some (.code ZHC)
 middleSameProtocolq:S ZHw=some (.code ZHK)
 slicesEqualFuncLApiConfLApiConfApiConfApiConf:S ZHc=some (.code ZHj)
 slicesEqualFuncLApiReqLApiReqApiReqApiReq:S Zbd=some (.code Zcb)
 middleSameReqq:S ZHx=some (.code ZHS)
 middleSameConfq:S ZHL=some (.code ZH0)
 slicesEqualFuncLApiCodeLApiCodeApiCodeApiCode:S ZHb=some (.code ZHi)
 slicesEqualFuncLApiSlotLApiSlotApiSlotApiSlot:S ZG9=some (.code ZHh)
 middleSameCodeX1q:S ZHD=some (.code ZHV)
 slicesEqualFuncLLApiInstrLLApiInstrLApiInstrLApiInstr:S ZG2=some (.code ZG6)
 slicesEqualFuncLApiInstrLApiInstrApiInstrApiInstr:S ZG7=some (.code ZHf)
 slicesEqualFuncLApiOperandLApiOperandApiOperandApiOperand:S ZG4=some (.code ZHe)
 middleSameOperandq:S ZHA=some (.code ZHP)
 middleSameInstrq:S ZHJ=some (.code ZHX)
 middleSameCodeX2q:S ZHl=some (.code ZHU)
 middleSameCodeq:S ZHN=some (.code ZH2)
 middleSame:S ZIj=some (.code ZIQ)
 law12MiddleSame:S ZHM=some (.code ZH3)
end Go.Am.Fe
end
