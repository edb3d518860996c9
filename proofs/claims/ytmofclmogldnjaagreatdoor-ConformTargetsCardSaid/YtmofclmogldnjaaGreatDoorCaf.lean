/- Part. -/
import Derived.Test.YtmofclmogldnjaaGreatDoorCad
set_option maxRecDepth 999999
set_option maxHeartbeats 0
set_option linter.all false
section
namespace Go.Am.Fe
open Go.Am.Tx Go.Am.Tk Go.Am.Tz
set_option maxRecDepth 1000000
def Znu:SFunc:=dcs ".X%Y=UDM#jY=U1M#jY=U.M#j=U,M#w&X%fw#`%R$" [] []
def Zjg:SFunc:=dcs ".X'M$wRI$yPk&h%OiOY#U.%M$M#J<$M#M$wF,|_$_#Ck%O.X'M$wEiDY#US%+n$M$M#jY=$M#+n$M$j#US%M$M#w3,Oh$I$w1i01#$%M$M#w,,k$h#Oi+<$M#M$w(,|_$_#Ck#,X'n#w#`'R%" [Zkq] []
def Znb:SFunc:=dcs ".X%Y&U^M#J@UTM#w&X%fw#`%R$" [] []
def Zlo:SFunc:=dcs ".X%Y=U~$)M#jYY&U~$$M#J@UfM#jY&U~$EM#J@U~$+M#w&X%fw#`%R$" [] []
def Zm4:SFunc:=dcs ".N#v$'#w#X#z$w#{`#R#" [] [Q (bs 1 [s [33],s [33,61],s [37],s [38],s [38,38],s [40],s [41],s [42],s [43],s [44],s [45],s [45,62],s [46],s [47],s [58],s [59],s [60],s [60,61],s [61],s [61,61],s [62],s [62,61],s [91],s [93],s [123],s [124,124],s [125]] 1)]
def ZsT:SFunc:=dcs ".X''#w#I(y.O.X'M(w6i5=M$ox$M(M#w0k$,h#Oi,<lM#M(w),|_(_$_#Ck#X(n#w#,X'n#w#`'R%" [] [Pn (-1)]
def ZmX:SFunc:=dcs ".X'n#w#O.X'n$w#iA@n#2#%'#+n$M$M$M#E(w:,O.X'n%w#i9Y@n#2#%'#+n%M$M$M#M(J&$M#+n%M$w*,N(0$#w)X'n#w#`'R%" [Zct,Zkn] [V (.sliceS true true)]
def Zjr:SFunc:=dcs ".X'Y>n#2#%M$M#jY1$$%M$M#jY1%$%M$M#j=UF%M$M#w(X'fw#`'R%" [Zif,Ze0,Zge] []
def ZnN:SFunc:=dcs ".Z%,v~$#Z&+v|($$(#$)%%M$n/)#,w|X%+n%M%yz.Z%,vZZ&+vX($$(#$)%%M%n0)#,wX.Z%,vyZ&+vx)#%(%$($$(#$)&,t+n%M%'#E.wtO.Z%,vsZ&+vq($$(#$)%%M%n3)#,wqip@n&M&wo,imXm=ULvWwnN.A$B$M0E.yiifXf=UFvWyhOifXf=U~$&vWwg,N.A$B$U,E.yciaXa=U~$?vWwbN.A$B$U.E.y^i[X[=U~$9vWw]k%M0wW,OX0%+n$M%M#ySiR<$M#+n$M%wN,X0U#w#Oh$I%wLN.A$B$M/E.wHiG#U~$&M/wF,O.Z%,vEZ&+vD)#%($$(#$)%,+n$M%'#E.w@i?=UFM/w>,X/%M%M#w;k$h#Oi:Y@UD%M%M#J<$M#M%w1,_~$~;M_~$~;L|_._,_+_&_%_$_#Ck#,X.z$w#a%,a,+w#Q,%Q+&R'" [] [U .convBS]
def ZjM:SFunc:=dcs ".X'M$w5I$y3k$h#Oi2Y1#$%M$M#J<$M#M$w(,|_$_#Ck#,X'n#w#`'R%" [Zge] []
def Zno:SFunc:=dcs ".X%YY>M&M#J=$M&$M#j>$M&$M#w'X&P7=6677;647:<98;;9<4;w#X%fw#`%R$" [] []
def Zm9:SFunc:=dcs ".X'M$w;I$y9k$h#Oi8YY1#$%M$M#j1$$%M$M#J<$M#M$w(,|_$_#Ck#,X'n#w#`'R%" [Zge,Ze0] []
def Zi8:SFunc:=dcs ".X%Y&U~$$M#J@UfM#w&X%fw#`%R$" [] []
def ZhP:SFunc:=dcs ".N#v$'#w#X#z$w#{`#R#" [] [Q (bs 1 [s [97,110,121],s [99,97,115,101],s [99,97,116,99,104],s [99,108,97,115,115],s [99,111,110,115,117,109,101],s [100,101,102,97,117,108,116],s [100,101,102,101,114],s [100,101,105,110,105,116],s [100,111],s [101,108,115,101],s [101,110,117,109],s [101,120,116,101,110,100],s [102,97,108,115,101],s [102,114,111,122,101,110],s [102,117,110,99],s [105,102],s [105,110],s [105,110,100,105,114,101,99,116],s [105,110,111,117,116],s [108,101,116],s [109,97,116,99,104],s [109,111,118,101,111,110,108,121],s [112,114,111,116,111,99,111,108],s [114,101,116,117,114,110],s [115,116,114,117,99,116],s [116,104,114,111,119],s [116,104,114,111,119,115],s [116,114,117,101],s [116,121,112,101],s [118,97,114],s [119,104,101,114,101],s [119,104,105,108,101]] 1)]
def ZpJ:SFunc:=dcs ".Z%(v~$3Z''v~$1($$(#$)%%M$n.)#+w~$1O.Z%(v~$0Z''v~$/)#%(&$(%$($$(#$)'+M0M$'#+M0M$M$M#n+w~$&i~$%>n#M0w~$$X02#%M$M#w|,O.Z%(v{Z''vz)#%(&$(%$($$(#$)'+eM$M,M$M.M/wtOX/n,y#is@n#2$%M.0%#wp,OX/n%y#io1&$M)wn,X/n$w#O.Z%(vmZ''vk($$(#$)%%M$n2)#+wkij>n<$M.wh,X.'#M,M$M#wdX,2'%M$M#wai`1($M)w_,O.Z%(v^Z''v])#%(&$(%$($$(#$)'+eM$M*M$M+n&wWO.Z%(vVZ''vT($$(#$)%%M$n1)#+wTiSYY1($%M*M#J<$M#M*jY1)$M+jY=UTM)J>n$$M+w=,X+'#M*M$M#w9X*2*%M$M#w6i51+$M)w4,X)%M$M#w1a%(a+'w#Q(%Q''R%" [Zif,Zct,Zf9,Zg8,Zkl,Ze0,Zkm,Zhi,Zge] [V (.sliceS true true)]
def ZkX:SFunc:=dcd ⟨1,[true,false],[.tmp 2,.cell 3 10003 (some 2)],
 (q (yR 0 [Pz 4,Xx 2,Al [ci 0,ci 0] 3])
 (q (q (yR 19 [M 0,LS,Pn 8000,Qg])
 (i 21 (q (yR 22 [Pn 2,U (.build [ci 0,ci 0] [(0,1)]),Pz 4,Xx 2,Pv 22,Sz 2 3])
 .ret) e))
 (q (yR 0 [Pz 4,Xx 4])
 (q (yR 0 [Pp (.c (.uniq 1 [])),Xx 5,Pp (.c (.uniq 1 [])),Xx 6])
 (q (yR 23 [M 0,Pn 0,C2 Zeu 2,Xx 7])
 (q (k 0 (lo [0,3,4,5,6,7,9999,10003] (q (q (yR 25 [M 7,M 0,LS,Ql])
 (i 28 e (ex 0)))
 (k 1 (q (yR 29 [M 5,Ll,Xx 8])
 (q (q (yR 31 [M 0,M 7,C2 Zhm 2,Nt])
 (i 34 (q (yR 35 [Pn 10,M 7,B (.build [ci 0,ci 0] [(0,1),(1,1)]),Pz 4,Xx 2,Pv 36,Sz 2 3])
 .ret) e))
 (q (q (yR 37 [M 4,Ll,Pn 3000,Qe])
 (i 39 (q (yR 40 [Pn 2,M 7,B (.build [ci 0,ci 0] [(0,1),(1,1)]),Pz 4,Xx 2,Pv 41,Sz 2 3])
 .ret) e))
 (q (.gh (.thaw 6 0 17000 1) (.hg (yR 42 [M 8,Pn 0,Qg,J true,M 0,M 7,IS,Pu 41,Qe,Y,J true,M 6,M 8,Pn 1,Sb,Ix 1,L 17000,Pn 0,Qe,Y,Xx 9]) (.shut 6 0 17000 1)))
 (q (q (yR 58 [M 9,J false,M 0,M 7,IS,Pu 34,Qe,Y])
 (i 64 (q (yR 65 [M 7,M 8,Pv 65,Xx 10,Pv 66,Xx 11,Pn 4,Xx 12,Pn 5,Xx 13])
 (q (q (yR 67 [M 9])
 (i 67 (.gh (.thaw 5 0 17001 1) (.hg (yR 68 [M 5,M 8,Pn 1,Sb,Ix 1,L 17001,M 8,Pn 1,Sb,Pv 72,Xx 10,Pv 74,Xx 11,Pn 7,Xx 12,Pn 6,Xx 13]) (.shut 5 0 17001 1))) e))
 (q (yR 76 [M 0,M 10,M 7,Pn 1,Ad,M 11,C4 Zkw 4,Xx 75,Pv 75,Xt 0,Pv 75,Xt 1,Al [cs [],ci 0,cb false] 14,Al [ci 0,ci 0] 15,Pv 82,Sz 3 14,Pv 83,Sz 2 15])
 (q (q (yR 84 [Gg 0 15,Pn 0,Qn])
 (i 86 (q (yR 87 [Ln 2 15,Pz 4,Xx 2,Pv 87,Sz 2 3])
 .ret) e))
 (q (yR 88 [M 12,Xx 16])
 (q (yR 89 [E 5,M 11,Q (⟨(.sliceU 1),[v 89,v 90],[89],[91],none,true⟩),Dd 92,E 6,M 11,Q (⟨(.sliceU 1),[v 92,v 93],[92],[94],none,true⟩),Pv 91,N 5,Pv 94,N 6])
 (q (q (yR 95 [Gg 2 14])
 (i 96 (q (yR 97 [M 13,Xx 16])
 (yR 98 [E 5,M 10,Bs 1,Q (⟨(.appendU 1),[v 98,v 100],[98],[101],none,true⟩),Dd 102,E 6,Pn 0,Bs 1,Q (⟨(.appendU 1),[v 102,v 103],[102],[104],none,true⟩),Pv 101,N 5,Pv 104,N 6])) e))
 (q (yR 105 [E 4,M 16,Gg 0 14,M 7,Gg 1 14,M 7,Sb,W4 (.build [ci 0,cs [],ci 0,ci 0] [(0,1),(1,1),(2,1),(3,1)]),Bs 4,Ap 4,N 4])
 (q (yR 117 [M 0,Gg 1 14,C2 Zeu 2,Xx 7])
 (ex 1)))))))))) e))
 (q (yR 122 [M 0,M 7,C2 ZmT 2,Xx 121,Pv 121,Xt 0,Pv 121,Xt 1,Al [ci 0,cs [],ci 0,ci 0] 17,Al [ci 0,ci 0] 18,Pv 125,Sz 4 17,Pv 126,Sz 2 18])
 (q (q (yR 127 [Gg 0 18,Pn 0,Qn])
 (i 129 (q (yR 130 [Ln 2 18,Pz 4,Xx 2,Pv 130,Sz 2 3])
 .ret) e))
 (q (q (yR 131 [M 8,Pn 0,Qg,J true,Gg 0 17,Pn 8,Qe,Y,J true,Gg 1 17,Ps [40],Qe,Y])
 (i 142 (.gh (.thaw 6 0 17000 1) (.hg (yR 143 [M 6,M 8,Pn 1,Sb,Ix 1,L 17000,Pn 1,Ad,Pv 143,Pv 145,Ix 1,Pv 148,Sf 1 7000]) (.shut 6 0 17000 1))) e))
 (q (q (yR 150 [M 8,Pn 0,Qg,J true,Gg 0 17,Pn 8,Qe,Y,J true,Gg 1 17,Ps [41],Qe,Y])
 (i 161 (.gh (.thaw 6 0 17000 1) (.hg (yR 162 [M 6,M 8,Pn 1,Sb,Ix 1,L 17000,Pn 1,Sb,Pv 162,Pv 164,Ix 1,Pv 167,Sf 1 7000]) (.shut 6 0 17000 1))) e))
 (q (yR 169 [E 4,Ln 4 17,Bs 4,Ap 4,N 4])
 (yR 173 [M 0,M 7,Gg 3 17,Ad,C2 Zeu 2,Xx 7])))))))))))))))
 (q (q (yR 179 [M 5,Ll,Pn 0,Qg])
 (i 181 (q (.gh (.pub 5 0) (yR 182 [Pn 11,M 5,M 5,Ll,Pn 1,Sb,Ix 1,Lo,B (.build [ci 0,ci 0] [(0,1),(1,1)]),Pz 4,Xx 2,Pv 188,Sz 2 3]))
 .ret) e))
 (q (yR 189 [E 4,Z (.build [ci 0,ci 0] []),Pv 189,N 2,Pv 190,Sz 2 3])
 .ret))))))))⟩
def ZcO:SFunc:=dcs ".X%;v~$~;CF$:M#w<O.X%oF%x';v~$~;CF%:M#;v~$~;CF#:M#w1i0<l;v~$~;CF#:M#;v~$~;CF%:M#w&,X%n#w#`%R$" [] []
def ZdK:SFunc:=dcs ".X)Y=M%oF$x';v~$~;CF%:M#;v~$~;CF#:M#JY=M$oF#x';v~$~;CF%:M#;v~$~;CF#:M#J<l;v~$~;CF#:M#;v~$~;CF%:M#w*X)fw#`)R&" [] []
def Zfp:SFunc:=dcs ".X)fw#O.X)tw#'#F%:v/+n$;v~$~;CF%:M#w/i.r#&M%M$M#w*,X)fw#`)R&" [Zar] [Q (⟨(.storeO 1),[v 17,v 15,v 9999],[9999],[9999],none,false⟩)]
def Zf0:SFunc:=dcs ".X'r#&M$n,M#w(X'fw#`'R%" [ZcH] []
def ZcN:SFunc:=dcs ".X'Y=M$oF#x';v~$~;CF%:M#;v~$~;CF#:M#J<l;v~$~;CF#:M#;v~$~;CF%:M#w(X'fw#`'R%" [] []
def Zfm:SFunc:=dcs ".X(fX'P#w#O.X(tX'M)w@'#F%:v9+n$;v~$~;CF%:M#w9X)oF$x';v~$~;CF%:M#;v~$~;CF#:M#w.i,p#%M$M#w*,X(fX'P#w#`(`'R%" [Zbp] [Q (⟨(.storeO 1),[v 27,v 25,v 9999],[9999],[9999],none,false⟩)]
def Zfx:SFunc:=dcs ".X'r#&M$n+M#w(X'fw#`'R%" [ZcH] []
def Zd9:SFunc:=dcs ".X&tN%E'wDX(p#%P$)M#yBN'A.B.L.)E'w>s$)v<H$)M*w<O.X&fN%E'w;i:!M+w9,X+v8X*v7T$v4T#v4X4p$%n%M#w5S.)v3a#)(,$(#$)%#d%$M#n,w1k$h#Oi0M(w0,|_(_'_#Ck#X(tw#,X'z.w#O.X&tX%z.w#i/!p#%P$>M#w,,X&fX%z.w#}{`&`%R$" [Zad,Zak,Zal] []
def Zdn:SFunc:=dcs ".X(vVN'vUM0E$wUX0p#%P$BM#wSX)p#%P$0M#yQN$A.B.L.*E$wMV$*vKH+*E.wKO.X(fN'E$wJiI!M/wH,X/vGN.vFT$vCu#vCNCd$$M#wDs$*vAH$*M+wAO.X(fN'E$w@i?!M,w>,X,v=X+v<T$v9T#v9X9p%%n%M#w:S.*v8a#*(,$(#$)%#d&$M#n+w6k$h#Oi5M)w5,|_)_$_#Ck#X)tw#,O.X(tN'E$w4i3!p#%P$@M#w1,X(fX'z.w#`(`'R%" [Zad,Zb8,Zak,Zal] []
def ZeW:SFunc:=dcs ".X&tN%E'w;X(p#%P$0M#y9N'A'B'L')E'w5O.X&fN%E'w4i3!M*w2,X*v1S')v0a$)T$v,u#v,N,d$$M#w.k$h#Oi+M(w+,|_(_'_#Ck#X(tw#,X'z'w#X&fX%z'w#`&`%R$" [Zad,ZaJ] []
def Zfj:SFunc:=dcs ".X&tS'%(&$($$(#$),$E)M'M,wyOX'P#y#ix#n)M,ww,OX,n/y#ioXoY=P'[jfpM'J=n$lM)wpX,n(y#igXgY=P(Ewwf~$#M'J=n$lM)whX,n'y#i_X_Y=P'YsnyM'J=n#lM)w`X,n&y#iVXVY=P'Xj}yM'J=n#lM)wWX,n%y#iNXNY=P'FttqM'J=n#lM)wOX,n$y#iFXFY=P&MsyM'J=n#lM)wGk#,X,n)w#ON)E*yEO.X&fS'%)#$wDiCY!p#%P$BM#j!M+w=,X+v<N*v;T$v8u#v8N8d$$M#w9i7p#%P$@M#w6,X)z'w#O.X&fS'%)#$w5i4!M(w3,X(v2X'v1T$v.T#v.X.p%%n%M#w/X&fa$%w#}{`&Q%'R$" [Zad,Zbw,Zak] []
def Zgi:SFunc:=dcs ".X&v{S'%vzM1L'0wzX1M3yyS'0(&$($$(#$),$B'L'0M2n+wuX3vtX2vsT$vpT#vpXpp#%n%M#wqk$h#OioYp$%P$2M#JM1wk,_~$~;P_~$~;F|_1_0_%_#Ck#,X1vjS'0via$0T$vfu#vfNfd%$M#wgO.X&veS'%vdM.L')wdV$)vbH&)E/wbN/A'B'L',m~$~;JH&)w]X.v[S',vZa$,T$vWu#vWNWd&$M#wXO.X&fS'%L')wViU!p$%P%1BM#wS,OV$)vQH&)E*yQO.X&fS'%L')wPiOY!p$%P$,M#j!M+wI,X+vHN*vGT$vDu#vDNDd'$M#wEiC!p$%P$,M#wA,S')v@a$)(#$)$$n.w@i?p$%P$+M#w>,O.X&v=S'%v<M(($$(#$)%$M'n,w;X(v:X'v9T$v6T#v6X6p#%n%M#w7i5p(%P&fs~$#M#w4,X&fa$%w#}{`&Q%'R$" [Zak,Zad,Zcd,ZaJ,Zbw,Zaj] []
def ZjD:SFunc:=dcs ".N#'#'$P$(P$3P$.^$P$1P$/'%P%BAP$BP%@AP$@P%$AP%AAB$P%))B$P%~$&~$&w$X#z$w#{`#R#" [] [W5 (.buildSlice 1),V (.buildSlice 1),W6 (.buildSlice 1)]
def Zjc:SFunc:=dcs ".X%M&w7I'y,X&+'#eUT%M'M#'$n.M&y/k$,h#Oi+<$M#M'w(,|_'_&_#Ck#X'n#w#,X&n#w#X%n#w#`%R$" [] [U (.conv .i64),B (.bin .mul)]
def Zcg:SFunc:=dcs "V$'viH+'E,yiN,A.B.L.*m~$~;HH+'wdO.X&fS.%L.'wcibYY!p#%n*M#J!p#%n)M#j!M+wV,X+vUS.*vTa#*T$vQu#vQNQd$$M#wRO.X&tS.%L.'wPiO=n*G#(wM,V$'vKH+'E)wKN)A.B.(,$($$(#$)&#G%(G$(nXm~$~;HH+'wB'#F%:v;+n$;v~$~;CF%:M#w;Z'(v:a+(q'x';v~$~;CF%:M#;v~$~;CF#:M#w1k$_~$~;H_~$~;F|_'_&_%_#Ck#S.'v0a#'(,$(#$)%#d%$M#nYw.X&fa#%w#}{`&Q%.R$" [Zbp,Zas,Zal] [Q (⟨(.storeO 1),[v 29,v 27,v 9999],[9999],[9999],none,false⟩)]
def Zfz:SFunc:=dcs ".X&vIS.%vHM)L.*wHX)M,yGS.*(+$(,$($$(#$).#B.L.*M'M+n[wBX,vAX+v@T$v=T#v=X=p#%n$M#w>k$h#Oi<Yp$%P$2M#JM)w8,_~$~;K_~$~;F|_*_)_'_%_#Ck#,S.*v7a#*(,$($$(#$)&#M'M(nZw5X)v4X(v3T$v0T#v0X0p#%n$M#w1X'd%$M#w.X&fa#%w#}{`&Q%.R$" [Zak,Zad,Zal] []
def Zft:SFunc:=dcs ".X(vUN'vTM.E$wTX.p#%P$,M#wRX)p#%P$0M#yPN$A.B.L.+E$wLO.X(fN'E$wKiJ!M,wI,X,vHS.+vGT$vDu#vDNDd$$M#yES.+(+$(,$(#$),#B.L.+M*ncy@X,v?S.+v>T$v;u#v;N;d%$M#w<i:p#%P$)M#w9,X,fw#a#+w#X*d&$M#w7k$h#Oi6M)w6,|_)_$_#Ck#X)tw#,O.X(tN'E$w5i4p#%P$,M#w3,O.X(fN'E$w2i1!p#%P$+M#w/,X(fX'z.w#`(`'R%" [Zad,Zas,ZdN,Zal] []
def Zed:SFunc:=dcs ".X(vaN'v`M0E$w`X0p#%P$,M#w^X)p#%P$0M#y[N$A.B.L.*E$wWV'*vUH&*L'.wUO.X(fN'E$wTiS!M/wR,X/vQS'.vPa$.T$vMu#vMNMd$$M#wNs$*vKH$*M+wKO.X(fN'E$wJiIY!p#%P$>M#j!M,wC,X,vBX+vAT$v>T#v>X>p%%n$M#w?Os$*n%H%*y=i<p&%P*htsxzrjM#w;s$*n$H%*y:i9p&%P(nstzyM#w8,S.*v7a#*(,$(#$)%#d'$M#n.w5k$h#Oi4M)w4,|_)_$_#Ck#X)tw#,O.X(tN'E$w3i2p#%P$,M#w1,X(fX'z.w#`(`'R%" [Zad,ZaJ,Zak,Zaj,Zal] []
def Zdw:SFunc:=dcs ".X&vaS.%v`M/L.(w`V$(v^H+(A.B.(+$(,$(#$),#E.M'n8E)wXX/vWN.vVT$vSu#vSNSd#$M#wTO.X&fS.%L.(wRiQ!p$%P%nsM#wO,OV'(vMH&(L'+yMO.X&fS.%L.(wLiK!M,wJ,X,vIS'+vHa$+T$vEu#vENEd%$M#wFiDp&%P%1BM#wC,O.X&fS.%L.(wBiA!M*w@,X*v?N)v>T$v;u#v;N;p'%z.M#w<O.X&fS.%L.(w:i9!p&%P$+M#w7,p&%P$~$%M#w5S.(v4a#((&'(,$(#$),#(#$)$$n'M'ndw2X'd($M#w0X&fa#%w#}{`&Q%.R$" [Zbq,Zaj,ZaJ,Zad,Zb9,Zal] []
def Zfo:SFunc:=dcs ".X&fS.%L.'ws.X&tS.%L.'wrO.X&vqS.%vpM2L.'wpV$'vmH+'s$'n$H%'E1wmX2vlN1vkT$vhu#vhNhp#%z.M#wiigr$&P$+n+M#wf,V''vbH&'s$'vaH$'s$'n_H#'L'(M/waO.X&fS.%L.'w`i_!M0w^,X0v]X/v[T$vXT#vXXXp%%n$M#wYOh$S'((&$($$(#$),$B'L'(M,n+wTiSM.wSX.vRX,vQT$vNT#vNXNp%%n%M#wO,O.X&fS.%L.'wMiL!p&%P$2M#wJ,O.X&vIS.%vHM+L.'wHV$'vDH+'V''vCH&'s$'n`H#'E*L'(wCX+vBN*vAT$v>u#v>N>p#%z.M#w?i=r$&P$+n+M#w<,k$h#Oi;M)w;,_~$~;I_~$~;H_~$~;F|_)_(_'_%_#Ck#,X)v:S'(v9a$(T$v6u#v6N6d'$M#w7S.'v5a#'(,$)$#d($M#w3X&fa#%w#}{`&Q%.R$" [Zbu,Zar,Zak,Zad,Zcd,Zal] []
def ZfA:SFunc:=dcs ".X&v~$]S.%v~$[T$v~$Zu#d#$M#w~$YO.X&v~$XS.%v~$WT$v~$Vu#d$$M#w~$Ui~$Tr%&P$~$%n+M#w~$S,O.X&v~$RS.%v~$MYp&%P$,M#JM9L.8w~$MX9v~$LS.8v~$Ka#8T$v~$Hu#v~$HN~$Hd'$M#w~$Ii~$Gp&%P$+M#w~$F,O.X&v~$ES.%v~$DM7L.'w~$DX7p&%P$bM#w~$BX3p&%P$0M#y~$@V$'v~$>H+'E6w~$>N6A.B.L.4m~$~;HH+'w~$9O.X&fS.%L.'w~$8i~$7!M5w~$6,X5v~$5S.4v~$4a#4T$v~$1u#v~$1N~$1d'$M#w~$2k$h#Oi~$0M3w~$0,_~$~;H_~$~;F|_3_'_%_#Ck#X3tw#,O.X&tS.%L.'w~$/i~$.p&%P$bM#w~$,,s$'nhH#'w~$+i~$*p&%P$`M#w~$),O.X&v~$(S.%v~$'M2L.'w~$'s$'v~$$H$'s$'nbH#'M1w~$$X2v~$#X1v}T$vzT#vzXzp(%n$M#w{iyp)%P*htsxzrjM#wx,O.X&tS.%L.'wwO.X&vvS.%vuM0L.'wuV$'vrH+'s$'n]H#'E/wrX0vqN/vpT$vmu#vmNmp*%z.M#wnilr%&P$+n+M#wk,s$'vhH$'s$'nZH#'M,whigM.wgX.vfX,veT$vbT#vbXbp(%n$M#wc,O.X&tS.%L.'was$'nWH#'w`i_p)%P(kfqxjM#w^,O.X&tS.%L.'w]s$'n$H%'s$'nWH#'wZiYp)%P'ywzjM#wX,O.X&vWS.%vVT$vUu#d+$M#wTiSp,%n(M#wR,O.X&tS.%L.'wQs$'vNH$'s$'nXH#'M*wNiMM+wMX+vLX*vKT$vHT#vHXHp(%n'M#wI,O.X&tS.%L.'wGs$'vDH%'s$'nVH#'1.$M(wCiBM)wBX)vAX(v@T$v=T#v=X=p(%n&M#w>,S.'v<a#'(,$)$#d/$M#w:X&fa#%w#}{`&Q%.R$" [ZdL,ZcC,Zar,Zad,Zas,Zak,Zaj,Zbu,Zby,Zbp,Zet,Zal] []
def ZdF:SFunc:=dcs ".X&vfS.%veM(L.'we.X&tS.%L.'wdX(M/ycS.'(+$(,$(#$),#E.G,'naw_X/v^N.v]T$vWu#D]vWNWv['#B.L.'M#wXiVr#&P$+n+M#wUS.'(+$(,$($$(#$).#B.L.'G,'M)n[yOX(M,yNS.'(+$(,$($$(#$).#E+G,'M)n^wIX,vHN+vGT$vBu#DGvBNBvF'$B.L.'M#wCiAr#&P$+n+M#w@O.X&fS.%L.'w?i>!M*w=,X*v<X)v;T$v8T#v8X8p$%n$M#w9i7p%%P$2M#w6k$h#Oi5M(w5,_~$~;H_~$~;F|_(_'_%_#Ck#,X(v4S.'v3a#'T$v0u#v0N0d&$M#w1X&fa#%w#}{`&Q%.R$" [Zar,Zak,Zad,ZdJ] [Q (⟨(.call Zbu true [] 2),[v 52,v 54,v 9999],[9999,54],[55,9999],none,true⟩),Q (⟨(.call Zbu true [] 2),[v 31,v 33,v 9999],[9999,33],[34,9999],none,true⟩)]
def ZeE:SFunc:=dcs ".X&vJS.%vIT$vHu#d#$M#wGO.X&vFS.%vEM+(+$(,$(#$),#B.L.*M'nfwBX+vAS.*v@a#*T$v=u#v=N=d$$M#w>i<p%%P$$M#w;,O.X&v:S.%v9M)(+$(,$(#$),#B.L.(M'ngw6X)v5S.(v4a#(T$v1u#v1N1d$$M#w2i0p%%P$1M#w/,X'd&$M#w,X&fa#%w#}{`&Q%.R$" [ZcE,Za3,Zad,Zal] []
def Zc7:SFunc:=dcs ".X(v}S.'v|M+L.*w|I,yKX+M1y{S.*(+$(,$($$(#$).#^.L.0L.*G,*M.newtX1vsS.0vra#0T$vmu#vmNmp#%+n$M$M#wnp$%M.M#wjO.X(tS.'L.*wiih=P#M.wg,I/yTOX.ox$M/ox$M$M)y`i_r%&ox$M/ox$M$M)n+M#wVk&,h%OiS<lox$M$M)M/wM,_~$~;K_~$~;H|_/_._,_*_)_'_$_#Ck%X/n#w#,X.P#w#k$,h#OiJYY=n#M,j#n%M$JM+wB,_~$~;K_~$~;H|_,_+_*_)_'_$_#Ck#X,n#w#,X+vAS.*v@a#*T$v;u#v;N;p#%+n$M$M#w<O.X(v:S.'v9T$v8u#d&$M#w7i6=lM)M$w3,N)0'#w2X(fa#'w#}{`(Q'.R%" [ZbZ,Zad,Zar,Za3,Zg9] []
def Zfn:SFunc:=dcs ".X&v*S.%v)T$v(u#p#%n#M#w'X&fa#%w#}{`&Q%.R$" [ZbZ] []
def ZeQ:SFunc:=dcs ".X&vhS.%vgM0L.'wgX0p#%P$?M#weO.X&fS.%L.'wdicY!M*j=n#G%'w]V$'vZH+'B.L..yYO.X&fS.%L.'wXiW!M/wV,X/vUS..vTa#.T$vQu#vQNQd$$M#wRiPp#%P$AM#wO,OX*ty#V''vMH&'L'+wMO.X&fS.%L.'wLiK!M,wJ,X,vIS'+vHa$+T$vEu#vENEd%$M#wFiDp#%P$>M#wC,X*fw#s$'vAH$'M(wAO.X&fS.%L.'w@i?!M)w>,X)v=X(v<T$v9T#v9X9p&%n$M#w:p'%P&qjyM#y7s$'n$H%'y6i5p'%P&{fwM#w4,S.'v3a#'(,$(#$)%#d($M#n9w1X&fa#%w#}{`&Q%.R$" [Zad,Zas,ZaJ,Zak,Zaj,Zal] []
def Zcz:SFunc:=dcs ".X&v^S.%v]M+L.'w]V$'vZH+''#L.,L.*L.(wWX+vVS.,vUT$vRu#vRNRd#$M#ySX+vQS.,vPT$vMu#vMNMd$$M#yNiLr%&P%nkn,M#wK,a#,w#O.X&tS.%L.'wJiI!p&%P'jqxjM#wG,V$'vEH+'^.L.*L.(wCO.X&fS.%L.'wBiA!M+w@,X+v?S.*v>a#*T$v;u#v;N;d#$M#w<O.X&fS.%L.'w:i9!M)w8,X)v7S.(v6a#(T$v3u#v3N3d'$M#w4p&%P%nkM#w1S.'v0a#'(,$(#$)%#d($M#n<w.X&fa#%w#}{`&Q%.R$" [Zax,ZaF,Zar,Zaj,Zas,Zal] [V (.buildSlice 10)]
def ZdB:SFunc:=dcs ".X&v~$CS.%v~$BM7L.'w~$BX7p#%P$,M#w~$@V$'v~$>H+'E3w~$>X4p#%P$0M#y~$<N3A.B.L.5E3w~$8O.X&fS.%L.'w~$7i~$6!M6w~$5,X6v~$4S.5v~$3a#5T$v~$0u#v~$0N~$0d$$M#w~$1k$h#Oi~$/M4w~$/,_~$~;H_~$~;F|_4_3_'_%_#Ck#X4tw#,X3z.w#O.X&tS.%L.'w~$.i~$,!p#%P$+M#w~$*,s$'v~$'H$'s$'nQH#'M1w~$'O.X&fS.%L.'w~$&i~$%!M2w~$$,X2v~$#X1v}T$vzT#vzXzp%%n$M#w{O.X&fS.%L.'wyix!p#%P$2M#wv,O.X&tS.%L.'wus$'nOH#'wtisp&%P(kfqxjM#wr,O.X&tS.%L.'wqs$'n$H%'s$'nOH#'woinp&%P'ywzjM#wm,O.X&tS.%L.'wls$'viH$'s$'nPH#'M/wiihM0whX0vgX/vfT$vcT#vcXcp%%n'M#wd,O.X&vbS.%vaM.L.'was$'v^H%'s$'nNH#''#1'$M,w[X.vZX,vYT$vVT#vVXVp%%n&M#wWiUp#%P$1M#wT,O.X&tS.%L.'wSs$'vPH%'s$'nNH#'1'$M*wOiNM+wNX+vMX*vLT$vIT#vIXIp%%n&M#wJ,O.X&tS.%L.'wHs$'vEH$'s$'nMH#'M(wEO.X&tS.%L.'wDs$'nLH#'wCiB=P$dM(wA,i@M)w@X)v?X(v>T$v;T#v;X;p%%n$M#w<,S.'v:a#'(,$)$#d($M#w8X&fa#%w#}{`&Q%.R$" [Zad,ZaO,Zak,Zaj,Zet,Zal] [U .neg]
def ZeN:SFunc:=dcs ".X(v~$+S.'v~$*M6L.)w~$*X6p#%P$~$'M#w~$(V$)v~$&H+)E,w~$&ON,A.B.L.3E,y}V$3v{H+3^.L.4(,$(#$)%#G,3nLwwO.X(fS.'L.)wviu!M5wt,X5vsS.4vra#4T$vou#voNod$$M#wpp%%P*ijkfzqyM#wmS.3vla#3(,$(#$)%#d&$M#n?wjiir'&P*ijkfzqyn,M#wh,N,A.B.L..E,ydV$.vbH+.^.L.1L./w`O.X(fS.'L.)w_i^!M2w],X2v[S.1vZa#1T$vWu#vWNWd$$M#wXO.X(fS.'L.)wViU!M0wT,X0vSS./vRa#/T$vOu#vONOd($M#wPp%%P'hfxjM#wMS..vLa#.(,$(#$)%#d&$M#n?wJk$h#OiIr'&P'hfxjn,M#wH,_~$~;J_~$~;H|_,_)_'_#Ck#,N,B.L.*wFO.X(fS.'L.)wEiDY!p#%P$~$%M#j!M+w>,X+v=S.*v<a#*T$v9u#v9N9d)$M#w:S.)v8a#)(,$(#$)%#M$n>w7X(fa#'w#}{`(Q'.R%" [Zad,Zax,Zaj,Zal,Zar,ZaO,Zas] []
def Zny:SFunc:=dcs ".X%=nZG#$w4S.$q.x.n#G+$y0k$h#Oi/Y=n$lG+$J=n[G#$w&,_~$~;E|_$Ck#,X%fb$v#w#`%R$" [] []
def Zeb:SFunc:=dcs ".X&vZS.%vUYp#%P$?M#JM+(+$(,$(#$),#^.L.*L.'G,'n:wPX+vOS.*vNa#*T$vKu#vKNKd$$M#wLp#%P$AM#wIO.X&fS.%L.'wH'#F&:vCG,'M#wCiB!1%$L.'w@,O.X&v?S.%v>M)(+$(,$(#$),#B.L.'G,'n;w:X)p#%P$?M#w8i7!r&&P$An+M#w5,O.X&fS.%L.'w4i3!M(w2,X(v1S.'v0a#'T$v,u#v,N,d$$M#w.X&fa#%w#}{`&Q%.R$" [Zad,Zas,Zki,Zar] [Q (⟨(.storeO 1),[v 35,v 33,v 9999],[9999],[9999],none,false⟩)]
def ZcS:SFunc:=dcs ".X&v~$oS.%v~$nT$v~$mu#d#$M#w~$lO.X&v~$kS.%v~$jM9(+$(,$(#$),#B.L.8M'nCw~$gX9v~$fS.8v~$ea#8T$v~$bu#v~$bN~$bd$$M#w~$ci~$_X~$_p%%P(ijkjwM#w~$`.X&v~$^S.%v~$]M7(+$(,$($$(#$).#^.L.6L.2M'M4nBw~$WX7v~$VS.6v~$Ua#6T$v~$Ru#v~$RN~$Rd$$M#w~$SO.X&fS.%L.2w~$Qi~$P!M5w~$O,X5v~$NX4v~$MT$v~$JT#v~$JX~$Jp&%n$M#w~$KO.X&fS.%L.2w~$Ii~$HY!p%%P(hfyhmM#j!M3w~$B,X3v~$AS.2v~$@a#2T$v~$=u#v~$=N~$=d$$M#w~$>i~$:X~$:p%%P%itM#w~$;.X&v~$9S.%v~$4Yp'%P$?M#JM1(+$(,$(#$),#B.L.0M'nAw~$1X1v~$0S.0v~$/a#0T$v~$+u#v~$+N~$+d($M#w~$,i~$(X~$(p%%P(ymwt|M#w~$).X&v~$'S.%v}Yp'%P$?M#JM/L.,w}V$,v{H+,B.L..wzX/vyS..vxa#.T$vuu#vuNud($M#wvO.X&tS.%L.,wtisp'%P$?M#wr,S.,vqa#,(,$(#$)%#M'n@wpimXmp%%P)wjyzwsM#wn.X&vlS.%vkT$vju#p)%M'M#whieXep%%P(rfyhmM#wf.X&vdS.%vcM+(+$(,$(#$),#^.L.*L.(M'n=w_X+v^S.*v]a#*T$vYu#vYNYd$$M#wZO.X&fS.%L.(wXiW!M)wV,X)vUS.(vTa#(T$vQu#vQNQd($M#wRiNXNp%%P(|mnqjM#wO.X&vMS.%vLT$vKu#d*$M#wJiGXGr+&P%nkn,M#wH.X&vFS.%vET$vDu#d,$M#wCi<X<Yr+&P&{fwn,M#jr+&P&qjyn,M#w=k#,X'd.$M#w:X&fa#%w#}{`&Q%.R$" [ZcL,Zax,Zaj,Zak,Zad,Zas,Zc5,ZaF,Zar,Zde,Zal] []
def ZcG:SFunc:=dcs ".X&tN%E'w:N'A.B.L.(E'y6O.X&fN%E'w5i4!M)w3,X)v2S.(v1a#(T$v.u#v.N.d#$M#w/k$h#Oi,!p$%P$~$'M#w*,|_'_#Ck#,X'z.w#X&fX%z.w#}{`&`%R$" [Zbg,Zad] []
def ZeG:SFunc:=dcs ".X&v:S.%v9M)L.'w9V$'v7H+'E(w7X)v6N(v5T$v2u#v2N2d#$M#w3O.X&fS.%L.'w1i0!p$%P$~$%M#w.,S.'v,a#'(,$(#$)%#d%$M#n8w*X&fa#%w#}{`&Q%.R$" [Zbq,Zad,Zal] []
def Zd8:SFunc:=dcs ".X(v~$@S.'v~$?M6L.&w~$?X6p#%P$~$'M#w~$=V$&v~$;H+&E+w~$;ON+A.B.L.3E+y~$7V$3v~$5H+3B.L.4w~$4O.X(fS.'L.&w~$3i~$2!M5w~$1,X5v~$0S.4v~$/a#4T$v~$+u#v~$+N~$+d$$M#w~$,p%%P)ijnsnyM#w~$)S.3v~$(a#3(,$(#$)%#d&$M#n3w~$&i~$%r'&P)ijnsnyn,M#w~$$,N+A.B.L..E+y{V'.vyH&.L'1wyO.X(fS.'L.&wxiwY!p#%P$?M#j!M2wq,X2vpS'1voa$1T$vlu#vlNld($M#wms$.vjH$.M/wjO.X(fS.'L.&wiihY!p#%P$>M#j!M0wb,X0vaX/v`T$v]T#v]X]p)%n$M#w^p%%P&qjyM#yZs$.n$H%.yYiXp%%P&{fwM#wW,S..vVa#.(,$(#$)%#d&$M#n1wTk$h#OiSYr'&P&{fwn,M#jr'&P&qjyn,M#wN,_~$~;H_~$~;G|_+_'_&_#Ck#,O.X(fS.'L.&wMiLY!p#%P$~$%M#j!M,wF,X,vEN+vDT$vAu#vANAp*%z.M#wBs$&v?H$&M)w?O.X(fS.'L.&w>i=!M*w<,X*v;X)v:T$v7T#v7X7p)%n%M#w8X(fa#'b&v$w#}{`(Q'.R%" [Zad,Zax,Zaj,Zal,Zar,ZaJ,Zak,Zbn] []
def Zfw:SFunc:=dcs ".X(v~$)S.'v~$(M3L.&w~$(X3p#%P$~$'M#w~$&V$&v~$$H+&E+w~$$N+A.B.L..E+y{O.X(fS.'L.&wziy!p#%P$?M#ww,OV$.vuH*.E1yuO.X(fS.'L.&wtisY!p#%P$,M#j!M2wm,X2vlN1vkT$vhu#vhNhd$$M#wiigp#%P$+M#wf,s$.vdH$.M/wdO.X(fS.'L.&wcib!M0wa,X0v`X/v_T$v[T#v[X[p%%n$M#w]O.X(fS.'L.&wZiY!p&%P'hfxjM#wW,Os$.n$H%.yViUp&%P+nsinwjhyM#wT,S..vSa#.(,$(#$)%#d'$M#n2wQk$h#OiPYr(&P'hfxjn,M#jr(&P+nsinwjhyn,M#wK,_~$~;H_~$~;G|_+_'_&_#Ck#,O.X(fS.'L.&wJiIY!p#%P$~$%M#j!M,wC,X,vBN+vAT$v>u#v>N>p)%z.M#w?s$&v<H$&M)w<O.X(fS.'L.&w;i:!M*w9,X*v8X)v7T$v4T#v4X4p%%n%M#w5X(fa#'b&v$w#}{`(Q'.R%" [Zad,Zbw,Zak,Zaj,Zal,Zar,Zbn] []
def ZeM:SFunc:=dcs ".X(tN'E$wgX)p#%P$0M#yeN$A.B.L.*E$wa.X(fN'E$w`V$*v^H**B'L'0y]s$*n%H%*w[O.X(fN'E$wZiY!M1wX,X1vWS'0vVa$0T$vSu#vSNSd$$M#wTiRp#%P%AAM#wQs$*vNH$*s$*n$H%*M.yNO.X(fN'E$wMiL!M/wK,X/vJX.vIT$vFT#vFXFp%%n%M#wGiEp#%P$>M#wD,V'*vBH&*L'+wBO.X(fN'E$wAi@!M,w?,X,v>S'+v=a$+T$v:u#v:N:d$$M#w;S.*v9a#*(,$(#$)%#d&$M#n0w7k$h#Oi6M)w6,|_)_$_#Ck#X)tw#,O.X(tN'E$w5i4!p'%P(|mjwjM#w2,X(fX'z.w#`(`'R%" [Zad,ZaJ,Zak,Zal,Zaj] []
def Zdl:SFunc:=dcs ".X(tS.'L.)w~$HV$)v~$FH+)E,w~$FON,A.B.L.4E,y~$BO.X(fS.'L.)w~$Ai~$@!M5w~$?,X5v~$>S.4v~$=a#4T$v~$:u#v~$:N~$:d#$M#w~$;s$)n$H%)w~$9i~$8M$w~$8,O.X(fS.'L.)w~$7i~$6!M.w~$5,X.v~$4N,v~$3T$v~$/u#D~$3v~$/N~$/v~$2'#E,M#w~$0OV')v~$,H&)L'2y~$,O.X(fS.'L.)w~$+i~$*!M3w~$),X3v~$(S'2v~$'a$2T$v~$$u#v~$$N~$$d$$M#w~$%i~$#p%%P%1BM#w},ON,A.B.L./E,yyV'/vwH&/L'0wwO.X(fS.'L.)wviuY!p%%P$,M#j!M1wo,X1vnS'0vma$0T$vju#vjNjd$$M#wkO.X(fS.'L.)wiih!p%%P$+M#wf,p&%P)ymwt|xM#wdS./vca#/(,$(#$)%#d'$M#n/wai`r(&P)ymwt|xn,M#w_,O.X(fS.'L.)w^i]!M.w[,X.vZN,vYT$vUu#DYvUNUvX'$E,M#wVO.X(fS.'L.)wTiSY!p%%P$+M#j!M.wM,X.vLN,vKT$vHu#vHNHp)%z.M#wIs$)vFH$)M*wFO.X(fS.'L.)wEiD!M+wC,X+vBX*vAT$v>T#v>X>p*%n$M#w?O.X(fS.'L.)w=i<!p&%P'kzshM#w:,S.)v9a#)(&'(,$(#$),#(#$)$$n'd'$M#n*w6X(fa#'w#}{`(Q'.R%" [Zax,ZaJ,Zad,Zaj,Zal,Zar,Zbn,Zak] [Q (⟨(.call Zcu true [] 2),[v 101,v 102,v 9999],[9999,102],[103,9999],none,true⟩),Q (⟨(.call Zb9 true [] 2),[v 50,v 51,v 9999],[9999,51],[52,9999],none,true⟩)]
def Zc8:SFunc:=dcs ".X(v~$&S.'v~$%M4L.&w~$%X4p#%P$~$'M#w~$#V$&v|H+&E+w|N+A.B.L.2E+yxO.X(fS.'L.&wwivY!p#%P$?M#j!M3wp,X3voS.2vna#2T$vku#vkNkp$%fM#wlk&h%Oijr%&P'kzshn,M#wi,_~$~;H_~$~;G|_+_'_&_#Ck%,N+A.B.L.,E+yeV$,vcH+,E0wcO.X(fS.'L.&wbiaY!p#%P$?M#j!M1wZ,X1vYN0vXT$vUu#vUNUd&$M#wVs$,vSH$,M.wSO.X(fS.'L.&wRiQ!M/wP,X/vOX.vNT$vKT#vKXKp'%n%M#wLp(%P'y~$#ujM#wIS.,vHa#,(,$(#$)%#d)$M#n4wFk$h#OiEr%&P'y~$#ujn,M#wD,_~$~;H_~$~;G|_+_'_&_#Ck#,X+z.w#s$&vBH$&M)wBO.X(fS.'L.&wAi@Y!p#%P$~$%M#j!M*w:,X*v9X)v8T$v5T#v5X5p'%n%M#w6X(fa#'b&v$w#}{`(Q'.R%" [Zad,Zbm,Zar,Zb8,Zak,Zaj,Zal] []
def Zee:SFunc:=dcs ".X(v~$AS.'v~$@M7L.&w~$@X7p#%P$~$'M#w~$>V$&v~$<H+&E.w~$<N.A.B.L.5E.y~$8O.X(fS.'L.&w~$7i~$6!M6w~$5,X6v~$4S.5v~$3a#5T$v~$0u#v~$0N~$0p$%tM#w~$1k&h%Oi~$/r%&P'kzshn,M#w~$.,_~$~;H_~$~;G|_._'_&_#Ck%,N.A.B.L.0E.y~$)V'0v~$'H&0L'3w~$'O.X(fS.'L.&w~$&i~$%Y!p#%P$?M#j!M4wz,X4vyS'3vxa$3T$vuu#vuNud&$M#wvs$0vsH$0M1wsO.X(fS.'L.&wriqY!p#%P$AM#j!M2wk,X2vjX1viT$vfT#vfXfp'%n%M#wgp(%P'y~$#ujM#wdS.0vca#0(,$(#$)%#d)$M#n5wak$h#Oi`r%&P'y~$#ujn,M#w_,_~$~;H_~$~;G|_._'_&_#Ck#,O.X(fS.'L.&w^i]Y!p#%P$~$%M#j!M/wV,X/vUN.vTT$vQu#vQNQp*%z.M#wRs$&vOH$&M+wOO.X(fS.'L.&wNiM!M,wL,X,vKX+vJT$vGT#vGXGp'%n%M#wHV'&vEH&&L')wEO.X(fS.'L.&wDiCY!p#%P$>M#j!M*w=,X*v<S')v;a$)T$v8u#v8N8d&$M#w9X(fa#'b&v$w#}{`(Q'.R%" [Zad,Zbm,Zar,ZaJ,Zak,Zaj,Zal,Zcu] []
def Zcm:SFunc:=dcs ".X&vjS.%viT$vhu#p#%tM#wgO.X&vfS.%veT$vdu#p$%L.'M#wbs$'n)H#'wai`p%%P)j}yjsiM#w_,O.X&v^S.%v]T$v[u#p&%L.'M#wYs$'n(H#'wXiWp%%P+uwtythtqM#wV,O.X&vUS.%vTT$vSu#p'%L.'M#wQs$'n'H#'wPiOp%%P(hqfxxM#wN,O.X&fS.%L.'wMiL#n#G%'wJ,O.X&vIS.%vHT$vGu#p(%L.'M#wEs$'n&H#'wDiCp%%P'jszrM#wB,O.X&fS.%L.'wAi@#n#'#n$G%'w=,O.X&v<S.%v;T$v:u#p'%L.'M#w8s$'n%H#'w7i6p%%P)xywzhyM#w5,Os$'v3H%'+n%G%'y1i0p%%P)kwt~$$jsM#w/,Os$'n$H%'y.i,p%%P+rt{jtsq~$#M#w+,S.'v*a#'(,$)$#d)$M#w(X&fa#%w#}{`&Q%.R$" [Zbm,ZcM,Zaj,Zcj,Zcc,ZdQ,Zal] [B (.bin .and)]
def Zo4:SFunc:=dcs ".X&vEX%vC+n$M(M'wCI)y2X('#M+M(y@X'+M*M'w=X+v<X*v;T$v4T#v4X41#$q.x.M)G+$w5k$,h#Oi1<lG+$M)w,,_~$~;E|_)_(_'_$Ck#X)n#w#,X(n#X'n$w#X&n#X%n#b$v#w#`&`%R$" [ZhI] [B .max2]
def Zly:SFunc:=dcs ".X%n#w#O.X%'#w#i.X.=P$~$'v*w/.X%n$w#i+X+=P$~$%v*w,k#G$$w),O.X%n#w#i(#n+G#$w&,X%n#b$v#w#`%R$" [] [Pn (-1)]
def Zi9:SFunc:=dcs ".X%fw#O.X%tw#i+X+=P)kwt~$$jsv*y4Oi+X+=P+rt{jtsq~$#v*w3Oi+X+=P'kzshv*w2Oi+X+=P)j}yjsiv*w1Oi+X+=P+uwtythtqv*w0Oi+X+=P(hqfxxv*w/Oi+X+=P'jszrv*w.Oi+X+=P)xywzhyv*w,,k#G$$w),O.X%fw#i(#n,G#$w&,X%fb$v#w#`%R$" [] []
def Zes:SFunc:=dcs ".X)'#lE#M*waI*y_X++1#$q'x'M*M#M+wWk&h%OiVY!Y&n#M+J1$$q'x'M*M#J<lM#M*wG,|_+_*_#Ck%,I,y>X++1#$q'x'M,M#M+y@k$,h#Oi=Y<lM#M,J<M*M,w5,|_,_+_*_#Ck#X,M$w4,X+n#w#OX*+n$M$y2i1=M$M*w/,X*M%w.X)n#w#`)R&" [Zg3,Zhn] [B .min2]
def ZkN:SFunc:=dcs ".N&v~$KS.%v~$JE,L.*w~$Js$Cv~$GF%:v~$@3#&K~$~;dF%:M)M.M'M)y~$@N,A%B%($$(#$)%%D~$=v~$<n8v~$:'#M)E,y~$:s$C'$F&:M)y~$7N,A%B%($$(#$)%%K~$~;dF&:M)n:E,w~$/i~$.@n#K~$~;dF&:M)w~$),Oh$X++M1M+y~$&V$*v~$$H+*E3w~$$N3A.B.L./m~$~;KH+*wzN,A%B%($$(#$)%%oF%x'M.M'n%E,yqip>n~Py+M1M+wmN,A%B%($$(#$)%%oF%x'M.M'n9E,ydic>nL+n$M2wa,X2v`X1v_T$v[T#v[X[1$$L./w]iZM0wZ,X0vYS./vXa#/T$vUu#DXvUNUvW'%M)wVX.K~$~;dF%:M)wQk$h#OiPY<n8lM,J<lM'K~$~;dF%:M)wE,_~$~;d_~$~;K_~$~;F|_,_+_*_)_'_%Ck#,X,z%w#X+n$w#S.*vDa#*(#$)$#n$wDX)vCbCvB'&$M#M'w?O.N&v>S.%v<B%L%()##w<i;#n#G#(w9,Z%(v8N'v7a%(T$v4u#v4N41%$M#w5X&z%a#%w#{{`&Q%.R$" [Zen,ZhI,Zij] [Q (⟨(.call Zal false [10031] 1),[v 112,v 10031],[10031],[113,10031],none,true⟩),Pn (-1),Q (⟨(.call ZbF false [10031] 1),[v 50,v 10031],[10031],[51,10031],none,true⟩),Q (⟨(.build [ct 4,ci 0,ci 0,ci 0] [(0,1),(1,1),(3,1)]),[v 27,v 29,n (-1)],[27],[30],none,true⟩)]
def ZnE:SFunc:=dcs ".X'M(wPI)yCX(+2#%eM(M$q'x'M)G&%M(yEk$,h#OiBY<M$M(J<lG&%M)w9,_~$~;F|_)_(_%_$Ck#X)n#w#,OI(y7i6Y>n#lG&%j#n#G#%w.,X($G$%w*X'n#b%v#w#`'R%" [Zgc] []
def Zqe:SFunc:=dcs ".X'M(wcI*yUX(+2#%eM(M$q.x.M*G+%M(yWk&,h%OiTY<M$M(J<lG+%M*wK,_~$~;F|_*_(_%_$Ck%X*n#w#,I)y>X(+2$%eM(M$q'x'M)G*%M(y@k$,h#Oi=Y<M$M(J<lG*%M)w4,_~$~;F|_)_(_%_$Ck#X)n#w#,X(+2$%M$g'%H&%$G$%w+X'n#b%v#w#`'R%" [Zjl,Zgc] []
def Zhc:SFunc:=dcs ".X'tw#I(y3O.X'fw#i>!2#%q'x'M(M$q'x'M(M#w5k$,h#Oi2<lM#M(w/,|_(_$_#Ck#X(n#w#,O.X'fw#i.#lM$lM#w),X'fw#`'R%" [ZbG] []
def Ziv:SFunc:=dcs ".X'Y2#%G&&G&%JY=G%&G%%JY=G$&G$%J=G#&G#%w(X'fb&v$b%v#w#`'R%" [ZdD] []
def ZjJ:SFunc:=dcs ".X)tw#I*y5O.X)fw#iA!3#&M%q.x.M*M$q.x.M*M#w7k$,h#Oi4<lM#M*w1,|_*_%_$_#Ck#X*n#w#,O.X)fw#i0#lM$lM#w+,X)fw#`)R&" [ZgL] []
def ZiB:SFunc:=dcs ".X)3#&M%G+'G+&wXO.X)fw#iWY!2$%G*'G*&jY!2%%'#v~$~;HH&''$v~$~;GH&&jYY#G,'G,&JM%jY#G%'G%&jY#G$'G$&j#G#'G#&w*,X)fb'v$b&v#w#`)R&" [Zhb,ZdD,ZbG] [B (.loadB 10004 (some 4)),B (.loadB 10003 (some 4))]
def ZpE:SFunc:=dcs ".X'3#&fL.&L.%w(X'fb&v$b%v#w#`'R%" [ZgL] []
def Znx:SFunc:=dcs ".X%Y2#%'#v~$~;Ev$'$v~$~;Iv(J=n#lE)wDN)vCS.(vBa#(T$v>T#v>N>1$$1%$L.$w?O.X%fw#i=Y>n~$~#t2&%n~$~#u'#v~$~;Ev$jY>nLM'j>n~PyM&w3,X'v2X&v1T$v.T#v.X.1'$L.$w/O.X%fw#i,#n$G#$w*,X%fb$v#w#`%R$" [ZmO,ZgA,Znh,Zjl,ZhI] [B (.loadB 10001 (some 10)),B (.loadB 10005 (some 10))]
def ZlG:SFunc:=dcs ".Z%'($$(#$)%%G,&M#w(a%'b&v$w#Q'%R%" [] []
def Zkp:SFunc:=dcs ".X%n#w#O.X%n&w#i+X+=n'v&w,.X%n%w#i)X)=n&v&w*.X%n$w#i'X'=n%v&w(k#M#w&,X%n#w#`%R$" [] []
def ZhK:SFunc:=dcs ".X%Y=P'WjqkM#jY=P'[jfpM#jY=P(Ewwf~$#M#jY=P'YsnyM#jY=P'Xj}yM#jY=P'FttqM#j=P&MsyM#w&X%fw#`%R$" [] []
def Zs9:SFunc:=dcs ".N'E(w?I)y/ON(A.B.q.x.M)M#E(y8i7=M$oF#x.M)M#w1k$,h#Oi.<lM#M)w*,|_)_(_$_#Ck#X)n#w#,X(z.w#X'z.w#{`'R%" [] []
def ZjC:SFunc:=dcs ".X%Y>n#lG&'jY#P'WjqkG$'jY#n)G#'jY=n%oF%x.n#'#v&j#P'xjqkoF$x.n#M&w3S''v2a$'q'F&x.n#M&w/O.X%tw#i.=n#lM&w+,N&2#%n.G+$w(X%fb$v#w#`%R$" [ZbM] [UT (.mov)]
def ZgI:SFunc:=dcs ".X%fw#I&y;O.X%tw#iB1#$q'x'M&G&$w=k$,h#Oi:<lG&$M&w6,_~$~;E|_&_$Ck#X&n#w#,O.X%tw#i5Y=n#lG&$JY=P'WjqkG$$J=n)G#$w',X%fb$v#w#`%R$" [Zb2] []
def Zi2:SFunc:=dcs ".X&tS.%q.x.n#E'w0O.X&fS.%)##w/i.=n#lM'w+,N'2#%n/G+$w(X&fa#%b$v#w#}{`&Q%.R$" [ZbM] []
def Zlp:SFunc:=dcs ".X%fw#I'y9O.X%tw#ihY1#$'#v~$~;KH&*JM+wcX+vbS.*vaa#*T$vZu#vZNZ1$$q.x.M'M&w[I)yRO.X%tw#iY1#$q'F&x.M)M(wTk&,h%OiQ<lM(M)wN,|_)_(_'_&Ck%X)n$w#,N(2%%n.oF+x.M'M&wHO.X%tw#iGY1#$q'F&x.M'M&j1&$q.x.M'M&w;,k$,h#Oi8<lM&M'w5,|_'_&Ck#X'n#w#,N&2%%n*G+$w2O.X%tw#i1>n#l2%%n4G+$w,,X%fb$v#w#`%R$" [Zb2,ZfN,ZbM,Zhg] [B (.loadB 10007 (some 4))]
def ZkV:SFunc:=dcs ".S)%L)&wyI'y7OV$&vwH(&A$B$1#$L.(m~$~;GH(&yrV$&vpH'&A$B$G$(m~$~;GH'&wkij=n(G#(whOV$&vfH&&A$B$Y#n#'#n$G%(J=n%G#(m~$~;GH&&yYV$&vWH%&A$B$l2$%n+G+(m~$~;GH%&wPV$&vNH$&A$B$M)m~$~;GH$&wJV$&vHH#&A$B$G$(m~$~;GH#&wCiB#n#M)wAX)1%$G#(w>,S.(v=a#(q.x.M'G+$w9k$,h#Oi6<lG+$M'w2,_~$~;G_~$~;F_~$~;E|_'_&_%_$Ck#X'n#w#,S)&v1a3&'$B$tB$P*JwtrMsyB$fB$n$B$n%B$P&Suyw*a3%b$v#w#{Q%)R$" [ZiA,ZbM,Zeq] [B (.bin .and),Q (⟨(.build [ct 1,ct 1,ct 1,ct 1,ct 1,ct 1] [(0,1),(1,1),(2,1),(3,1),(4,1),(5,1)]),[v 7,v 8,v 9,v 10,v 11,v 12],[7,8,9,10,11,12],[13],none,true⟩)]
def ZsK:SFunc:=dcs ".S5#v,'#^&($$(#$)+2B'L'$P'xtrj(#$)$2P'stsjB$P(Zfqzjw&S'$v%a$$($$(#$)%$P(Zfqzjn*w%a'#w#{Q#5R#" [] [Q (⟨(.build zO [(0,1),(1,1),(2,1),(4,1),(6,1)]),[s [79,112,116],n 2,v 3,b true,v 8],[3,8],[9],none,true⟩)]
def Zpu:SFunc:=dcs ".S'#($$(#$)%$P'Wjqkn*w$a$#w#{Q#'R#" [] []
def ZjA:SFunc:=dcs ".S&#(%$(#$)+&B.D+v*P*JwtrMsy'#0##B)L)$w'S)$v&a.$(%'(#$)+.(#$)$$n$P$sw%a&#w#{Q#&R#" [Zg4] [Q (⟨(.build zM [(0,1),(1,1),(2,4)]),[s [109,97,107,101],v 5,v 6],[5,6],[7],none,true⟩)]
def Zi5:SFunc:=dcs ".X'fw#I(y,O.X'tw#i9=oF$x.M$M#oF$x.M(M#w/k$,h#Oi+<M$M(w),|_(_$_#Ck#X(n#w#,X'fw#`'R%" [] []
def Zfv:SFunc:=dcs ".X'Y=n&ox$M(G$%JY@n#M(J=n)G#&w/X(2#%G$&G#%w)X'fb&v$b%v#w#`'R%" [Zct] []
def Zfd:SFunc:=dcs ".N%E&w7I'y,N&A'B'1#$q'x'M'M#E&y/k$,h#Oi+<lM#M'w(,|_'_&_#Ck#X'n#w#,X&z'w#X%z'w#{`%R$" [Zbv] []
def ZhV:SFunc:=dcs ".S'%L'$w*V$$v(H&$1#$G&$w&a$%b$v#w#{Q%'R$" [ZdZ] []
def Zeg:SFunc:=dcs ".X*n#S')L'+w~$eOO.X*nXS'))#$w~$di~$c#M0ox$M2G%&w~$]O.X*nWS'))#$w~$[i~$Z<n#M2w~$Y,X22#%G$'G#&w~$TO.X*nXS'))#$w~$Si~$RY#P'WjqkG$'J1$$G$'w~$K,O.X*n#S')1%$g'(H$(w~$Hi~$GY#n#K~$~;IF#H$(JY=n#M0J=P'WjqkG$'w~$;,O.X*n#S')($$(#$)%$G$'n*w~$8O.X*nXS'))#$w~$7i~$6>n#M0w~$5,i~$4@n#2#%G$'G#(w~$/,i~$,X~$,=n)vZw~$.O.X*n_S'))#$w~$+i~$*ox$M1G(&w~$&O.X*nWS'))#$w~$%i~$$<n#M1w~$#,X12#%G$'G'&wyiwXw=n,vZwxO.X*nBS'))#$wviuY#n+oF#x'n#G&+J#n*oF#x'n#G&+whifXf=n+vZwgO.X*nBS'))#$weid!2&%q'x'n#G&+L)&w^i[X[=n/vZw]k%G#'wY,X0lG&+wVI,y?V$+vTH&+A'B'L'.m~$~;LH&+yPO.X*vOS')vNM/)#$wNiM#n#M/wL,X/vKS'.vJa$.T$vAT#vANA3'&L((q'x'M,G&'L)&wBk$,h#Oi><lG&'M,w:,_~$~;L_~$~;J_~$~;I_~$~;H_~$~;G|_,_+_)_(_'_&Ck#X,n#w#,S'+v9a$+(%$($$(#$)&$G%'G$'G#'w3X*n#a$)b(v%b'v$b&v#w#}{`*Q)'R&" [Zct,ZcW,Zbv,ZdO,ZbE] []
def ZgV:SFunc:=dcs ".X''#+n$M$M(w@I)y5X(+2#%M$q'x'M)G&%M(y7k$,h#Oi4Y&M$M(J<lG&%M)w*,_~$~;F|_)_(_%_$Ck#X)n#w#,X(n$w#X'n#b%v#w#`'R%" [ZcY] [B .min2]
def Znc:SFunc:=dcs ".X%fw#I&y6O.X%tw#i=1#$q'x'M&G&$w8k$,h#Oi5<lG&$M&w1,_~$~;E|_&_$Ck#X&n#w#,O.X%tw#i0Y>n*lG&$J=n.G#$w',X%fb$v#w#`%R$" [Zhd] []
def ZeC:SFunc:=dcs ".X'Yox$M(G&%JY@n#M(J=n)G#&w/X(2#%G$&G#%w)X'fb&v$b%v#w#`'R%" [Zct] []
def Zey:SFunc:=dcs ".X)fw#I*y8O.X)tw#i@3#&fq'x'M*G&'L)&w:k$,h#Oi7<lG&'M*w3,_~$~;H_~$~;G|_*_'_&Ck#X*n#w#,O.X)tw#i2Y2$%'#v~$~;Hv''$v~$~;Gv&J!M%w+,X)fb'v$b&v#w#`)R&" [ZbW,Zdk] [B (.loadB 10004 (some 4)),B (.loadB 10003 (some 6))]
def Zfy:SFunc:=dcs ".X,n#S'+L'.wHO.X,nYS'+)#$wGiF3#&M&L'.L)'wC,O.X,n%S'+)#$wBiAY1$$'#v~$~;Nv.j>nL2%%nLL'.w;,O.X,v:S'+v9M/)#$w9i8#n#M/w7,X/v6S'.v5a$.T$v0u#v0N03&&L()L'(L)'w1X,n#a$+b)v%b(v$b'v#w#}{`,Q+'R'" [ZbW,Zhd,ZcY,ZbE] [B (.loadB 10010 (some 4))]
def ZeT:SFunc:=dcs ".Z%,v~$9S,+v~$8)#%L,.w~$8V'.v~$6H$.L'7w~$6O.Z%,v~$5S,+v~$22#%L.(M8)#)w~$2i~$1#n#M8w~$0,X8v~$/S'7v~$.a$7T$v~$%u#v~$%N~$%4$'>n$M&L()g'(H&(L)'w~$&OV'.v~$#H(.L'5y~$#O.Z%,v}S,+vz2#%L.3M6)#)wziy#n#M6wx,X6vwS'5vva$5T$vpu#vpNp4$'fL()g'3H&3L)'wqioM4woX4vnS.3vma#3T$vju#vjNj1%$L.(wk,I0y@V$.vhH#.A)B)(%'($$(#$),.L'1oF%x.M0M/oF$x.M0M/m~$~;NH#.yXO.Z%,vWS,+vQ2#%q.x.M0E/M2)#)wQiP#n#M2wO,X2vNS'1vMa$1T$vBT#vBNB4$'>n#M&L()q'F&x.M0M/L)'wCk$,h#Oi?<lM/M0w<,_~$~;N_~$~;M_~$~;L_~$~;J_~$~;I_~$~;H|_0_/_._,_+_)_(_'_&Ck#X0n#w#,N/2&%n.G+(w9a).w#a%,a)+b)v%b(v$b'v#w#}{Q,%Q+,R'" [Zat,ZaS,ZfN,ZbM] []
def ZeI:SFunc:=dcs ".Z%,v^S,+v]T$v[u#4#'M&L()L.(L)'wWI/yLO.Z%,vVS,+vQ2$%q.x.M/E.nV)#)wQiP2%%M/M.wNk$,h#OiK<lM.M/wH,_~$~;M_~$~;L_~$~;J_~$~;I_~$~;H|_/_._,_+_)_(_'_&Ck#X/n#w#,O.Z%,vGS,+vE2$%L.(n')#)wEiDY>n#l2&%n0G+(j>n#l2&%n+G+(w9,O.Z%,v8S,+v62$%L.(n%)#)w6i5>n)lM.w3,N.2&%n.G+(w0a%,a)+b)v%b(v$b'v#w#}{Q,%Q+,R'" [Zcy,Zat,Zcf,ZbM] []
def ZdH:SFunc:=dcs ".Z%(v~$|S&'v~${)#%L&)w~${I1y~$&V$)v~$yH%)A.B.D~$xv~$wv~$k'#g'2H(2g'2H$2G#2oF$x.M1M0m~$~;JH%)y~$jI5y~$LO.Z%(v~$iS&'v~$d2#%q.x.M5E4n])#&w~$di~$cYY!2$%0%#q'F%x)M5G#2j>n#M5J=P'xjqkoF$x.M5M4w~$Nk*,h)Oi~$K<lM4M5w~$H,_~$~;R_~$~;J_~$~;I_~$~;H_~$~;F|_5_4_2_1_0_)_(_'_%Ck)X5n#w#,N42&%n.oF+x.M1M0w~$BO.Z%(v~$AS&'v~$@L%3)#&w~$@i~$?#n#G#3w~$=,Z%3v~$<S,2v~$;a%3a)2T$v~$2T#v~$2N~$24''n#($')*00%#q.x.M1M0L)%w~$3O.Z%(v~$1S&'v~$+2#%q.x.M1E0nV)#&w~$+i~$*2(%M1M0w~$(,k(,h'Oi~$%<lM0M1w},_~$~;J_~$~;I_~$~;H_~$~;F|_1_0_)_(_'_%Ck'X1n#w#,N02&%n*G+&wzI+y@V$)vxH$)A%B%L%,m~$~;JH$)ytI.yYV$,vrH$,A$B$G$/m~$~;MH$,ymO.Z%(vlS&'vj2#%L./nL)#&wjii<n#2)%G$/G'%wd,S./vca#/q.x.M.oF+x.M+M*w[k&,h%OiX<loF+x.M+M*M.wQ,_~$~;M_~$~;J_~$~;I_~$~;H_~$~;G_~$~;F|_._,_+_*_)_(_'_&_%Ck%X.n#w#,S%,vPa1,(#$)$1oF$x.M+M*wKO.Z%(vJS&'vE2#%q.x.M+E*nV)#&wEiD2(%M+M*wB,k$,h#Oi?<lM*M+w<,_~$~;J_~$~;I_~$~;H_~$~;G_~$~;F|_+_*_)_(_'_&_%Ck#X+n#w#,N*2&%n4G+&w9S&)v8a&)(#$)$&G$&w6a%(a&'b&v$b%v#w#}{Q(%Q'&R%" [Zat,ZbG,Zg4,ZbM,Zcq,Zcf,Zct] [Q (⟨(.build zM [(0,1),(1,1),(2,4),(6,4)]),[v 164,v 166,v 168,v 170],[166,168,170],[171],none,true⟩)]
def ZdI:SFunc:=dcs ".X'Y@n#2#%M$G'%j@n#2#%M$G#%w(X'fb%v#w#`'R%" [Zct] []
def Zef:SFunc:=dcs ".X)Y2#%M%M$jY2$%oF$x.M%M$'#v~$~;Gv&j1%$oF$x.M%M$w*X)fb&v#w#`)R&" [Zcf,ZbS,ZcW] [B (.loadB 10003 (some 6))]
def Zg1:SFunc:=dcs ".N%E&w7I'y,N&A.B.1#$q.x.M'M#E&y/k$,h#Oi+<lM#M'w(,|_'_&_#Ck#X'n#w#,X&z.w#X%z.w#{`%R$" [ZcQ] []
def ZhL:SFunc:=dcs ".S.%L.$w3V$$v1H+$1#$G+$w/V$$v,H*$1$$G*$w*V'$v(H&$1%$g'$H&$w&a#%b$v#w#{Q%.R$" [ZgY,ZdZ,Zbv] []
def Zea:SFunc:=dcs ".Z%(v~&.S5'v~&,)#%L5)w~&,OV.)v~&*H*)1#$q.x.n#oF+x.n#E.y~&$O.Z%(v~&#S5'v~%z2$%q.x.n#E.nY)#'w~%zi~%yY!G&)J=n$G$)w~%r,i~%q>n#lM.w~%o,I4y~$zV$)v~%mH))A&B&L&5m~$~;JH))y~%iO.Z%(v~%hS5'v~%c2$%q.x.M4E,n%)#'w~%ci~%b>n)lG$5w~%_,I6y~%?V$5v~%]H$5A'B'L'7m~$~;UH$5y~%XO.Z%(v~%WS5'v~%Q2$%q.x.M4E,M8)#'w~%Qi~%P#n#M8w~%O,X8v~%NS'7v~%Ma$7T$v~%AT#v~%AN~%A4%'fL(0q'x'M6oF*x.M4M,L)%w~%Bk*,h)Oi~%><loF*x.M4M,M6w~%7,_~$~;U_~$~;P_~$~;J_~$~;I_~$~;H_~$~;F|_6_5_4_0_._,_)_(_'_%Ck)X6n#w#,S&5v~%6a25(%$(#$)%2=n$oF%x.M4M,oF$x.M4M,w~%*O.Z%(v~%)S5'v~%$2$%q.x.M4E,nV)#'w~%$i~%#2&%M4M,w~$|,k(,h'Oi~$y<lM,M4w~$v,_~$~;P_~$~;J_~$~;I_~$~;H_~$~;F|_4_0_._,_)_(_'_%Ck'X4n#w#,I1y~$BV$)v~$tH()A)B)D~$sv~$rv~$e'#=n$oF%x.M1M+L'2oF$x.M1M+m~$~;JH()y~$dO.Z%(v~$cS5'v~$]2$%q.x.M1E+M3)#'w~$]i~$[#n#M3w~$Z,X3v~$YS'2v~$Xa$2T$v~$MT#v~$MN~$M4%'G&)L(0q'F&x.M1M+L)%w~$NO.Z%(v~$LS5'v~$G2$%q.x.M1E+nV)#'w~$Gi~$F2&%M1M+w~$D,k&,h%Oi~$A<lM+M1w~$>,_~$~;P_~$~;J_~$~;I_~$~;H_~$~;F|_1_0_._,_+_)_(_'_%Ck%X1n#w#,S(0v~$=a00(#$)*0G%)w~$;O.Z%(v~$:S5'v~$82$%L.&n%)#'w~$8i~$7YY=n#lM,J=n%G$)jY>n)lM,jY>n)lM+j>n&lE*w{,I/yWV$)vyH%)A$B$oF$x.M/M*m~$~;JH%)yqO.Z%(vpS5'vk2$%q.x.M/E*nV)#'wkij3'&M/M*L)%wg,O.Z%(vfS5'va2$%q.x.M/E*n')#'wai`>n#loF+x.M/M*wY,k$,h#OiV<lM*M/wS,_~$~;J_~$~;I_~$~;H_~$~;G_~$~;F|_/_._,_+_*_)_(_'_&_%Ck#X/n#w#,N.vRN,vON+vLN*vI2(%n3G+&2(%n2G+&2(%n1G+&2(%n+G+&wGS5)vFa')('$(&$($$(#$)''#n#'$n%G%&#n#'$n$G%&1)$G#&G$&w9a%(a''b&v$b%v#w#}{Q(%Q'5R%" [ZcQ,Zat,ZaS,Zcf,Zca,ZbM,Zeq] [Q (⟨(.build zI [(0,1),(1,4),(5,1)]),[v 158,v 159,v 165],[159],[166],none,true⟩),B (.bin .and)]
def Zhl:SFunc:=dcs ".X''#w#I(y/O.X'M(w9i8=M$oF#x5M(G#%w1k$,h#Oi.<lG#%M(w),_~$~;F|_(_%_$Ck#X(n#w#,X'n#b%v#w#`'R%" [] [Pn (-1)]
def ZkO:SFunc:=dcs ".N)E%wZI+yPN%'#E%q'x'M+G&'L'&yRk$,h#OiO<lG&'M+wK,_~$~;H_~$~;G|_+_'_&_%Ck#X+n#w#,ON%A$B$G$'E%yFiE<n#2#%G$'M%wA,O.N)E%w@i?Y=n&oF$x5M*G#&j<n#M*w5,X*2$%G$'L'&w1O.N)E%w0i/#n)G#'w,,X)z$b'v$b&v#w#`)R&" [Zct,Zc0] [O (cm ZeZ 3 [v 46,v 51,v 52] 52 53)]
def Zm3:SFunc:=dcs ".N'E(wiI*yFI+yZN('#E(q'x'M+oF$x&M*G)&L'%y]k(,h'OiYY!oF%x&M*G)&J<loF$x&M*G)&M+wH,_~$~;G_~$~;F|_+_*_(_&_%Ck'X+n#w#k&,h%OiE<lG)&M*wA,_~$~;G_~$~;F|_*_(_&_%Ck%X*n#w#,I)y6N('$E(q'F$x)M)G(&L'%y8k$,h#Oi5<lG(&M)w1,_~$~;G_~$~;F|_)_(_&_%Ck#X)n#w#,O.N'E(w0i/=n&G$&w,,X(z$w#X'z$b&v$b%v#w#`'R%" [] [O (cm ZeZ 3 [v 56,v 65,v 66] 66 67),O (cm ZeZ 3 [v 20,v 26,v 27] 27 28)]
def Zh3:SFunc:=dcs ".X'fw#I)y:I+yRON(A$B$ox$M+M*E(y[iZ<n#2#%ox$M+M*M(wTk&,h%OiQ<lM*M+wN,_~$~;F|_+_*_)_(_%_$Ck%X+n#w#N*2$%q5x52%%ox$M)M(L'%G#%L'%wBO.X'tw#iA=M$ox$M)M(w<,k$,h#Oi9<lM(M)w6,_~$~;F|_)_(_%_$Ck#X)n#w#,N(2$%q5x52%%M$L'%G#%L'%w,X'fb%v#w#`'R%" [Zct,Zio,Zc0] []
def Zni:SFunc:=dcs ".X%Y&n)M&J=n*G#$w5I&y3S'$q'x'n#G&$w/k$h#Oi.Y&n)M&J=n+G#$w',_~$~;E|_&_$Ck#,X&n$w#X%fb$v#w#`%R$" [] []
def Zia:SFunc:=dcs ".X%tw#I&y:O.X%fw#iB!1#$q'x'M&G&$w<k$,h#Oi9<lG&$M&w5,_~$~;E|_&_$Ck#X&n#w#,O.X%fw#i4Y=n0G#$jY=n+G#$j=n*G#$w',X%fb$v#w#`%R$" [Zdr] []
def Zcn:SFunc:=dcs ".Z%*v~$PN)v~$O)#%E+w~$OI,y5N+A.B.L.0E+y~$KO.Z%*v~$JX)z.2#%q.x.M,E$n'w~$Fi~$EYY!1$$'#v~$~;PH)0JY!1%$'#v~$~;PH)0J=n%oF%x.M,M$j!1%$L'.w~$/,OO.Z%*v~$.X)z.2#%q.x.M,E$M/w~$(i~$'#n#M/w~$&X/v~$$V'0v~$#H)0T$vsT#vsNs4&'fL((q'x'n#oF*x.M,M$L)&wtir=n%oF%x.M,M$wm,S.0vla60'$oF$x.M,M$L'.oF%x.M,M$waO.Z%*v`X)z.2#%q.x.M,E$M/wZiY#n#M/wX,X/vWS'.vVa$.T$vMT#vMNM4&'fL((q'F&x.M,M$L)&wNO.Z%*vLX)z.2#%q.x.M,E$nLwHiGY<n#2'%oF$x.M,M$G'&J=n$oF%x.M,M$w7,k$,h#Oi4<lM$M,w1,_~$~;K_~$~;I_~$~;G|_,_+_*_(_&_$Ck#X,n#w#,X+z.w#a%*X)z.b(v%b&v#w#}{Q*%`)R&" [Zat,Zdr,Zim,ZaS,Zct] [B (.loadB 10012 (some 4)),Q (⟨(.build zR [(0,1),(1,4),(5,1)]),[v 64,v 65,v 70],[65],[71],none,true⟩)]
def ZhG:SFunc:=dcs ".X/tS'.L'1w~$<I2yoV$1v~$:H&1A'B'L'3m~$~;QH&1y~$6O.X/fS'.)#$w~$5i~$4YY#n+G#3JY#n*G#3J=n+G#(j!M4w~$#,X4v}S'3v|a$3T$vqT#vqNq5#(M'L,+L&*L')q'x'M2G&(wrk&,h%Oin<lG&(M2wj,_~$~;Q_~$~;N_~$~;L_~$~;K_~$~;J_~$~;I|_2_1_._+_*_)_(_'Ck%X2n#w#,S'1via$1(%$($$(#$)&$G%(G$(G#(wcO.X/fS'.)#$wbI0yJO.X/tS'.1$$q'x'M0G*+w[iZYox$M0M'J=G$(oF#x%M0G$*wLk$,h#OiI<lG$*M0wE,_~$~;N_~$~;L_~$~;K_~$~;I|_0_._+_*_(_'Ck#X0n#w#,iDY2%%0&#q'x'n#G&(J=n+G#(w:,O.X/tS'.1$$L')w8i72%%0&#L'(w5,X/fa$.b+v&b*v%b)v$b(v#w#}{`/Q.'R(" [Zco,Zbv,ZbG,Zg4] []
def Znk:SFunc:=dcs ".X0Y2#%'#v~$~;Vv6'$v~$~;JH()JM5w~$BX5v~$AS'6v~$@a$6T$v~$8u#v~$8N~$85$(E(L,.L&,L'+g'*H)*w~$9O.X0fw#i~$7Y!2#%'%v~$~;Tv4'$v~$~;JH$)j!M5w~$/,X5v~$.S'4v~$,a$4T$v~$$u#v~$$N~$$5$(M(L,.L&,L'+g'*H%*w~$%I1yCO.X0fw#i~$#Y!2#%'&v~$~;Rv2q'F%x)M1G#)jY#oF$x)M1G$*oF$x)M1G#)jY#oF#x)M1G$*oF#x)M1G#)j!M3wSX3vRS'2vQa$2T$vET#vENE5$(M(L,.L&,L'+q'F%x)M1G$*wFk$,h#OiB<lG#)M1w>,_~$~;N_~$~;M_~$~;L_~$~;K_~$~;J|_1_._,_+_*_)_(Ck#X1n#w#,O.X0fw#i=#lG$*lG#)w7,X0fb.v'b,v&b+v%b*v$b)v#w#`0R)" [ZbG,Zco] [B (.loadB 10018 (some 4)),B (.loadB 10006 (some 4)),B (.loadB 10016 (some 4)),B (.loadB 10014 (some 4))]
def Zfk:SFunc:=dcs ".N%E&w9I'y0N&A$B$ox$M'M#E&y2k$,h#Oi/<lM#M'w+,|_'_&_#Ck#X'n#w#,N&'#lM#n#w(X%z$w#{`%R$" [] [B (.makeSlice 1)]
def ZhZ:SFunc:=dcs ".N%E&wII'y,N&A.B.DGvFv/'#1#$q'F)x.M'M#oF(x.M'M#1#$q'F$x.M'M#oF#x.M'M#E&y/k$,h#Oi+<lM#M'w(,|_'_&_#Ck#X'n#w#,X&z.w#X%z.w#{`%R$" [Zbv] [Q (⟨(.build zR [(0,1),(1,4),(5,1),(6,4)]),[v 16,v 22,v 27,v 33],[22,33],[34],none,true⟩)]
def ZnB:SFunc:=dcs ".S.%1#$q.x.n#E&w/O.S.%)##w.i,=n#lM&w*,N&2$%n8G+$w'a#%b$v#w#{Q%.R$" [ZcQ,ZbM] []
def ZeL:SFunc:=dcd ⟨4,[true,true,false],[.cell 8 10008 (some 9),.tmp 9,.cell 10 10010 (some 2)],
 (q (yR 0 [Pv 0,Bx 4,Pv 1,Bx 5,Al zC 8,Pz 22,Xx 9,Al [ci 0,ci 0] 10])
 (q (yR 38 [Z (.build zC []),Al zC 11,Pv 38,Su 9 11])
 (q (yR 39 [Gg 4 4,Gg 1 5,C2 Zct 2,Xx 12])
 (q (q (yR 44 [M 12,Pn 0,Ql])
 (i 45 (q (yR 46 [Ln 9 11,Pn 40,Ln 10 5,C2 Zat 2,Pv 46,Su 9 8,Pz 22,Xx 9,Pv 48,Sz 2 10])
 .ret) e))
 (q (yR 49 [E 3,M 12,Ix 3,Lq 3,Al [cs [],ct 2,ct 10] 13,Pv 52,Su 3 13])
 (q (yR 53 [Gg 0 4,H 3 5,F 1,L 10005,C2 Zct 2,Xx 14])
 (q (q (yR 59 [H 3 5,F 0,L 10005,Pn 6,Qn,J false,M 14,Pn 0,Ql,Y])
 (i 66 (q (yR 67 [Ln 9 11,Pn 51,Ln 10 5,C2 Zat 2,Pv 67,Su 9 8,Pz 22,Xx 9,Pv 69,Sz 2 10])
 .ret) e))
 (q (q (yR 70 [H 3 5,F 3,L 10005,Ll,Gg 2 4,M 14,Ix 1,Lo,Qn])
 (i 79 (q (yR 80 [Ln 9 11,Pn 52,Ln 10 5,C2 Zat 2,Pv 80,Su 9 8,Pz 22,Xx 9,Pv 82,Sz 2 10])
 .ret) e))
 (q (yR 83 [Gg 1 5,Pn 6,H 3 5,F 1,L 10005,B (.build zT [(0,1),(1,1)]),Pv 91,Gg 1 13,Ll,B (.makeSliceZ 4 [.int .i64 0,.str [],.int .i64 0,.sl 4 []]),Pv 95,Gg 2 13,Ll,B (.makeSliceZ 1 [.str []]),Q (⟨(.build zC [(0,1),(1,4),(7,1),(8,1)]),[v 84,v 88,v 92,v 96],[88,92,96],[97],none,true⟩),Al [cs [],ci 0,cs [],ci 0,ct 4,ct 1,ct 10,.uniq 4 [],.uniq 1 []] 15,Pv 97,Su 9 15])
 (q (q (yR 0 [Pn 0,Xx 16])
 (k 0 (lo [2,4,5,8,10,11,13,14,15,16,9999,10004,10005,10008,10010,10011,10013,10015] (q (q (yR 98 [M 16,H 3 5,F 3,L 10005,Ll,Ql])
 (i 103 e (ex 0)))
 (q (k 1 (q (yR 106 [H 3 5,F 3,L 10005,M 16,Ix 4,Lq 4,Al zT 17,Pv 111,Su 4 17])
 (q (q (yR 112 [Gg 0 17,Pn 6,Qn,J false,Gg 3 17,Ll,Pn 0,Qg,Y,J false,Gg 1 17,C1 ZcW 1,Y,J false,Pv 4,Pv 10004,B (.loadB 10004 (some 6)),Gg 1 17,C2 ZbS 2,Y,J false,Gg 5 15,Gg 1 17,C2 Zct 2,Pn 0,Qh,Y])
 (i 139 (q (yR 140 [Ln 9 11,Pn 4,Ln 10 5,C2 Zat 2,Pv 140,Su 9 8,Pz 22,Xx 9,Pv 142,Sz 2 10])
 .ret) e))
 (q (yR 143 [H 5 15,Lm 10015,Gg 1 17,Bs 1,Ap 1,H 5 15,Pv 148,Sv 1 15])
 (yR 150 [H 1 15,F 3,Lm 10015,Pn 7,Gg 1 17,B (.build zT [(0,1),(1,1)]),Bs 4,Ap 4,H 1 15,F 3,Pv 157,Sv 1 15])))))
 (yR 104 [I 16]))))))
 (q (q (yR 160 [Gg 3 4,M 14,Ix 1,Lo])
 (i 164 (q (yR 165 [Ln 9 11,Pn 53,Ln 10 5,C2 Zat 2,Pv 165,Su 9 8,Pz 22,Xx 9,Pv 167,Sz 2 10])
 .ret) e))
 (q (q (yR 0 [Pn 0,Xx 18])
 (k 2 (lo [2,4,5,8,10,11,13,15,18,9999,10004,10005,10008,10010,10011,10013,10015] (q (q (yR 168 [M 18,M 2,Ll,Ql])
 (i 171 e (ex 2)))
 (q (k 3 (q (yR 174 [M 2,M 18,Ix 10,F 1,Lo,Gg 1 5,Qe,J true,M 2,M 18,Ix 10,F 3,F 1,Lo,H 3 5,F 1,L 10005,Qe,Y])
 (i 193 (q (yR 194 [Ln 9 11,Pn 57,Ln 10 5,C2 Zat 2,Pv 194,Su 9 8,Pz 22,Xx 9,Pv 196,Sz 2 10])
 .ret) e)))
 (yR 172 [I 18]))))))
 (q (yR 197 [Gg 5 15,H 1 15,Lf 4 15,Q (⟨(.build [ct 1,ci 0,cs [],ci 0,ct 4] [(0,1),(1,4)]),[v 198,v 200],[198,200],[201],none,true⟩),Al [ct 1,ci 0,cs [],ci 0,ct 4] 19,Pv 201,Su 5 19])
 (q (yR 203 [Ln 6 4,Gg 8 5,Pn 12,C2 ZbM 2,Ln 5 19,C3 Zbi 3,N 202,Pv 202,Xt 0,Pv 202,Xt 1,Al [ci 0,ci 0] 21,Pv 209,N 20,Pv 210,Sz 2 21])
 (q (q (yR 211 [Gg 0 21,Pn 0,Qn])
 (i 213 (q (yR 214 [Ln 9 11,Ln 2 21,Pv 214,Su 9 8,Pz 22,Xx 9,Pv 215,Sz 2 10])
 .ret) e))
 (q (q (yR 216 [M 20,Ll,Pn 8,Qg])
 (i 218 (q (yR 219 [Ln 9 11,Pn 2,Ln 10 5,C2 Zat 2,Pv 219,Su 9 8,Pz 22,Xx 9,Pv 221,Sz 2 10])
 .ret) e))
 (q (yR 222 [M 20,H 6 15,Pv 222,Sv 1 15])
 (q (yR 224 [Pv 226,Gg 1 13,Ll,B (.makeSliceZ 1 [.bool false]),N 22])
 (q (yR 228 [Gg 8 5,Pn 17,C2 ZbM 2,N 23])
 (q (q (yR 0 [Pn 0,Xx 24])
 (k 4 (lo [4,5,8,10,11,13,15,19,20,22,23,24,9999,10004,10005,10008,10010,10011,10013,10015,10019] (q (q (yR 231 [M 24,M 23,Ll,Ql])
 (i 234 e (ex 4)))
 (q (k 5 (q (yR 0 [Pn (-1),Xx 25])
 (q (q (yR 0 [Pn 0,Xx 26])
 (k 6 (lo [4,5,8,10,11,13,15,19,20,22,23,24,25,26,9999,10004,10005,10008,10010,10011,10013,10015,10019] (q (q (yR 237 [M 26,Gg 1 13,Ll,Ql])
 (i 241 e (ex 6)))
 (q (k 7 (q (yR 244 [Gg 1 13,M 26,Ix 2,F 0,Lo,M 23,M 24,Ix 10,F 1,Lo,Qe])
 (i 255 (yR 256 [M 26,Xx 25]) e)))
 (yR 242 [I 26]))))))
 (q (q (.gh (.thaw 22 0 17001 1) (.hg (yR 257 [M 25,Pn 0,Ql,J false,M 22,M 25,Ix 1,L 17001,Y]) (.shut 22 0 17001 1)))
 (i 264 (q (yR 265 [Ln 9 11,Pn 55,E 23,M 24,Ix 10,Lq 10,C2 Zat 2,Pv 265,Su 9 8,Pz 22,Xx 9,Pv 270,Sz 2 10])
 .ret) e))
 (q (yR 272 [Ln 6 4,M 23,M 24,Ix 10,F 3,Lq 4,Ln 5 19,Pb false,C4 ZaS 4,N 271,Pv 271,Xt 0,Pv 271,Xt 1,Al zT 27,Pv 280,Su 4 27,Pv 281,Xx 28])
 (q (q (yR 282 [M 28,Pn 0,Qn])
 (i 283 (q (yR 284 [Ln 9 11,M 28,E 23,M 24,Ix 10,Lq 10,C2 Zat 2,Pv 284,Su 9 8,Pz 22,Xx 9,Pv 290,Sz 2 10])
 .ret) e))
 (.gh (.thaw 22 0 17001 1) (.gh (.thaw 10015 7 17000 4) (.hg (.hg (yR 291 [Gg 7 15,M 25,M 22,M 25,Ln 4 27,Pv 292,Pv 293,Ix 4,Pv 296,Sv 4 7000,Pv 294,Pv 295,Ix 1,Pb true,Sf 1 7001]) (.shut 10015 7 17000 4)) (.shut 22 0 17001 1))))))))))
 (yR 235 [I 24]))))))
 (q (yR 0 [Pz 22,Xx 29])
 (q (yR 299 [Gg 8 5,Pn 7,C2 ZbM 2,N 30])
 (q (q (yR 0 [Pn 0,Xx 31])
 (k 8 (lo [4,5,8,10,11,13,15,19,20,22,29,30,31,9999,10004,10005,10008,10010,10011,10013,10015,10019] (q (q (yR 302 [M 31,M 30,Ll,Ql])
 (i 305 e (ex 8)))
 (q (k 9 (q (yR 0 [Pn (-1),Xx 32])
 (q (q (yR 0 [Pn 0,Xx 33])
 (k 10 (lo [4,5,8,10,11,13,15,19,20,22,29,30,31,32,33,9999,10004,10005,10008,10010,10011,10013,10015,10019] (q (q (yR 308 [M 33,Gg 2 13,Ll,Ql])
 (i 312 e (ex 10)))
 (q (k 11 (q (yR 315 [Gg 2 13,M 33,Ix 10,F 0,Lo,M 30,M 31,Ix 10,F 1,Lo,Qe])
 (i 326 (yR 327 [M 33,Xx 32]) e)))
 (yR 313 [I 33]))))))
 (q (q (.gh (.thaw 10015 8 17002 1) (.hg (yR 328 [M 32,Pn 0,Ql,J false,Gg 8 15,M 32,Ix 1,L 17002,Ps [],Qn,Y]) (.shut 10015 8 17002 1)))
 (i 337 (q (yR 338 [Ln 9 11,Pn 55,E 30,M 31,Ix 10,Lq 10,C2 Zat 2,Pv 338,Su 9 8,Pz 22,Xx 9,Pv 343,Sz 2 10])
 .ret) e))
 (q (yR 345 [Ln 6 4,M 30,M 31,Ix 10,Lq 10,Ln 5 19,Pn 1,C4 Zcq 4,N 344,Pv 344,Xt 0,Pv 344,Xt 1,Al [ct 6,ci 0,cs [],ci 0,ct 4,ci 0,cs [],ci 0,ct 4] 34,Al [ci 0,ci 0] 35,Pv 352,Su 9 34,Pv 353,Sz 2 35])
 (q (q (yR 354 [Gg 0 35,Pn 0,Qn])
 (i 356 (q (yR 357 [Ln 9 11,Ln 2 35,Pv 357,Su 9 8,Pz 22,Xx 9,Pv 358,Sz 2 10])
 .ret) e))
 (q (q (.gh (.pub 22 0) (.gh (.pub 10015 7) (yR 359 [Ln 9 34,Gg 2 13,M 32,Ix 10,Lq 10,H 1 15,Lf 4 15,Ln 3 13,Ln 9 15,M 22,C6 Zkx 6,Nt])))
 (i 371 (q (yR 372 [Ln 9 11,Pn 56,E 30,M 31,Ix 10,Lq 10,C2 Zat 2,Pv 372,Su 9 8,Pz 22,Xx 9,Pv 377,Sz 2 10])
 .ret) e))
 (q (.gh (.thaw 10015 8 17002 1) (.hg (yR 378 [Gg 8 15,M 32,H 3 5,F 1,L 10005,Ps [58],Ad,Gg 1 5,Ad,Ps [46],Ad,M 30,M 31,Ix 10,F 1,Lo,Ad,Pv 379,Pv 380,Ix 1,Pv 394,Sf 1 7002]) (.shut 10015 8 17002 1)))
 (.gh (.thaw 10015 8 17002 1) (.hg (yR 396 [E 29,Gg 8 15,M 32,Ix 1,L 17002,Gg 5 15,C1 ZdM 1,M 20,C1 Zgh 1,Gg 0 34,H 1 34,Lf 4 34,H 5 34,Lf 4 34,M 30,M 31,Ix 10,Lq 10,C1 Zil 1,Q (⟨(.build zF [(0,1),(1,1),(2,1),(3,1),(4,4),(8,4),(12,10)]),[v 401,v 404,v 406,v 408,v 410,v 412,v 417],[404,406,408,410,412,417],[418],none,true⟩),Pv 396,Pv 418,Dd 419,Bs 22,Ap 22,N 29]) (.shut 10015 8 17002 1)))))))))))
 (yR 306 [I 31]))))))
 (q (q (yR 0 [Pn 0,Xx 36])
 (k 12 (lo [5,8,10,11,15,22,29,36,9999,10005,10008,10010,10011,10015] (q (q (yR 421 [M 36,M 22,Ll,Ql])
 (i 424 e (ex 12)))
 (q (k 13 (q (.gh (.pub 22 0) (yR 427 [M 22,M 36,Ix 1,Lo,Nt]))
 (i 431 (q (yR 432 [Ln 9 11,Pn 55,Ln 10 5,C2 Zat 2,Pv 432,Su 9 8,Pz 22,Xx 9,Pv 434,Sz 2 10])
 .ret) e)))
 (yR 425 [I 36]))))))
 (q (q (yR 0 [Pn 0,Xx 37])
 (k 14 (lo [5,8,10,11,15,29,37,9999,10005,10008,10010,10011,10015] (q (q (yR 435 [M 37,Gg 8 15,Ll,Ql])
 (i 439 e (ex 14)))
 (q (k 15 (q (.gh (.pub 10015 8) (yR 442 [Gg 8 15,M 37,Ix 1,Lo,Ps [],Qe]))
 (i 447 (q (yR 448 [Ln 9 11,Pn 55,Ln 10 5,C2 Zat 2,Pv 448,Su 9 8,Pz 22,Xx 9,Pv 450,Sz 2 10])
 .ret) e)))
 (yR 440 [I 37]))))))
 (q (.gh (.pub 10015 8) (.gh (.pub 10015 7) (yR 451 [Ln 9 15,E 29,Z (.build [ci 0,ci 0] []),Pv 451,Su 9 8,Pv 452,N 9,Pv 453,Sz 2 10])))
 .ret))))))))))))))))))))))))))⟩
def ZiI:SFunc:=dcs ".X%+'#B$'$+'%n.M#nT1#$'&n.M#w.O.X%'#B$'$+M#nTw(i'<n.M#w&,X%P#w#`%R$" [ZgG] [U .convBS,U (.conv .u8),B (.bin .rem),B (.bin .quo)]
def Zjy:SFunc:=dcs ".X'+1#$M(+P$3oF$x.M$E#wEI)y.OI(yCiBY=oF$x.M$M#oF$x.M)M#J=n*oF#x.M)M#w0k$,h#Oi,<M$M)w*,|_)_(_$_#Ck#X)n#w#,X(n#w#X'P#w#`'R%" [ZgG] []
def ZdA:SFunc:=dcs ".Z%*v~%RS:)v~%Q)#%L:/w~%QV'/v~%MH+/V'/v~%KH'/V$/v~%IH&/g'9H(9g'9H$9G#9w~%HI<y~%=V$/v~%FH%/A.B.q.x.M<M;m~$~;OH%/y~%?k,,h+Oi~%<<lM;M<w~%9,_~$~;Y_~$~;O_~$~;K_~$~;J|_<_;_9_/_*_)Ck+X<n#w#,O.Z%*v~%8S:)v~%7L%:)#*w~%7i~%6#n#G#:w~%4,Z%:v~%3N;v~%2T$v~%,u#v~%,N~%,3#&L(5E.L)&w~%.O.Z%*v~%+S:)v~%*L%:)#*w~%*i~%)#n#G#:w~%',Z%:v~%&S,9v~%%a%:a)9T$v~${u#v~${N~${4$'n%L(5L.'L)&w~$|I6y~$[O.Z%*v~$zS:)v~$t2%%q.x.M6E,M8)#*w~$ti~$s#n#M8w~$rX8v~$qS'7v~$pa$7T$v~$gT#v~$gN~$g4&'tL(5q'F&x.M6M,L)&w~$hO.Z%*v~$fS:)v~$a2%%q.x.M6E,nV)#*w~$ai~$`2'%M6M,w~$^,k*,h)Oi~$Z<lM,M6w~$W,_~$~;U_~$~;O_~$~;K_~$~;J_~$~;H_~$~;G|_6_5_/_._,_*_)_'_&Ck)X6n#w#,S(5v~$Va05(#$)*0G$/w~$TI2yoI3y~$3V$/v~$RH%/A.B.D~$Qv~$Pv~$G'#G$4($$(#$)%$oF$x.M2M+n*m~$~;OH%/y~$FO.Z%*v~$ES:)v~$C2%%L.4nL)#*w~$Ci~$B<n#2(%G$4G'&w~$=,S.4v~$<a#4q.x.M3oF+x.M2M+w~$5k(,h'Oi~$2<loF+x.M2M+M3w~$*,_~$~;O_~$~;K_~$~;J_~$~;H_~$~;G|_3_2_/_._,_+_*_)_'_&Ck'X3n#w#V$/v~$(H$/A$B$oF$x.M2M+m~$~;OH$/w{O.Z%*vzS:)vu2%%q.x.M2E+nV)#*wuit3)&M2M+L)&wq,k&,h%Oin<lM+M2wk,_~$~;O_~$~;K_~$~;J_~$~;H_~$~;G|_2_/_._,_+_*_)_'_&Ck%X2n#w#,O.Z%*vjS:)vh2%%L.'n%)#*whigY>n++lM.M0jY>n)lM,j>n&lM+wX,I1yNX0+loF+x.M1M+M0yPk$,h#OiM<lM+M1wJ,_~$~;O_~$~;K_~$~;J_~$~;H_~$~;G|_1_0_/_._,_+_*_)_'_&Ck#X1n#w#,X0n#w#S:/vIa*/(0.(#$)+*1*$L.'M%wFN.vEN,vBN+v?2+%n0G+'2+%n.G+'2+%n+G+'w=a%*a*)b'v$b&v#w#}{Q*%Q):R&" [Zbi,Zcy,Zat,ZaS,Zcf,Zct,Zca,Zil,ZbM] [Q (⟨(.build zR [(0,1),(1,4),(5,1)]),[n 1,v 130,v 132],[130],[133],none,true⟩)]
def Znt:SFunc:=dcs ".Z%&v~&OS'%v~&N)#%L',w~&NI@y~&CV$,v~&LH&,A:B:q:x:M@M7m~$~;MH&,y~&Ek3,h2Oi~&B<lM7M@w~&?,_~$~;M_~$~;G_~$~;F|_@_7_,_&_%Ck2X@n#w#,I=y~%wOV$,v~&=H&,A:B:L:>m~$~;MH&,y~&9O.Z%&v~&8S'%v~&7L%?L''w~&7i~&6#n#G#?w~&4,Z%?v~&3S:>v~&2a%?a*>T$v~&%T#v~&%N~&%3#&2$%M=G+$q.x.M=G+$L)+w~&&i~&$=n*oF#x.M=G+$w~%yk1,h0Oi~%v<lG+$M=w~%r,_~$~;M_~$~;L_~$~;H_~$~;G_~$~;F_~$~;E|_=_7_,_+_'_&_%_$Ck0X=n#w#,I8y~%:OI<y~%iN7A:B:q:x:M<M:E7y~%kk/,h.Oi~%h<lM:M<w~%e,_~$~;M_~$~;L_~$~;H_~$~;G_~$~;F_~$~;E|_<_:_8_7_6_,_+_'_&_%_$Ck.X<n#w#V$,v~%cH%,A,B,L,9m~$~;MH%,w~%_N6A.B.q.x.M8G+$E6w~%VO.Z%&v~%US'%v~%TL%;L''w~%Ti~%S#n#G#;w~%Q,Z%;v~%PN:v~%OS,9v~%Na%;a59T%v~%CT$v~%CT#v~%CN~%C4%'G$,M6q.x.M8G+$L)+w~%Di~%B=n)oF#x.M8G+$w~%<k,,h+Oi~%9<lG+$M8w~%5,_~$~;M_~$~;L_~$~;H_~$~;G_~$~;F_~$~;E|_8_7_6_,_+_'_&_%_$Ck+X8n#w#,X7z:w#X6z.w#I4y~$oO.Z%&v~%4S'%v~%.2&%q.x.M4G+$nZL''w~%.i~%,Y2'%oF$x.M4G+$'#v~$~;Mv,JY=n%M5j=n$M5w~$xX51($oF#x.M4G+$w~$qk*,h)Oi~$n<lG+$M4w~$j,_~$~;M_~$~;L_~$~;H_~$~;G_~$~;F_~$~;E|_4_,_+_'_&_%_$Ck)X4n#w#,I1y~$JOV$,v~$hH#,A5B5L52m~$~;MH#,y~$dO.Z%&v~$cS'%v~$bL%3L''w~$bi~$a#n#G#3w~$_,Z%3v~$^S52v~$]a%3a'2T$v~$TT#v~$TN~$T2)%q.x.M1G+$L)+w~$Ui~$S#n#1($oF#x.M1G+$w~$Lk(,h'Oi~$I<lG+$M1w~$E,_~$~;M_~$~;L_~$~;H_~$~;G_~$~;F_~$~;E|_1_,_+_'_&_%_$Ck'X1n#w#,I.y~$&OV$,v~$CH$,A&B&L&/m~$~;MH$,y~$?O.Z%&v~$>S'%v~$=L%0L''w~$=i~$<#n#G#0w~$:,Z%0v~$9S&/v~$8a%0a&/T$v~$0T#v~$0N~$02*%q.x.M.G+$L)+w~$1i~$/=n(oF#x.M.G+$w~$(k&,h%Oi~$%<lG+$M.w|,_~$~;M_~$~;L_~$~;H_~$~;G_~$~;F_~$~;E|_._,_+_'_&_%_$Ck%X.n#w#,S',v{a(,'$B&0+#B50,#wwS)+vva3+1.$L.$wuI)yMN(A$B$G$*E(ypO.Z%&voS'%vm2&%L.*nVL''wmilY@n#2/%G$*M(j10$G$*wc,Oh$ibY#n(G#*J=n#1($G#*wY,O.Z%&vXS'%vV2&%L.*n%L''wViU=nLM)wT,S.*vSa#*q.x.M)G+$wOk$,h#OiL<lG+$M)wH,_~$~;H_~$~;G_~$~;F_~$~;E|_)_(_'_&_%_$Ck#X)n#w#,N(^$P*JwtrMsyP&SuywGO.Z%&vFS'%vE(#$)$%n'L''wEiD!11$L.$wB,S''vAa(')#(wAa%&a(%b$v#w#}{Q&%Q%'R$" [ZcA,Zhk,Zdh,Zat,Zgj,Zeq,ZcP,ZcB,Zha,ZqH,Zix,Zct,ZcW,Zkt] [B (.loadB 10009 (some 4)),Q (⟨(.build [ct 17,ct 3,ct 9,ct 22] [(0,1),(1,1)]),[v 83,v 85],[83,85],[86],none,true⟩)]
def Znj:SFunc:=dcs ".X(vDS''vA=n#G#,L'+wAZ%,v@S'+v?a%,a(+T$v<u#v<N<1#$L.)w=O.X(fS'')#(w;i:>n#lE*w8,N*v7S.)v6a#)T$v3T#v3N31$$M#w4O.X(fS'')#(w2i1>M$$M#w.,X(fa('w#}{`(Q''R%" [Zkg,ZgA] []
def Ziz:SFunc:=dcs ".N'E#w~$]ON#A$B$P$BE#y~$YI*y~$KN#c#%q'x'M*G&&E#y~$RON#A$B$P$0E#y~$Oi~$N>n#M*w~$M,k),h(Oi~$J<lG&&M*w~$F,_~$~;G|_*_&_#Ck(X*n#w#,N#A$B$P$@E#w~$Ci~$B>n#lG&&w~$?,N#A$B$G$&E#y.N#A$B$P'[jfpE#y~$<i~$:X~$:=n/v,w~$;N#A$B$P(Ewwf~$#E#y~$7i~$5X~$5=n(v,w~$6.N'E#w~$4ON#c#%q'x'en$lG&&G&&E#y~$)i~$(>n#lG&&w~$%,N#A$^$P%1BP$,E#w}I)yoN#c#%q'x'M)G&&E#yvON#A$B$P$0E#ysir>n#M)wq,k',h&Oin<lG&&+n$M)wi,_~$~;G|_)_&_#Ck&X)n#w#,N#A$B$P$+E#wfidXd=n.v,we.N'A$^$G$&P$2E#w_I(yUN#c#%q'x'M(G&&E#yWk%,h$OiT<lG&&M(wP,_~$~;G|_(_&_#Ck$X(n#w#,iNXN=n+v,wO.N'A$^$G$&P&fs~$#E#wIiGXG=n,v,wH.N'A$B$P'YsnyE#wDiBXB=n'v,wC.N'A$B$P'Xj}yE#w?i=X==n&v,w>.N'A$B$P'FttqE#w:i8X8=n%v,w9.N'A$B$P&MsyE#w5i3X3=n$v,w4k#G#&w+,X'z$b&v$w#`'R%" [Za6] []
def Ztq:SFunc:=dcs ".N'E(wLI)y1I*y7Oh%N(A.B.q.x.M)G+%E(wDiC=ox$M*M$oF#x.M)G+%w9k&,h%Oi6<lM$M*w3,_~$~;F|_*_)_(_%_$Ck%X*n#w#k$,h#Oi0<lG+%M)w+,_~$~;F|_)_(_%_$Ck#X)n#w#,X(z.w#X'z.b%v#w#{`'R%" [] []
def Zgz:SFunc:=dcs ".N'E#weI)y2ON#c#%q'x'n#oF*x.M)M(E#y[N#A$B$P%AAE#wXiW>n#loF*x.M)M(wQN#A$^$oF$x.M)M(P$>E#yIiH=n$oF%x.M)M(wCN#c#%q'F&x.M)M(E#w<N#A$B$P$0E#y9N#A$B$P(|mjwjE#y6i5=n#M)w4,k$,h#Oi1<lM(M)w.,|_)_(_#Ck#X)n#w#,N(2$%B$n0L.&w*X'z$b&v$w#`'R%" [Za6,ZjU] []
def ZhN:SFunc:=dcs ".N'E#wBI(y/N#A$B$oF$x.M(G+&E#y9N#A$B$P$)E#y6N#A$B$P$>E#y3i2=n#M(w1,k$,h#Oi.<lG+&M(w),_~$~;G|_(_&_#Ck#X(n#w#,X'z$b&v$w#`'R%" [] []
def ZhX:SFunc:=dcs ".N'E#wPON#A$B$P$BE#yMiL>n#lE(wJ,I)y2N#c#%q.x.M)M(E#yDN#A$B$oF$x.M)M(E#w<N#A$B$P$0E#y9N#A$B$P$@E#y6i5=n#M)w4,k$,h#Oi1<lM(M)w.,|_)_(_#Ck#X)n#w#,N(2$%B$n+L.&w*X'z$b&v$w#`'R%" [ZeS,ZjU] []
def Zi3:SFunc:=dcs ".N'A$B$P$,E#wZI)y5N#c#%q'F&x.M)M(E#ySN#A$^$P$>oF$x.M)M(E#wKON#A$B$P*htsxzrjE#yHiFXF=n%v@wGN#A$B$P(nstzyE#yCiAXA=n$v@wBk%oF%x.M)M(w<,ON#A$B$P$0E#y9i8>n#M)w7,k$,h#Oi4<lM(M)w1,|_)_(_#Ck#X)n#w#,N(2$%B$n.L.&w.N#A$B$P$+E#w*X'z$b&v$w#`'R%" [Za6,ZjU] []
def Zjx:SFunc:=dcs ".N'c#%L'&E#w0N#A$B$P%1BE#w,O.N'E#w+i*=n'G#&w(,X'z$b&v$w#`'R%" [Za6] []
def Zln:SFunc:=dcs ".X%P(kfqxjw#O.X%P'ywzjw#i'=n$M#w&,X%P#w#`%R$" [] []
def ZlJ:SFunc:=dcs ".N'A$B$P$,E#w>I(y1N#c#%q.x.M(M$E#y8ON#A$B$P$0E#y5i4>n#M(w3,k$,h#Oi0<lM$M(w,,|_(_$_#Ck#X(n#w#,N#A$B$P$+E#w)X'z$w#`'R%" [ZaC] []
def Zlq:SFunc:=dcs ".X%Y=nfG#$jY=ngG#$jY=ndG#$j=nbG#$w&X%fb$v#w#`%R$" [] []
def Zf1:SFunc:=dcs ".N)A$B$P$,E#w6N#c#%L.'E#w3N#A$B$P$+E#w0O.N)c#%L.'E#w,i+!M%w*,X)z$b'v$w#`)R&" [ZaC] []
def Zd0:SFunc:=dcs ".N'E#w~$|O.N'A$B$P$~$'E#w~$yI(y~$YOI)y~$lN#c#%q.x.M)oF+x.M(G+&E#y~$nk',h&Oi~$k<loF+x.M(G+&M)w~$c,_~$~;G|_)_(_&_#Ck&X)n#w#i~$b=n8oF#x.M(G+&w~$[k%,h$Oi~$X<lG+&M(w~$T,_~$~;G|_(_&_#Ck$X(n#w#,N#A$B$P%nsE#w~$QN#c$%g'&H&&E#w~$MN#c%%L.&E#w~$JN#A$B$P$~$%E#w~$Gi~$EX~$E=ndv+w~$F.N'A$B$P$,E#w~$BON#c&%q.x.n$G+&E#y~$<i~$;>n$lG+&w~$8,N#A$B$G$&E#w~$3N#c&%q.x.n#G+&E#w~$,N#A$B$P$+E#w~$)i~$'X~$'=nev+w~$(.N'c&%q.x.n#G+&A$B$P$$E#wzixXx=nfv+wy.N'c&%q.x.n#G+&A$B$P$1E#wpinXn=ngv+wo.N'c&%q.x.n#G+&A$B$P$)E#wfidXd=ncv+we.N'c'%'#n$G+&E#w_N#'$q.x.n#G+&E#wXiVXV=nav+wW.N'c'%'#n$G+&E#wQN#A$^$G$&P$2E#wLN#'%1($q.x.n#G+&q.x.n#G+&E#wAi?X?=n^v+w@.N'A$^$G$&P$2E#w:N#'&1($q.x.n#G+&q.x.n#G+&E#w/i,X,=n[v+w.k#G#&w*,X'z$b&v$w#`'R%" [Za1,ZfO,ZfV,ZaC,ZdU,ZgZ] [B (.slice 10 true false false),O (cm ZdE 3 [v 52,v 56,b true] 52 57),O (cm ZdE 3 [v 29,v 33,v 38] 29 39),O (cm ZdE 3 [v 11,v 15,v 20] 11 21)]
def Zjj:SFunc:=dcs ".N'c#%L.&E#w~$oO.N'E#w~$ni~$m=n#lG+&w~$j,O.N'A$B$P$bE#w~$gI+y~$XN#c$%q.x.M+G+&E#y~$`ON#A$B$P$0E#y~$]i~$[>n#M+w~$Z,k',h&Oi~$W<lG+&M+w~$S,_~$~;G|_+_&_#Ck&X+n#w#,N#A$B$P$`E#w~$Pi~$NX~$N=nhv.w~$O.N'E#w~$MON#c%%G+&E#y~$Ii~$H=n$G%&w~$F,N#A$^$G$&P$2E#w~$AN#c&%g'&H&&E#w~$=i~$;X~$;=n_v.w~$<.N'c%%G+&c&%g'&H&&E#w~$4i~$2X~$2=n`v.w~$3.N'c%%G+&A$B$G$&E#w~$)i~$'X~$'=n]v.w~$(.N'E#w~$&I(y_N#A$B$+M*+1'$oF$x.M(G+&M)E#ysOX*P%a+y#ir<lG+&+n$M(wm,OX)P$,y#il>n#M(wk,X*P$%X)P$%w#Oh%N#c$%q.x.M(G+&E#wdic=n$'#n%M(wa,k%,h$Oi^<lG+&M(wY,_~$~;G|_(_&_#Ck$X(n#w#,iWXW=nYv.wX.N'A$^$G$&P*htsxzrjE#wRiPXP=nbv.wQ.N'A$B$G$&E#wKiIXI=nZv.wJ.N'A$B$+P$%+1'$G$&P$%E#wAi?X?=nXv.w@.N'A$B$1($G%&E#w9i7X7=nWv.w8.N'A$B$1)$G%&E#w1i/X/=nVv.w0k#G#&w,,X'z$b&v$w#`'R%" [ZcZ,ZaC,ZdU,Za6,Ze1,Zgx,Zfh] [B (.bin .rem)]
def ZhJ:SFunc:=dcs ".N'E#w~$&OON#A$B$P$,E#y~$#i}>n#lG+&wzI)yiN#c#%q.x.M)G+&E#ysN#A$B$P$0E#ypN#A$B$P$+E#ymil=n#M)wk,k%,h$Oih<lG+&M)wd,_~$~;G|_)_&_#Ck$X)n#w#,N#A$^$G$&P$2E#w_i]X]=nQv+w^.N'A$B$+P$%+1$$G$&P$%E#wTiRXR=nPv+wS.N'A$B$1%$G%&E#wLiJXJ=nOv+wK.N'A$B$M(E#wFO.N'A$^$'#n$M(P$1E#wAi@<n#G%&w>,X(1&$G%&w;i9X9=nNv+w:.N'A$B$G$&E#w4i2X2=nMv+w3.N'A$B$P$dE#w/i,X,=nLv+w.k#G#&w*,X'z$b&v$w#`'R%" [ZcX,Ze1,Zgx,Zfh] [B (.sliceS true false)]
def ZgB:SFunc:=dcs ".N'E#w~$fOI+y~$]N#c#%q.x.M+G+&E#y~$_k+,h*Oi~$[<lG+&M+w~$W,_~$~;G|_+_&_#Ck*X+n#w#N#A$B$P(ijkjwE#w~$Ti~$RX~$R=nCv.w~$SI*y~$BN#c#%q.x.M*G+&E#y~$KON#A$^$G$&P(hfyhmE#y~$Fi~$E=n$M*w~$D,k),h(Oi~$A<lG+&M*w~$=,_~$~;G|_*_&_#Ck(X*n#w#N#A$B$P%itE#w~$:i~$8X~$8=nBv.w~$9N#A$B$P$~$'E#y~$5I)ybON#c#%q.x.n$oF+x.M)G+&E#y~$*N#c$%q.x.n#oF+x.M)G+&E#w{N#A$B$P'hfxjE#wxiw=n%loF+x.M)G+&wpOh'N#A$B$P$~$%E#wmN#c%%q.x.M)G+&E#wfie=n#M)wd,k',h&Oia<lG+&M)w],_~$~;G|_)_&_#Ck&X)n#w#,N#A$B$P(rfyhmE#wYiWXW=n>v.wXI(y@N#c#%q.x.M(G+&E#yPON#A$B$P'jqxjE#yMiL=n%M(wK,Oh%N#c%%q.x.M(G+&E#wDiC=n#M(wB,k%,h$Oi?<lG+&M(w;,_~$~;G|_(_&_#Ck$X(n#w#N#A$B$P(|mnqjE#y8N#A$B$P%nkE#y5i4=n<G#&w2,i/X/=n=v.y1Oi/X/=n<v.w0,k#G#&w,,X'z$b&v$w#`'R%" [Za1,ZcX,ZaC] []
def ZjF:SFunc:=dcs ".N'c#%L.&E#w~$TO.N'A$B$P$?E#w~$QI+y~$HN#c$%q.x.M+G+&E#y~$Jk+,h*Oi~$G<lG+&M+w~$C,_~$~;G|_+_&_#Ck*X+n#w#,ON#A$B$P(ymwt|E#y~$@i~$?=nAG#&w~$=,ON#A$B$P)wjyzwsE#y~$:i~$9=n@G#&w~$7,i~$3X~$3=nAv.y~$6Oi~$3X~$3=n@v.w~$5Oi~$3X~$3=n;v.w~$4,.N'A$B$P$?E#w~$0I*y|N#c$%q.x.M*G+&E#y~$(ON#A$B$P$AE#y~$%i~$$>n#M*w~$#,k),h(Oi{<lG+&M*ww,_~$~;G|_*_&_#Ck(X*n#w#,iuXu=n:v.wv.N'A$B$P$?E#wrI)yfN#c$%q.x.M)G+&E#ykN#A$B$P$AE#whk',h&Oie<lG+&M)wa,_~$~;G|_)_&_#Ck&X)n#w#,ON#c%%g'&H&&E#y]N#A$B$P$>E#wYiX#n#K~$~;GF#H&&wU,N#A$B$G$&E#wPN#A$B$P&qjyE#yMN#A$B$P&{fwE#yJiI=n$G%&wG,iEXE=n9v.wF.N'A$B$P$~$'E#wBI(y9N#c&%q.x.M(G+&E#y;k%,h$Oi8<lG+&M(w4,_~$~;G|_(_&_#Ck$X(n#w#,N#A$B$P$~$%E#w1i/X/=n8v.w0k#G#&w,,X'z$b&v$w#`'R%" [Zfa,ZaC,Za6,Za1] []
def ZgR:SFunc:=dcs ".N'E#weI+y]N#c#%q.x.M+M*E#y_k&,h%Oi[<lM*M+wX,|_+_*_#Ck%X+n#w#,N*2$%B$n8L.&wUN#c%%L.&E#wRN#c&%g'&H&&E#wNI)y?N#A$B$P$,E#yKN#c'%q'F&x.M)M(E#wDN#A$^$P$+P)ymwt|xE#wAk$,h#Oi><lM(M)w;,_~$~;G|_)_(_&_#Ck#X)n#w#,N(2$%B$n/L.&w8N#c(%L.&E#w5N#c)%L.&E#w2N#A$^$G$&P'kzshE#w,X'z$b&v$w#`'R%" [Za1,ZjU,Zd1,ZfO,Za6,ZfV,ZeY] []
def Zjt:SFunc:=dcs ".N'E#w~$SO.N'E#w~$RON#A$B$P$?E#y~$Oi~$N=n#G%&w~$L,N#c#%L.&E#w~$Ii~$GX~$G=n*v+w~$H.N'A$B$P$?E#w~$DN#c$%g'&H&&E#w~$@N#A$'#P$AG$&P'y~$#ujE#w~$;i~$9X~$9=n5v+w~$:.N'A$B$P$?E#w~$6N#c%%L.&E#w~$3N#A$^$G$&P'y~$#ujE#w~$.i~$+X~$+=n4v+w~$,.N'A$B$P$?E#w~$(ON#A$B$P$,E#y~$%i~$$>n#lG*&w|,I)ykN#c$%q'x'M)G*&E#yuN#A$B$P$0E#yrN#A$B$P$+E#yoin=n#M)wm,k',h&Oij<lG*&M)wf,_~$~;G|_)_&_#Ck&X)n#w#,N#A$^$G$&P'hfxjE#waON#A$B$P+nsinwjhyE#y^i]=n$G%&wZ,iXXX=n2v+wY.N'E#wWI(yNN#c&%q.x.M(G+&E#yPk%,h$OiM<lG+&M(wI,_~$~;G|_(_&_#Ck$X(n#w#,N#A$B$P)ijnsnyE#wFiDXD=n3v+wE.N'A$B$P$?E#wAN#c$%g'&H&&E#w=N#A$^$P$>G$&E#w8N#A$B$P&qjyE#y5N#A$B$P&{fwE#y2i1=n$G%&w/,i,X,=n1v+w.k#G#&w*,X'z$b&v$w#`'R%" [ZdX,Za6,ZeS,Za1] [V (.buildSlice 1)]
def ZbH:SFunc:=dcs ".N'A$B$P$~$'E#w~$6I(y~$,N#c#%q.x.M(G+&E#y~$/k%,h$Oi~$+<lG+&M(w~$',_~$~;G|_(_&_#Ck$X(n#w#,N#A$B$P$~$%E#w~$$N#c$%L.&E#w|O.N'c%%L.&E#wyiwXw=n*vHwxN#c&%L.&E#ytN#A$^$G$&P$>E#woN#c'%g'&H&&E#wkN#A$B$P)j}yjsiE#whifXf=n)vHwgN#A$^$G$&P+uwtythtqE#yai_X_=n(vHw`N#A$^$G$&P(hqfxxE#yYiWXW=n'vHwXN#A$^$G$&P'jszrE#yRiPXP=n&vHwQN#A$^$G$&P)xywzhyE#yKiIXI=n%vHwJk#G#&wG,ON#A$B$P)kwt~$$jsE#yDiCYY=n&G#&j=n%G#&J#n#'#n%G%&w6,ON#A$B$P+rt{jtsq~$#E#y3i2Y=n%G#&J#n#'#n$G%&w),X'z$b&v$w#{`'R%" [Zhp,ZeY,ZdX,Zd1,Za6] [B (.bin .and)]
structure Has (S:Nat->Option Fn):Prop where
 Zyc:S Zkq=some (.code Znu)
 Zt6:S Zeu=some (.code Zjg)
 ZxL:S Zge=some (.code Znb)
 ZvW:S Ze0=some (.code Zlo)
 ZzG:S Zkn=some (.code Zm4)
 ZDa:S Zct=some (.code ZsT)
 ZxM:S Zif=some (.code ZmX)
 ZtX:S Zhm=some (.code Zjr)
 Zy6:S Zkw=some (.code ZnN)
 ZuO:S Zhi=some (.code ZjM)
 ZzB:S Zkm=some (.code Zno)
 Zzt:S Zkl=some (.code Zm9)
 Zur:S Zg8=some (.code Zi8)
 Zr1:S Zf9=some (.code ZhP)
 ZBl:S ZmT=some (.code ZpJ)
 ZwL:S Zij=some (.code ZkX)
 ZlY:S Zal=some (.code ZcO)
 ZoT:S Zar=some (.code ZdK)
 ZoI:S ZcH=some (.code Zfp)
 Zpo:S Zaj=some (.code Zf0)
 ZlS:S Zbp=some (.code ZcN)
 Zn0:S Zak=some (.code Zfm)
 ZnR:S Zad=some (.code Zfx)
 Zmd:S Zb8=some (.code Zd9)
 Zj8:S Zbn=some (.code Zdn)
 Zm7:S Zbw=some (.code ZeW)
 ZoV:S Zcd=some (.code Zfj)
 Zpy:S ZaJ=some (.code Zgi)
 Zt8:S Zg9=some (.code ZjD)
 Zuw:S Zet=some (.code Zjc)
 Zhv:S Zby=some (.code Zcg)
 ZnV:S ZdN=some (.code Zfz)
 Zog:S Zbu=some (.code Zft)
 Zl3:S Zb9=some (.code Zed)
 ZlA:S ZcC=some (.code Zdw)
 ZoB:S ZdL=some (.code Zfo)
 ZoN:S ZdJ=some (.code ZfA)
 ZkH:S ZcE=some (.code ZdF)
 Znn:S Za3=some (.code ZeE)
 Zir:S ZbZ=some (.code Zc7)
 ZoM:S Zas=some (.code Zfn)
 ZnJ:S Zde=some (.code ZeQ)
 ZhU:S ZaF=some (.code Zcz)
 Zle:S ZaO=some (.code ZdB)
 ZnO:S Zc5=some (.code ZeN)
 Zzk:S Zki=some (.code Zny)
 ZlU:S ZcL=some (.code Zeb)
 Zjn:S Zbg=some (.code ZcS)
 ZiR:S Zbq=some (.code ZcG)
 ZmY:S Zax=some (.code ZeG)
 Zma:S Zcc=some (.code Zd8)
 ZoW:S ZdQ=some (.code Zfw)
 ZmN:S Zcu=some (.code ZeM)
 Zke:S Zbm=some (.code Zdl)
 Zka:S Zcj=some (.code Zc8)
 Zl6:S ZcM=some (.code Zee)
 Zh2:S ZbF=some (.code Zcm)
 ZCj:S ZhI=some (.code Zo4)
 Zwe:S Zg3=some (.code Zly)
 ZtJ:S Zhn=some (.code Zi9)
 Zqc:S Zen=some (.code Zes)
 ZvQ:S ZgA=some (.code ZkN)
 ZxO:S Zgc=some (.code ZnE)
 ZBa:S Zjl=some (.code Zqe)
 ZqJ:S ZdD=some (.code Zhc)
 Ztw:S ZbG=some (.code Ziv)
 ZuP:S Zhb=some (.code ZjJ)
 Zw7:S ZgL=some (.code ZiB)
 ZAH:S ZmO=some (.code ZpE)
 ZxE:S Zkt=some (.code Znx)
 Zwk:S Zat=some (.code ZlG)
 ZvG:S Zeq=some (.code Zkp)
 ZsH:S ZcW=some (.code ZhK)
 ZDo:S ZbM=some (.code Zs9)
 ZtN:S Zhg=some (.code ZjC)
 Zq7:S Zb2=some (.code ZgI)
 ZtZ:S ZfN=some (.code Zi2)
 ZvI:S ZiA=some (.code Zlp)
 Zwl:S Zix=some (.code ZkV)
 ZDc:S ZqH=some (.code ZsK)
 ZAI:S Zg4=some (.code Zpu)
 Zvc:S Zha=some (.code ZjA)
 ZtO:S Zcf=some (.code Zi5)
 ZnZ:S ZdO=some (.code Zfv)
 Zms:S ZdZ=some (.code Zfd)
 ZsF:S Zbv=some (.code ZhV)
 ZlT:S ZbE=some (.code Zeg)
 Zrs:S ZcY=some (.code ZgV)
 Zyt:S Zhd=some (.code Znc)
 ZmV:S Zdk=some (.code ZeC)
 Zm6:S ZbW=some (.code Zey)
 Zoz:S ZaS=some (.code Zfy)
 Znd:S Zcy=some (.code ZeT)
 ZmR:S Zcq=some (.code ZeI)
 Zk9:S ZcB=some (.code ZdH)
 ZlI:S ZbS=some (.code ZdI)
 ZlR:S Zca=some (.code Zef)
 Zrw:S ZgY=some (.code Zg1)
 Zr4:S ZcQ=some (.code ZhL)
 Zl5:S ZcP=some (.code Zea)
 ZqL:S Zc0=some (.code Zhl)
 Zw8:S ZeZ=some (.code ZkO)
 ZyE:S Zio=some (.code Zm3)
 ZtA:S Zgj=some (.code Zh3)
 ZyP:S Zim=some (.code Zni)
 ZsE:S Zdr=some (.code Zia)
 ZhR:S Zbi=some (.code Zcn)
 Ztl:S Zco=some (.code ZhG)
 Zx8:S Zkx=some (.code Znk)
 Zok:S ZdM=some (.code Zfk)
 Zty:S Zgh=some (.code ZhZ)
 ZxA:S Zil=some (.code ZnB)
 ZmU:S Zdh=some (.code ZeL)
 Zw6:S ZgG=some (.code ZiI)
 Zu5:S Zhk=some (.code Zjy)
 ZlK:S ZcA=some (.code ZdA)
 Zy1:S Zkg=some (.code Znt)
 ZxG:S Zgf=some (.code Znj)
 ZsP:S Za6=some (.code Ziz)
 ZDf:S ZjU=some (.code Ztq)
 Zrk:S Zd1=some (.code Zgz)
 ZsG:S ZeS=some (.code ZhN)
 ZrZ:S ZeY=some (.code ZhX)
 Zu3:S ZfV=some (.code Zi3)
 Zve:S ZfO=some (.code Zjx)
 Zxb:S Zgx=some (.code Zln)
 Zws:S ZdU=some (.code ZlJ)
 ZwC:S ZgZ=some (.code Zlq)
 Zsy:S ZdE=some (.code Zf1)
 ZjI:S ZcZ=some (.code Zd0)
 ZtK:S ZaC=some (.code Zjj)
 ZsW:S ZcX=some (.code ZhJ)
 ZrM:S Zfa=some (.code ZgB)
 ZuW:S Za1=some (.code ZjF)
 ZrO:S ZdX=some (.code ZgR)
 Zu1:S Zhp=some (.code Zjt)
 Zdv:S Zbk=some (.code ZbH)
end Go.Am.Fe
end
section
namespace Go.Am.Fe
open Go.Am.Tx Go.Am.Tk Go.Am.Tz
set_option maxRecDepth 1000000
def ZMf:SFunc:=dcs ".X&vAS'%v>=n#G#*L')w>Z%*v=S')v<a%*a()T$v9u#v9N91#$L.'w:O.X&fS'%)#(w8i7>n#lE(w5,N(v4S.'v3a#'T$v0T#v0N01$$M#w1O.X&fS'%)#(w/i.>n~Py$M#w+,X&fa(%w#}{`&Q%'R$" [Zkg,ZgA] []
def ZL9:SFunc:=dcs ".X%tw#I&y+O.X%fw#i3>na2#%naq'x'M&M#w.k$,h#Oi*<lM#M&w',|_&_#Ck#X&n#w#,X%fw#`%R$" [ZcY] []
def ZlX:SFunc:=dcs ".X)fX(n#S&')#&w<X0+n$v0y;O.X)tX(v:S&'v9M*L&+w9i8=M$G#+w5S&+v4X*v2a&+q&x&v0v.M0w2k$,h#Oi1,<v/v0w1_~$~;H|_0_/_._'_$Ck#X0n#lG$%w,,X)fX(n#a&'b%v#w#}}{`)`(Q'&R%" [] []
def ZJ2:SFunc:=dcs ".N'E(w;X/+n$v/y:N(A%B%L%+E(y6S%+v5a1+?$L%*M$w3S%*v2a1*q%x%v/v,w1k$,h#Oi0,<v.v/w0|_/_._,_(_$Ck#X/n#lE#w,,X(z%w#X'z%w#{`'R%" [] []
def Zjb:SFunc:=dcs ".N'E(w;X/+n$v/y:N(A$B$M+E(y6X+?$M*M$w3X*ox$v/v,w1k$,h#Oi0,<v.v/w0|_/_._,_(_$Ck#X/n#lE#w,,X(z$w#X'z$w#{`'R%" [] []
def ZDW:SFunc:=dcs ".X%M#w&X%P#w#`%R$" [] []
def ZmM:SFunc:=dcs ".N%2#%'#E#w&X%z$w#{`%R$" [ZfG] [Pp (.c (.clo ZlD [] []))]
def ZJS:SFunc:=dcs ".S%%L%$w*V$$v(H$$1#$G$$w&a1%b$v#w#{Q%%R$" [ZiO] []
def ZJR:SFunc:=dcs ".N'E(w;X/+n$v/y:N(A.B.L.+E(y6S.+v5a4+?$L.*M$w3S.*v2a4*q.x.v/v,w1k$,h#Oi0,<v.v/w0|_/_._,_(_$Ck#X/n#lE#w,,X(z.w#X'z.w#{`'R%" [] []
def ZJ3:SFunc:=dcs ".N'E(w;X/+n$v/y:N(A)B)L)+E(y6S)+v5a.+?$L)*M$w3S)*v2a.*q)x)v/v,w1k$,h#Oi0,<v.v/w0|_/_._,_(_$Ck#X/n#lE#w,,X(z)w#X'z)w#{`'R%" [] []
def ZiC:SFunc:=dcs ".N'E(w;X/+n$v/y:N(A'B'L'+E(y6S'+v5a$+?$L'*M$w3S'*v2a$*q'x'v/v,w1k$,h#Oi0,<v.v/w0|_/_._,_(_$Ck#X/n#lE#w,,X(z'w#X'z'w#{`'R%" [] []
def Zq9:SFunc:=dcs ".S'%L'$w*V$$v(H&$2#%'#G&$w&a$%b$v#w#{Q%'R$" [Zdi] [Pp (.c (.clo ZdC [] []))]
def Zlg:SFunc:=dcs ".S)%L)$w*V'$v(H%$1#$g'$H%$w&a.%b$v#w#{Q%)R$" [ZdC] []
def ZLM:SFunc:=dcs ".N%2#%'#E#w&X%z)w#{`%R$" [ZeB] [Pp (.c (.clo ZgE [] []))]
def ZJQ:SFunc:=dcs ".S.%L.$w3V'$v/H)$V'$v+H%$V$$v(H$$1#$g'$H)$1#$g'$H%$1$$G$$w&a4%b$v#w#{Q%.R$" [ZdC,Ziw] []
def ZKi:SFunc:=dcs ".S&%L&$w/V$$v,H%$2#%'#G%$w*V$$v(H$$2$%'$G$$w&a&%b$v#w#{Q%&R$" [ZHW,ZH1] [Pp (.c (.clo ZHV [] [])),Pp (.c (.clo ZHT [] []))]
def ZLF:SFunc:=dcs ".X)v8X(v7S&'v6M,M+1#$L&*w5X,v4X+v3S&*v2a&*T%v.T$v.u#v.N.2$%M$L'%w/X)fX(n#a&'b%v#w#}}{`)`(Q'&R%" [ZH6,Zfr] []
def ZMe:SFunc:=dcs ".X&=;v~$~;Cv$G#%w'X&fb%v#w#`&R%" [] []
def ZcR:SFunc:=dcs ".X''#w#X++n$v+y6O.X'M(w5i4?$q.x.M(M#M$w/X(M+w.k$,h#Oi,,<v*v+w,|_+_*_$_#Ck#X+n#lM#w),X'n#w#`'R%" [] [Pn (-1)]
def ZM4:SFunc:=dcs ".X+n#N*v[X)vU1#$ox$M0G,&ox$M0G+&wQO.X+n&X*z'X)P#w#iPY@lG,&M0jY@lG+&M0jY<n#M0j!M/w=,X0v<'#'$v(G%,w9X/v8X.v7S&,v6a&,T%v1T$v1u#v1N12$%G'&L''w2X+n#X*z'X)P#b(v%b'v$b&v#w#}{}`+`*`)R&" [ZHe,ZIU] [Q (⟨(.call Zbx false [10005] 2),[v 22,v 23,v 10005],[10005],[24,10005],none,true⟩),U (.makeFunc ZJw 0)]
def ZH2:SFunc:=dcs ".X''#w#I(y/O.X'M(w9i8=M$oF#x&M(G$%w1k$,h#Oi.<lG$%M(w),_~$~;F|_(_%_$Ck#X(n#w#,X'n#b%v#w#`'R%" [] [Pn (-1)]
def ZNR:SFunc:=dcs ".X+n&X*z'X)P#w#I.y>.X+n#N*vaX)vZ1#$ox$M.G,&ox$M.G+&wVO.X+n&X*z'X)P#w#iU@lG,&M.wQ,O.X+n&X*z'X)P#w#iP@lG+&M.wL,Oh$iK#M%oF#x.M.oF%x&M,G$'w@,k$,h#Oi=<loF%x&M,G$'M.w5,_~$~;H_~$~;G|_._,_'_&_%Ck#X.n#w#,O.X+n&X*z'X)P#w#i4<n#M,w3,X,2$%G'&L''w/X+n#X*z'X)P#b'v$b&v#w#}{}`+`*`)R&" [ZdZ,ZHu] []
def ZKI:SFunc:=dcs ".X)Y0##JY2$%'#v2'#v/JY=M3M0J=M1M.wvX3vuN2vtX1vsT%vnu$vnT#vnNn3%&M%L'*L.'woX0vmN/vlX.vkT%vfu$vfT#vfNf3&&M%L'*L.'wgI,yRO.X)0##weidY!1'$ox$M,G,'j>nVlox$M,G,'wTk$,h#OiQ<lG,'M,wM,_~$~;K_~$~;H|_,_*_'_%Ck#X,n#w#,O.X)0##wLiKY>n~$/$M%jY>nVlG,'jY>nVlG+'j!M+w9,X+v8S'*v7a(*T$v4u#v4N41($M#w5X)fb'v$w#`)R&" [ZJB,ZdD,ZLR,ZKt,ZJJ,ZJv] [UT (.mov)]
def ZHF:SFunc:=dcs ".X'M(wZI*yMX(+2#%eM(M$q&x&M*G%%M(yOk&,h%OiLY<M$M(J<lG%%M*wC,_~$~;F|_*_(_%_$Ck%X*n#w#,I)y6X(+2$%eM(M$q'x'M)G$%M(y8k$,h#Oi5Y<M$M(J<lG$%M)w+,_~$~;F|_)_(_%_$Ck#X)n#w#,X(n$w#X'n#b%v#w#`'R%" [ZHf,ZcY] []
def ZHn:SFunc:=dcs ".X&=;v~$~;Cv$G#%w'X&fb%v#w#`&R%" [] []
def ZfB:SFunc:=dcs ".X''#w#X++n$v+y6O.X'M(w5i4=ox$M(M#M$w/X(M+w.k$,h#Oi,,<v*v+w,|_+_*_$_#Ck#X+n#lM#w),X'n#w#`'R%" [] [Pn (-1)]
def Zk7:SFunc:=dcs ".S''L'*wJX<+n$v<yIV$*vGH&*A'B'L'.m~$~;KH&*yCS'.vBa$.p#%M$L',w@S',v?a$,q'x'v<v:w>k$,h#Oi=,<v;v<w=_~$~;K_~$~;H|_<_;_:_*_'_$Ck#X<n#lG&%w9,s$*z'H&*w8S'*v7a$*L'%w7O.S''L'(w6i5M)w5X)v4S'(v3a$(T$v/u#v/N/?$L'%M$w0,a$'b%v#w#{Q''R%" [Zdb] []
def Zlh:SFunc:=dcs ".X&fS'%)#$w'X&fa$%b$v#w#}{`&Q%'R$" [] []
def Znl:SFunc:=dcs ".S'%2#%'#L'$w&a$%b$v#w#{Q%'R$" [Zdb] [Pp (.c (.clo ZgP [] []))]
def Znr:SFunc:=dcs ".X(tS''1#$q'x'M);v~$~;Cv%w<O.X(fS'')#$w;i:Y@l;v~$~;Cv%M)j<n#M)w3,X)2$%G$&;v~$~;Cv$w/O.X(fS'')#$w.i,#n*G#&w*,X(fa$'b&v#w#}{`(Q''R&" [Zii,ZcI] []
def Zqd:SFunc:=dcs ".S')v,'#'$v(v'L'&w*a$)b(v%b'v$b&v#w#{Q)'R&" [] [Q (⟨(.call Zdb false [10004,10005] 2),[v 7,v 8,v 10004,v 10005],[10004,10005],[9,10004,10005],none,true⟩),B (.makeFunc Zin 0)]
def ZHy:SFunc:=dcs ".S&%L&&wQXD+n$vDyPV$&vNH%&A&B&L&,m~$~;GH%&yJS&,vIa/,1#$L&+wHS&+vGa/+q&x&vDvBwFk&,h%OiE,<vCvDwE_~$~;G_~$~;F|_D_C_B_&_%Ck%XDn#lG%$wA,X4+n$v4y@V$&v>H$&A'B'L')m~$~;GH$&y:S')v9a$)3$&z'z$L'(w8S'(v7a$(q'x'v4v2w6k$,h#Oi5,<v3v4w5_~$~;G_~$~;F_~$~;E|_4_3_2_&_%_$Ck#X4n#lG$$w1,S&&v0a/&(#$)$/G#$w.a/%b$v#w#{Q%&R$" [ZHa,ZkQ] []
def ZHA:SFunc:=dcs ".X/n#N.vxN,vvX+vtG%4G$4ox$M3oF+x,G#(G%'wkS&4vja/41#$L&(wiO.X/n&X.z&X,z'X+P#w#ih<n#M3wg,X3vf'#'$v*G%0wcO.X/n'X.z&X,z'X+P#w#ibY<lG%0loF+x,G#(G%'jY#M%oF#x,G#(G%'jY@lG%'G#(j<n#G#(w>,O.X/nLX.z&X,z'X+P#w#i=!M2w<,X2v;X1v:S&0v9a&0T%v5T$v5u#v5N52$%M%L''w6X/n#X.z&X,z'X+P#b*v&b(v$b'v#w#}{{}`/`.`,`+R'" [ZHa,Zfr] [Q (⟨(.call Zbx false [10007] 2),[v 63,v 64,v 10007],[10007],[65,10007],none,true⟩),U (.makeFunc ZHm 0)]
def ZIO:SFunc:=dcs ".X/n#N.v}N,v{X+vxG%(1#$G$(ox$M3G+1wtO.X/n&X.z&X,z'X+P#w#is<n#M3wr,X4en$M4yhOX3M4yqip=M&oF#x.M4M2wjk$,h#Oig@n#M4wf,_~$~;Q_~$~;I|_4_3_2_1_(_&Ck#X4en$lM2wc,X3'#w#O.X/n'X.z&X,z'X+P#w#ib<lM2lG+1w],N2oF%x&M0G$'wVS,1vUa51q,x,G#(G%'wPO.X/n'X.z&X,z'X+P#w#iOY#M%oF#x,G#(G%'jY@lG%'G#(j<n#G#(w:,O.X/nLX.z&X,z'X+P#w#i9<n#M0w8,X02$%M%L''w5X/n#X.z&X,z'X+P#b(v$b'v#w#}{{}`/`.`,`+R'" [ZdZ,ZHu] [Pn (-1)]
def ZHI:SFunc:=dcs ".X'Y2#%G%&G%%JY2$%G$&G$%J=G#&G#%w(X'fb&v$b%v#w#`'R%" [ZHd,ZdD] []
def ZHx:SFunc:=dcs ".X'tw#I(y3O.X'fw#i>!2#%q&x&M(M$q&x&M(M#w5k$,h#Oi2<lM#M(w/,|_(_$_#Ck#X(n#w#,O.X'fw#i.#lM$lM#w),X'fw#`'R%" [ZHv] []
def ZG5:SFunc:=dcs ".X''#w#X++n$v+y6O.X'M(w5i4?$q&x&M(M#M$w/X(M+w.k$,h#Oi,,<v*v+w,|_+_*_$_#Ck#X+n#lM#w),X'n#w#`'R%" [] [Pn (-1)]
def ZG4:SFunc:=dcs ".X'@n#p#%M$E#w(X'fw#`'R%" [ZG3] []
def ZHp:SFunc:=dcs ".X%!1#$L&$w&X%fb$v#w#`%R$" [ZHc] []
def ZHw:SFunc:=dcs ".X%Y!2#%'#G%$J#'$G#$w&X%fb$v#w#`%R$" [ZG2] [Pp (.c (.clo ZHq [] [])),Pn (-1)]
def ZIG:SFunc:=dcs ".X%tw#I&y0O.X%fw#i8!1#$q&x&M&G%$w2k$,h#Oi/<lG%$M&w*,_~$~;E|_&_$Ck#X&n#w#,O.X%fw#i)='#G#$w',X%fb$v#w#`%R$" [ZHE] [Pn (-1)]
def ZHh:SFunc:=dcs ".X)Y0##JY'#1$$'$v~$~;Hv'1%$'$v~$~;Hv'JY2&%'%v3'%v/JY2'%'%v2'%v.JY=M4M0J=M1M,wZX4vYN3vXN2vWX1vVT&vNT%vNT$vNT#vNNN4('G$(G#(L&'L'*wOX0vMN/vLN.vKX,vJT&vBT%vBT$vBT#vBNB4)'G$(G#(L&'L'*wCO.X)0##wAi@Y>n~&E2*%n~&F'$v~$~;Hv'j!M+w:,X+v9S'*v8a(*T$v5u#v5N52+%n~EdM#w6X)fb(v%b'v$w#`)R&" [ZHL,ZHE,ZHc,ZHd,ZdD,ZIc,ZHk,ZHf,Zgf] [B (.binB .eql),B (.loadB 10004 (some 3)),UT (.mov)]
structure HasL (S:Nat->Option Fn):Prop where
 tableProtocol:S Zfr=some (.code ZlX)
 slicesIndexFuncLApiMethodApiMethod:S Zbx=some (.code ZcR)
 zfProtocol:S ZHu=some (.code ZH2)
 law06Weightq:S ZHf=some (.code ZHF)
 conformTargetX1:S ZHm=some (.code ZHn)
 slicesIndexLStringString:S ZcI=some (.code ZfB)
 typesReplacedq:S Zdb=some (.code Zk7)
 typesSubstX1:S Zin=some (.code Znr)
 typesSubst:S ZkQ=some (.code Zqd)
 conformFreshq:S ZHa=some (.code ZHy)
 conformTarget:S ZHk=some (.code ZHA)
 zgTarget:S ZIc=some (.code ZIO)
 zgEqWitness:S ZHv=some (.code ZHI)
 zgEqWitnesses:S ZHd=some (.code ZHx)
 slicesIndexFuncLApiWitnessApiWitness:S ZG3=some (.code ZG5)
 slicesContainsFuncLApiWitnessApiWitness:S ZG2=some (.code ZG4)
 conformClosedX1:S ZHq=some (.code ZHp)
 conformClosed:S ZHc=some (.code ZHw)
 zgClosed:S ZHE=some (.code ZIG)
 law06ConformTargets:S ZHb=some (.code ZHh)
end Go.Am.Fe
end
