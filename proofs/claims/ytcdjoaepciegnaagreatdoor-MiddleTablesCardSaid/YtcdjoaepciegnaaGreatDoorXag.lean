/- Part. -/
import Derived.Test.YtcdjoaepciegnaaGreatDoorXaf
set_option maxRecDepth 999999
set_option maxHeartbeats 0
set_option linter.all false
section
namespace Go.Am.Fe
open Go.Am.Tx Go.Am.Tk Go.Am.Tz
set_option maxRecDepth 1000000
def ZHq:SFunc:=dcs ".S'%v0'#1#$G%$1$$G$$1%$G#$w&a2%b$v#w#{Q%'R$" [ZHb,ZG3,ZG6] [Q (⟨(.build [ct 17,ct 3,ct 9,ct 14] [(0,1),(1,1),(2,1)]),[v 5,v 8,v 11],[5,8,11],[12],none,true⟩)]
def ZIw:SFunc:=dcs ".S'%v,'#G%$G$$G#$w&a2%b$v#w#{Q%'R$" [] [Q (⟨(.build [ct 17,ct 3,ct 9,ct 14] [(0,1),(1,1),(2,1)]),[v 4,v 6,v 8],[4,6,8],[9],none,true⟩)]
def ZIB:SFunc:=dcs ".S'%v,'#G%$G$$G#$w&a*%b$v#w#{Q%'R$" [] [Q (⟨(.build [ct 17,ct 3,ct 9,ct 22] [(0,1),(1,1),(2,1)]),[v 4,v 6,v 8],[4,6,8],[9],none,true⟩)]
def ZHE:SFunc:=dcs ".X'tw#I(y3O.X'fw#i=#ox$M(M$ox$M(M#w5k$,h#Oi2<lM#M(w/,|_(_$_#Ck#X(n#w#,O.X'fw#i.#lM$lM#w),X'fw#`'R%" [] []
def ZHT:SFunc:=dcs ".X'tw#I(y3O.X'fw#iZY!2#%q'F$x)M(M$q'F$x)M(M#jY'#oF(x)M(M$oF(x)M(M#j#oF#x)M(M$oF#x)M(M#w5k$,h#Oi2<lM#M(w/,|_(_$_#Ck#X(n#w#,O.X'fw#i.#lM$lM#w),X'fw#`'R%" [ZbG] [B (.binB .neq)]
def ZIa:SFunc:=dcs ".X'tw#I(y3O.X'fw#iZY!2#%oF$x&M(M$oF$x&M(M#jY'#oF%x&M(M$oF%x&M(M#j#oF#x&M(M$oF#x&M(M#w5k$,h#Oi2<lM#M(w/,|_(_$_#Ck#X(n#w#,O.X'fw#i.#lM$lM#w),X'fw#`'R%" [ZdD] [B (.binB .neq)]
def ZHz:SFunc:=dcs ".X)Y3#&M%'#v~$~;HH*''$v~$~;GH*&JY2$%G)'G)&JY2%%G('G(&JY2&%G%'G%&JY'%G''G'&JY'%G&'G&&JY=G$'G$&J=G#'G#&w*X)fb'v$b&v#w#`)R&" [ZgL,ZHI,ZHw,ZG9] [B (.loadB 10004 (some 10)),B (.loadB 10003 (some 10)),B (.binB .eql)]
def ZHN:SFunc:=dcs ".X'tw#I(y3O.X'fw#iZY!2#%q'F%x)M(M$q'F%x)M(M#jY#oF$x)M(M$oF$x)M(M#j#oF#x)M(M$oF#x)M(M#w5k$,h#Oi2<lM#M(w/,|_(_$_#Ck#X(n#w#,O.X'fw#i.#lM$lM#w),X'fw#`'R%" [ZbG] []
def ZHR:SFunc:=dcs ".X'Y2#%'#v~$~;GH)&'$v~$~;FH)%JY2#%'#v~$~;GH%&'$v~$~;FH%%JY2$%G$&G$%J=G#&G#%w(X'fb&v$b%v#w#`'R%" [ZbG,ZHx] [B (.loadB 10003 (some 4)),B (.loadB 10002 (some 4))]
def ZHy:SFunc:=dcs ".X'tw#I)ylO.X'fw#iy!2#%q.x.M)G%&q.x.M)G%%wnk&,h%Oik<lG%%M)wg,_~$~;G_~$~;F|_)_&_%Ck%X)n#w#,I(yGO.X'fw#ifY!2$%oF$x%M(G$&oF$x%M(G$%j#oF#x%M(G$&oF#x%M(G$%wIk$,h#OiF<lG$%M(wB,_~$~;G_~$~;F|_(_&_%Ck#X(n#w#,O.X'fw#iAY#lG%&lG%%jY#lG$&lG$%j#G#&G#%w*,X'fb&v$b%v#w#`'R%" [ZHt,ZG9] []
def ZI1:SFunc:=dcs ".X'Y2#%'#v~$~;GH)&'$v~$~;FH)%JY2#%'#v~$~;GH$&'$v~$~;FH$%JY=G(&G(%J=G#&G#%w(X'fb&v$b%v#w#`'R%" [ZbG] [B (.loadB 10003 (some 4)),B (.loadB 10002 (some 4))]
def ZIx:SFunc:=dcs ".X'tw#I(y3O.X'fw#i>!2#%q.x.M(M$q.x.M(M#w5k$,h#Oi2<lM#M(w/,|_(_$_#Ck#X(n#w#,O.X'fw#i.#lM$lM#w),X'fw#`'R%" [ZIn] []
def ZIA:SFunc:=dcs ".X'Y2#%G+&G+%JY2$%G*&G*%JY2%%G)&G)%JY2#%G(&G(%JY2&%'#v~$~;GH$&'$v~$~;FH$%J=G#&G#%w(X'fb&v$b%v#w#`'R%" [ZG9,ZdD,ZHD,ZbG] [B (.loadB 10003 (some 4)),B (.loadB 10002 (some 4))]
def ZHP:SFunc:=dcs ".X)tw#I,ytO.X)fw#i~$&!2#%q,x,M,G%'q,x,M,G%&wvk(,h'Ois<lG%&M,wo,_~$~;H_~$~;G|_,_'_&Ck'X,n#w#,I+yaO.X)fw#in!2$%q&x&M+G$'q&x&M+G$&wck&,h%Oi`<lG$&M+w[,_~$~;H_~$~;G|_+_'_&Ck%X+n#w#,I*yLO.X)fw#iZ!3%&M%q5x5M*G#'q5x5M*G#&wNk$,h#OiK<lG#&M*wG,_~$~;H_~$~;G|_*_'_&_%Ck#X*n#w#,O.X)fw#iFY#lG%'lG%&jY#lG$'lG$&j#lG#'lG#&w.,X)fb'v$b&v#w#`)R&" [ZHW,ZHh,ZHn] []
def ZIJ:SFunc:=dcs ".X'Y2#%G.&G.%JY2$%G,&G,%J2%%g'&H(&g'%H(%w~$<I(yhO.X'fw#i~$;Y!2#%oF%x&M(G%&oF%x&M(G%%jY#oF$x&M(G%&oF$x&M(G%%j#oF#x&M(G%&oF#x&M(G%%wjk$,h#Oig<lG%%M(wc,_~$~;G_~$~;F|_(_&_%Ck#X(n#w#,O.X'fw#ibY#lG%&lG%%jY#G1&G1%jY#G0&G0%jY#G/&G/%jY#G'&G'%jY#G&&G&%jY#G$&G$%j#G#&G#%w),X'fb&v$b%v#w#`'R%" [ZG9,ZdD,ZbG] []
def ZJf:SFunc:=dcs ".X'tw#I)y~$:I*y~$QO.X'fw#i~$e!2#%q2x2M*ox$M)G1&q2x2M*ox$M)G1%w~$Sk(,h'Oi~$P<lox$M)G1%M*w~$I,_~$~;G_~$~;F|_*_)_&_%Ck'X*n#w#O.X'fw#i~$H#lox$M)G1&lox$M)G1%w~$<,k&,h%Oi~$9<lG1%M)w~$5,_~$~;G_~$~;F|_)_&_%Ck%X)n#w#,I(ypO.X'fw#i~$4Y!2$%q'F#x(M(G'&q'F#x(M(G'%j#oF'x(M(G'&oF'x(M(G'%wrk$,h#Oio<lG'%M(wk,_~$~;G_~$~;F|_(_&_%Ck#X(n#w#,O.X'fw#ijY#lG1&lG1%jY#lG'&lG'%jY!2$%'#v~$~;GH,&'$v~$~;FH,%jY!2$%'#v~$~;GH(&'$v~$~;FH(%jY#G&&G&%jY!2%%G%&G%%jY!2&%G$&G$%j#G#&G#%w+,X'fb&v$b%v#w#`'R%" [ZH9,ZbG,ZHD,ZG9] [B (.loadB 10003 (some 4)),B (.loadB 10002 (some 4))]
def ZJt:SFunc:=dcs ".X'tw#I(y>O.X'fw#iK!2#%q2x2M(G&&q2x2M(G&%w@k$,h#Oi=<lG&%M(w9,_~$~;G_~$~;F|_(_&_%Ck#X(n#w#,O.X'fw#i8Y!3$&t1%$'#v~$~;Gv&1%$'$v~$~;Fv%j#lG&&lG&%w),X'fb&v$b%v#w#`'R%" [ZIv,ZHs,ZH5] [B (.loadB 10003 (some 4)),B (.loadB 10002 (some 4))]
def ZHa:SFunc:=dcs ".X%Y0##JY=lG#&lG#(JY2$%1%$'#v~$~;Gv&'$v~$~;Iv(J=n#lG&(w4S'(v3a2(1&$L'&w2O.X%0##w1i0!M'w/,X'v.S'&v,a*&T$v)u#v)N)2'%n~PyM#w*X%fw#`%R$" [ZHF,ZIQ,ZH3,ZHi,Zgf] [B (.loadB 10003 (some 4)),B (.loadB 10005 (some 4))]
structure HasL (S:Nat->Option Fn):Prop where
 middleTables:S ZHi=some (.code ZHq)
 zmTables:S ZH3=some (.code ZIw)
 zmModule:S ZH5=some (.code ZIB)
 zaEqStrings:S ZG9=some (.code ZHE)
 zaEqFields:S ZHw=some (.code ZHT)
 zaEqCases:S ZHI=some (.code ZIa)
 zaEqNominal:S ZHn=some (.code ZHz)
 zaEqParams:S ZHx=some (.code ZHN)
 zaEqMethod:S ZHt=some (.code ZHR)
 zaEqProtocol:S ZHh=some (.code ZHy)
 zaEqReq:S ZIn=some (.code ZI1)
 zaEqReqs:S ZHD=some (.code ZIx)
 zaEqConf:S ZHW=some (.code ZIA)
 zaEqTables:S ZHs=some (.code ZHP)
 zmEqInstr:S ZH9=some (.code ZIJ)
 zmEqCode:S ZIv=some (.code ZJf)
 zmSame:S ZIQ=some (.code ZJt)
 law12MiddleTables:S ZG5=some (.code ZHa)
end Go.Am.Fe
end
