/- Part. -/
import Derived.Test.YtcdpeppblcijfaaGreatDoorXab
set_option maxRecDepth 999999
set_option maxHeartbeats 0
set_option linter.all false
section
namespace Go.Am.Tz
open Go.Am
inductive T where
 | M (x:Nat)|P (a:Arg)|Z (k:K)|U (k:K)|B (k:K)|V (k:K)|W4 (k:K)|W5 (k:K)|W6 (k:K)|L (κ:Nat)|G (i x:Nat)|H (i x:Nat)|J (b:Bool)|Y|X (x:Nat)|I (x:Nat)|O (op:SOp)|Q (op:SOp)|D (d:Nat)|E (x:Nat)
 | N (x:Nat)|Su (n y:Nat)|Sv (n y:Nat)|St (n y:Nat)|Sf (n y:Nat)|Ln (n y:Nat)|Lf (n y:Nat)|C1 (f n:Nat)|C2 (f n:Nat)|C3 (f n:Nat)|Al (z:List C) (y:Nat)|Bx (y:Nat)|Xu (i:Nat)|Ap (s:Nat)|Lt (κ:Nat)|UT (k:K)|BT (k:K)|VT (k:K)|WT (k:K)|Cm (f n:Nat)|Cv (n:Nat)
def yyh:List Arg->Arg
 | []=> .k 0
 | a::_=>a
def yyt:List Arg->List Arg
 | []=>[]
 | _::s=>s
def yyu:Arg->Nat
 | .k n=>n
 | _=>0
abbrev yyO:=Option (Nat×Bool)
def yyp (g:yyO) (x:Arg):List Arg:=match g with
 | some (j,true)=>[.k j,x,.c (.p (.bool false))]
 | some (j,false)=>[.k j,.c (.p (.bool true)),x]
 | none=>[]
def yyg:List yyO->yyO
 | []=>none
 | a::_=>a
def yyk:List yyO->List yyO
 | []=>[]
 | _::s=>s
def yyW:List T->Nat->yyO->List Arg->List yyO->List SOp
 | [],_,_,_,_=>[]
 | .M x::t,d,g,s,gs=>⟨.mov,[.k x],[],[d],g,true⟩::yyW t (d+1) g (.k d::s) gs
 | .E x::t,d,g,s,gs=>⟨.mov,[.k x],[x],[d],g,true⟩::yyW t (d+1) g (.k d::s) gs
 | .P a::t,d,g,s,gs=>yyW t d g (a::s) gs
 | .Z k::t,d,g,s,gs=>⟨k,[],[],[d],g,true⟩::yyW t (d+1) g (.k d::s) gs
 | .U k::t,d,g,s,gs=>⟨k,[yyh s],[],[d],g,true⟩::yyW t (d+1) g (.k d::yyt s) gs
 | .B k::t,d,g,s,gs=>⟨k,[yyh (yyt s),yyh s],[],[d],g,true⟩::yyW t (d+1) g (.k d::yyt (yyt s)) gs
 | .V k::t,d,g,s,gs=>⟨k,[yyh (yyt (yyt s)),yyh (yyt s),yyh s],[],[d],g,true⟩::yyW t (d+1) g (.k d::yyt (yyt (yyt s))) gs
 | .W4 k::t,d,g,s,gs=>⟨k,[yyh (yyt (yyt (yyt s))),yyh (yyt (yyt s)),yyh (yyt s),yyh s],[],[d],g,true⟩::yyW t (d+1) g (.k d::yyt (yyt (yyt (yyt s)))) gs
 | .W5 k::t,d,g,s,gs=>⟨k,[yyh (yyt (yyt (yyt (yyt s)))),yyh (yyt (yyt (yyt s))),yyh (yyt (yyt s)),yyh (yyt s),yyh s],[],[d],g,true⟩::yyW t (d+1) g (.k d::yyt (yyt (yyt (yyt (yyt s))))) gs
 | .W6 k::t,d,g,s,gs=>⟨k,[yyh (yyt (yyt (yyt (yyt (yyt s))))),yyh (yyt (yyt (yyt (yyt s)))),yyh (yyt (yyt (yyt s))),yyh (yyt (yyt s)),yyh (yyt s),yyh s],[],[d],g,true⟩::yyW t (d+1) g (.k d::yyt (yyt (yyt (yyt (yyt (yyt s)))))) gs
 | .L κ::t,d,g,s,gs=>⟨.loadB κ none,[yyh s,.k κ],[],[d],g,true⟩::yyW t (d+1) g (.k d::yyt s) gs
 | .H i x::t,d,g,s,gs=>⟨.fieldAddr i,[.k x],[],[d],g,true⟩::yyW t (d+1) g (.k d::s) gs
 | .G i x::t,d,g,s,gs=>⟨.fieldAddr i,[.k x],[],[d],g,true⟩::⟨.loadB (10000+x) none,[.k d,.k (10000+x)],[],[d+1],g,true⟩::yyW t (d+2) g (.k (d+1)::s) gs
 | .J b::t,d,g,s,gs=>⟨.mov,[yyh s],[],[d],g,true⟩::yyW t (d+1) (some (d,b)) (.k d::yyt s) (g::gs)
 | .Y::t,d,g,s,gs=>⟨.pick,yyp g (yyh s),[],[d],yyg gs,true⟩::yyW t (d+1) (yyg gs) (.k d::yyt (yyt s)) (yyk gs)
 | .X x::t,d,g,s,gs=>⟨.mov,[yyh s],[],[x],g,true⟩::yyW t d g (yyt s) gs
 | .I x::t,d,g,s,gs=>⟨.mov,[.k x],[],[d],g,true⟩::⟨.bin .add,[.k d,.c (.p (.int .i64 1))],[],[d+1],g,true⟩::⟨.mov,[.k (d+1)],[],[x],g,true⟩::yyW t (d+2) g s gs
 | .O op::t,d,g,s,gs=>op::yyW t (d+1) g (.k d::s) gs
 | .Q op::t,d,g,s,gs=>op::yyW t d g s gs
 | .D d::t,_,g,s,gs=>yyW t d g s gs
 | .N x::t,d,g,s,gs=>⟨.mov,[yyh s],[yyu (yyh s)],[x],g,true⟩::yyW t d g (yyt s) gs
 | .Su n y::t,d,g,s,gs=>⟨.storeB (10000+y) n,[.k y,yyh s,.k (10000+y)],[10000+y,yyu (yyh s)],[10000+y],g,false⟩::yyW t d g (yyt s) gs
 | .Sv n y::t,d,g,s,gs=>⟨.storeB (10000+y) n,[yyh (yyt s),yyh s,.k (10000+y)],[10000+y,yyu (yyh s)],[10000+y],g,false⟩::yyW t d g (yyt (yyt s)) gs
 | .St n y::t,d,g,s,gs=>⟨.storeB (10000+y) n,[.k y,yyh s,.k (10000+y)],[10000+y],[10000+y],g,false⟩::yyW t d g (yyt s) gs
 | .Sf n y::t,d,g,s,gs=>⟨.storeB (10000+y) n,[yyh (yyt s),yyh s,.k (10000+y)],[10000+y],[10000+y],g,false⟩::yyW t d g (yyt (yyt s)) gs
 | .Ln n y::t,d,g,s,gs=>⟨.loadB (10000+y) (some n),[.k y,.k (10000+y)],[],[d],g,true⟩::yyW t (d+1) g (.k d::s) gs
 | .Lf n y::t,d,g,s,gs=>⟨.loadB (10000+y) (some n),[yyh s,.k (10000+y)],[],[d],g,true⟩::yyW t (d+1) g (.k d::yyt s) gs
 | .C1 f n::t,d,g,s,gs=>⟨.call f true [] n,[yyh s,.k 9999],[9999],[d,9999],g,true⟩::yyW t (d+1) g (.k d::yyt s) gs
 | .C2 f n::t,d,g,s,gs=>⟨.call f true [] n,[yyh (yyt s),yyh s,.k 9999],[9999],[d,9999],g,true⟩::yyW t (d+1) g (.k d::yyt (yyt s)) gs
 | .C3 f n::t,d,g,s,gs=>⟨.call f true [] n,[yyh (yyt (yyt s)),yyh (yyt s),yyh s,.k 9999],[9999],[d,9999],g,true⟩::yyW t (d+1) g (.k d::yyt (yyt (yyt s))) gs
 | .Al z y::t,d,g,s,gs=>⟨.alloc (10000+y) z,[],[],[y,10000+y],g,true⟩::yyW t d g s gs
 | .Bx y::t,d,g,s,gs=>⟨.box (10000+y),[yyh s],[],[y,10000+y],g,true⟩::yyW t d g (yyt s) gs
 | .Xu i::t,d,g,s,gs=>⟨.extract i,[yyh s],[yyu (yyh s)],[d],g,true⟩::yyW t (d+1) g (.k d::yyt s) gs
 | .Ap z::t,d,g,s,gs=>⟨.append z,[yyh (yyt s),yyh s],[yyu (yyh (yyt s))],[d],g,true⟩::yyW t (d+1) g (.k d::yyt (yyt s)) gs
 | .Lt κ::t,d,g,s,gs=>⟨.loadBT κ none,[yyh s,.k κ],[κ],[d,κ],g,true⟩::yyW t (d+1) g (.k d::yyt s) gs
 | .UT k::t,d,g,s,gs=>⟨k,[yyh s],[yyu (yyh s)],[d],g,true⟩::yyW t (d+1) g (.k d::yyt s) gs
 | .BT k::t,d,g,s,gs=>⟨k,[yyh (yyt s),yyh s],[yyu (yyh s)],[d],g,true⟩::yyW t (d+1) g (.k d::yyt (yyt s)) gs
 | .VT k::t,d,g,s,gs=>⟨k,[yyh (yyt (yyt s)),yyh (yyt s),yyh s],[yyu (yyh s)],[d],g,true⟩::yyW t (d+1) g (.k d::yyt (yyt (yyt s))) gs
 | .WT k::t,d,g,s,gs=>⟨k,[yyh (yyt (yyt (yyt s))),yyh (yyt (yyt s)),yyh (yyt s),yyh s],[yyu (yyh s)],[d],g,true⟩::yyW t (d+1) g (.k d::yyt (yyt (yyt (yyt s)))) gs
 | .Cm f n::t,d,g,s,gs=>⟨.call f false [] n,[yyh (yyt s),yyh s],[yyu (yyh (yyt s))],[d],g,true⟩::yyW t (d+1) g (.k d::yyt (yyt s)) gs
 | .Cv n::t,d,g,s,gs=>⟨.callv true [] n,[yyh (yyt s),yyh s,.k 9999],[9999],[d,9999],g,true⟩::yyW t (d+1) g (.k d::yyt (yyt s)) gs
def yyR (d:Nat) (t:List T):SCode:= .region (yyW t d none [] [])
def dcd (c:SFunc) {s:SFunc} (_h:c=s:=by simp only [yyR,yyW,yyh,yyt,yyu,yyp,yyg,yyk,Nat.reduceAdd];exact rfl):SFunc:=s
@[simp ↓] def ZGN (c s:SFunc) (h:c=s):dcd c h=s:=rfl
end Go.Am.Tz
namespace Go.Am.Tk
open Go.Am.Tz Go.Am.Tx
abbrev M:=T.M
abbrev Pp:=T.P
abbrev Z:=T.Z
abbrev U:=T.U
abbrev B:=T.B
abbrev V:=T.V
abbrev W4:=T.W4
abbrev W5:=T.W5
abbrev W6:=T.W6
abbrev L:=T.L
abbrev Gg:=T.G
abbrev H:=T.H
abbrev J:=T.J
abbrev Y:=T.Y
abbrev Xx:=T.X
abbrev I:=T.I
abbrev O:=T.O
abbrev Q:=T.Q
abbrev Dd:=T.D
abbrev E:=T.E
abbrev F (i:Nat):=T.U (.fieldAddr i)
abbrev Ll:=T.U .len
abbrev Lo:=T.U (.load none)
abbrev Nt:=T.U .not
abbrev Xt (i:Nat):=T.U (.extract i)
abbrev LS:=T.U .lenS
abbrev IS:=T.B .indexS
abbrev Ix (s:Nat):=T.B (.indexAddr s)
abbrev Ad:=T.B (.bin .add)
abbrev Sb:=T.B (.bin .sub)
abbrev Qe:=T.B (.bin .eql)
abbrev Qn:=T.B (.bin .neq)
abbrev Ql:=T.B (.bin .lss)
abbrev Qg:=T.B (.bin .gtr)
abbrev Qh:=T.B (.bin .geq)
abbrev Qi:=T.B (.bin .leq)
abbrev Pn (i:Int):=T.P (n i)
abbrev Pu (i:Int):=T.P (u i)
abbrev Pb (i:Bool):=T.P (b i)
abbrev Ps (i:List Nat):=T.P (s i)
abbrev Pv (i:Nat):=T.P (v i)
abbrev Pz (i:Nat):=T.P (z i)
abbrev C0 (f n:Nat):=T.Z (.call f false [] n)
abbrev C1 (f n:Nat):=T.U (.call f false [] n)
abbrev C2 (f n:Nat):=T.B (.call f false [] n)
abbrev C3 (f n:Nat):=T.V (.call f false [] n)
abbrev C4 (f n:Nat):=T.W4 (.call f false [] n)
abbrev C5 (f n:Nat):=T.W5 (.call f false [] n)
abbrev C6 (f n:Nat):=T.W6 (.call f false [] n)
abbrev N:=T.N
abbrev Su:=T.Su
abbrev Sv:=T.Sv
abbrev Sz:=T.St
abbrev Sf:=T.Sf
abbrev Ln:=T.Ln
abbrev Lf:=T.Lf
abbrev Al:=T.Al
abbrev Bx:=T.Bx
abbrev Xu:=T.Xu
abbrev Ap:=T.Ap
abbrev Lm:=T.Lt
abbrev Pd (f n:Nat):=T.C1 f n
abbrev Pe (f n:Nat):=T.C2 f n
abbrev Pf (f n:Nat):=T.C3 f n
abbrev Lq (n:Nat):=T.U (.load (some n))
abbrev Bs (n:Nat):=T.U (.buildSlice n)
abbrev UT:=T.UT
abbrev BT:=T.BT
abbrev VT:=T.VT
abbrev WT:=T.WT
abbrev Cm:=T.Cm
abbrev Cv:=T.Cv
abbrev yR:=Tz.yyR
end Go.Am.Tk
end
