/- Part. -/
import Derived.Test.YtmofclmogldnjaaGreatDoorCab
set_option maxRecDepth 999999
set_option maxHeartbeats 0
set_option linter.all false
section
namespace Go.Am.Tz
open Go.Am
inductive T where
 | M (x:Nat)|P (a:Arg)|Z (k:K)|U (k:K)|B (k:K)|V (k:K)|W4 (k:K)|W5 (k:K)|W6 (k:K)|L (κ:Nat)|G (i x:Nat)|H (i x:Nat)|J (b:Bool)|Y|X (x:Nat)|I (x:Nat)|O (op:SOp)|Q (op:SOp)|D (d:Nat)|E (x:Nat)
 | N (x:Nat)|Su (n y:Nat)|Sv (n y:Nat)|St (n y:Nat)|Sf (n y:Nat)|Ln (n y:Nat)|Lf (n y:Nat)|C1 (f n:Nat)|C2 (f n:Nat)|C3 (f n:Nat)|Al (z:List C) (y:Nat)|Bx (y:Nat)|Xu (i:Nat)|Ap (s:Nat)|Lt (κ:Nat)|UT (k:K)|BT (k:K)|VT (k:K)|WT (k:K)|Cm (f n:Nat)|Cv (n:Nat)
def yyh:List Arg->Arg
 | []=> .k 0
 | a::_=>a
def yyt:List Arg->List Arg
 | []=>[]
 | _::s=>s
def yyu:Arg->Nat
 | .k n=>n
 | _=>0
abbrev yyO:=Option (Nat×Bool)
def yyp (g:yyO) (x:Arg):List Arg:=match g with
 | some (j,true)=>[.k j,x,.c (.p (.bool false))]
 | some (j,false)=>[.k j,.c (.p (.bool true)),x]
 | none=>[]
def yyg:List yyO->yyO
 | []=>none
 | a::_=>a
def yyk:List yyO->List yyO
 | []=>[]
 | _::s=>s
def yyW:List T->Nat->yyO->List Arg->List yyO->List SOp
 | [],_,_,_,_=>[]
 | .M x::t,d,g,s,gs=>⟨.mov,[.k x],[],[d],g,true⟩::yyW t (d+1) g (.k d::s) gs
 | .E x::t,d,g,s,gs=>⟨.mov,[.k x],[x],[d],g,true⟩::yyW t (d+1) g (.k d::s) gs
 | .P a::t,d,g,s,gs=>yyW t d g (a::s) gs
 | .Z k::t,d,g,s,gs=>⟨k,[],[],[d],g,true⟩::yyW t (d+1) g (.k d::s) gs
 | .U k::t,d,g,s,gs=>⟨k,[yyh s],[],[d],g,true⟩::yyW t (d+1) g (.k d::yyt s) gs
 | .B k::t,d,g,s,gs=>⟨k,[yyh (yyt s),yyh s],[],[d],g,true⟩::yyW t (d+1) g (.k d::yyt (yyt s)) gs
 | .V k::t,d,g,s,gs=>⟨k,[yyh (yyt (yyt s)),yyh (yyt s),yyh s],[],[d],g,true⟩::yyW t (d+1) g (.k d::yyt (yyt (yyt s))) gs
 | .W4 k::t,d,g,s,gs=>⟨k,[yyh (yyt (yyt (yyt s))),yyh (yyt (yyt s)),yyh (yyt s),yyh s],[],[d],g,true⟩::yyW t (d+1) g (.k d::yyt (yyt (yyt (yyt s)))) gs
 | .W5 k::t,d,g,s,gs=>⟨k,[yyh (yyt (yyt (yyt (yyt s)))),yyh (yyt (yyt (yyt s))),yyh (yyt (yyt s)),yyh (yyt s),yyh s],[],[d],g,true⟩::yyW t (d+1) g (.k d::yyt (yyt (yyt (yyt (yyt s))))) gs
 | .W6 k::t,d,g,s,gs=>⟨k,[yyh (yyt (yyt (yyt (yyt (yyt s))))),yyh (yyt (yyt (yyt (yyt s)))),yyh (yyt (yyt (yyt s))),yyh (yyt (yyt s)),yyh (yyt s),yyh s],[],[d],g,true⟩::yyW t (d+1) g (.k d::yyt (yyt (yyt (yyt (yyt (yyt s)))))) gs
 | .L κ::t,d,g,s,gs=>⟨.loadB κ none,[yyh s,.k κ],[],[d],g,true⟩::yyW t (d+1) g (.k d::yyt s) gs
 | .H i x::t,d,g,s,gs=>⟨.fieldAddr i,[.k x],[],[d],g,true⟩::yyW t (d+1) g (.k d::s) gs
 | .G i x::t,d,g,s,gs=>⟨.fieldAddr i,[.k x],[],[d],g,true⟩::⟨.loadB (10000+x) none,[.k d,.k (10000+x)],[],[d+1],g,true⟩::yyW t (d+2) g (.k (d+1)::s) gs
 | .J b::t,d,g,s,gs=>⟨.mov,[yyh s],[],[d],g,true⟩::yyW t (d+1) (some (d,b)) (.k d::yyt s) (g::gs)
 | .Y::t,d,g,s,gs=>⟨.pick,yyp g (yyh s),[],[d],yyg gs,true⟩::yyW t (d+1) (yyg gs) (.k d::yyt (yyt s)) (yyk gs)
 | .X x::t,d,g,s,gs=>⟨.mov,[yyh s],[],[x],g,true⟩::yyW t d g (yyt s) gs
 | .I x::t,d,g,s,gs=>⟨.mov,[.k x],[],[d],g,true⟩::⟨.bin .add,[.k d,.c (.p (.int .i64 1))],[],[d+1],g,true⟩::⟨.mov,[.k (d+1)],[],[x],g,true⟩::yyW t (d+2) g s gs
 | .O op::t,d,g,s,gs=>op::yyW t (d+1) g (.k d::s) gs
 | .Q op::t,d,g,s,gs=>op::yyW t d g s gs
 | .D d::t,_,g,s,gs=>yyW t d g s gs
 | .N x::t,d,g,s,gs=>⟨.mov,[yyh s],[yyu (yyh s)],[x],g,true⟩::yyW t d g (yyt s) gs
 | .Su n y::t,d,g,s,gs=>⟨.storeB (10000+y) n,[.k y,yyh s,.k (10000+y)],[10000+y,yyu (yyh s)],[10000+y],g,false⟩::yyW t d g (yyt s) gs
 | .Sv n y::t,d,g,s,gs=>⟨.storeB (10000+y) n,[yyh (yyt s),yyh s,.k (10000+y)],[10000+y,yyu (yyh s)],[10000+y],g,false⟩::yyW t d g (yyt (yyt s)) gs
 | .St n y::t,d,g,s,gs=>⟨.storeB (10000+y) n,[.k y,yyh s,.k (10000+y)],[10000+y],[10000+y],g,false⟩::yyW t d g (yyt s) gs
 | .Sf n y::t,d,g,s,gs=>⟨.storeB (10000+y) n,[yyh (yyt s),yyh s,.k (10000+y)],[10000+y],[10000+y],g,false⟩::yyW t d g (yyt (yyt s)) gs
 | .Ln n y::t,d,g,s,gs=>⟨.loadB (10000+y) (some n),[.k y,.k (10000+y)],[],[d],g,true⟩::yyW t (d+1) g (.k d::s) gs
 | .Lf n y::t,d,g,s,gs=>⟨.loadB (10000+y) (some n),[yyh s,.k (10000+y)],[],[d],g,true⟩::yyW t (d+1) g (.k d::yyt s) gs
 | .C1 f n::t,d,g,s,gs=>⟨.call f true [] n,[yyh s,.k 9999],[9999],[d,9999],g,true⟩::yyW t (d+1) g (.k d::yyt s) gs
 | .C2 f n::t,d,g,s,gs=>⟨.call f true [] n,[yyh (yyt s),yyh s,.k 9999],[9999],[d,9999],g,true⟩::yyW t (d+1) g (.k d::yyt (yyt s)) gs
 | .C3 f n::t,d,g,s,gs=>⟨.call f true [] n,[yyh (yyt (yyt s)),yyh (yyt s),yyh s,.k 9999],[9999],[d,9999],g,true⟩::yyW t (d+1) g (.k d::yyt (yyt (yyt s))) gs
 | .Al z y::t,d,g,s,gs=>⟨.alloc (10000+y) z,[],[],[y,10000+y],g,true⟩::yyW t d g s gs
 | .Bx y::t,d,g,s,gs=>⟨.box (10000+y),[yyh s],[],[y,10000+y],g,true⟩::yyW t d g (yyt s) gs
 | .Xu i::t,d,g,s,gs=>⟨.extract i,[yyh s],[yyu (yyh s)],[d],g,true⟩::yyW t (d+1) g (.k d::yyt s) gs
 | .Ap z::t,d,g,s,gs=>⟨.append z,[yyh (yyt s),yyh s],[yyu (yyh (yyt s))],[d],g,true⟩::yyW t (d+1) g (.k d::yyt (yyt s)) gs
 | .Lt κ::t,d,g,s,gs=>⟨.loadBT κ none,[yyh s,.k κ],[κ],[d,κ],g,true⟩::yyW t (d+1) g (.k d::yyt s) gs
 | .UT k::t,d,g,s,gs=>⟨k,[yyh s],[yyu (yyh s)],[d],g,true⟩::yyW t (d+1) g (.k d::yyt s) gs
 | .BT k::t,d,g,s,gs=>⟨k,[yyh (yyt s),yyh s],[yyu (yyh s)],[d],g,true⟩::yyW t (d+1) g (.k d::yyt (yyt s)) gs
 | .VT k::t,d,g,s,gs=>⟨k,[yyh (yyt (yyt s)),yyh (yyt s),yyh s],[yyu (yyh s)],[d],g,true⟩::yyW t (d+1) g (.k d::yyt (yyt (yyt s))) gs
 | .WT k::t,d,g,s,gs=>⟨k,[yyh (yyt (yyt (yyt s))),yyh (yyt (yyt s)),yyh (yyt s),yyh s],[yyu (yyh s)],[d],g,true⟩::yyW t (d+1) g (.k d::yyt (yyt (yyt (yyt s)))) gs
 | .Cm f n::t,d,g,s,gs=>⟨.call f false [] n,[yyh (yyt s),yyh s],[yyu (yyh (yyt s))],[d],g,true⟩::yyW t (d+1) g (.k d::yyt (yyt s)) gs
 | .Cv n::t,d,g,s,gs=>⟨.callv true [] n,[yyh (yyt s),yyh s,.k 9999],[9999],[d,9999],g,true⟩::yyW t (d+1) g (.k d::yyt (yyt s)) gs
def yyR (d:Nat) (t:List T):SCode:= .region (yyW t d none [] [])
def dcd (c:SFunc) {s:SFunc} (_h:c=s:=by simp only [yyR,yyW,yyh,yyt,yyu,yyp,yyg,yyk,Nat.reduceAdd];exact rfl):SFunc:=s
@[simp ↓] def ZGN (c s:SFunc) (h:c=s):dcd c h=s:=rfl
structure yyS where
 k:Nat
 o:Nat
 e:Bool
 a:Nat
 r:List Nat
 t:List T
 c:List SCode
 p:List (Nat×Nat)
 n:List Nat
 b:List Bool
 s:List Res
 h:Nat
def yya (o:Nat):Nat:=if o∈[116,102,74,106,108,61,60,33,89,111,43,35,62,64,36,37,101,38,58,59,79,46,44,124,67,123,125] then 0 else if o∈[71,76,83,72,86,90,115,103,48,49,50,51,52,53,54,100,112,114,99,97,40,41,81] then 2 else 1
def yyB (i:Nat) (k:K):T:=match i with
 | 0=> .Z k|1=> .U k|2=> .B k|3=> .V k|4=> .W4 k|5=> .W5 k|6=> .W6 k|7=> .UT k|8=> .BT k|9=> .VT k|_=> .WT k
def yyv (o x y:Nat) (p:List (Nat×Nat)) (g:Nat->Nat) (l:Nat->List C) (z:Nat->T):T:=match o with
 | 116=> .P (.c (.p (.bool true)))|102=> .P (.c (.p (.bool false)))|74=> .J true|106=> .J false|108=> .U .len
 | 61=> .B (.bin .eql)|60=> .B (.bin .lss)|33=> .U .not|89=> .Y|111=> .U (.load none)|43=> .B (.bin .add)|35=> .B (.bin .neq)
 | 62=> .B (.bin .gtr)|64=> .B (.bin .geq)|36=> .U .lenS|37=> .B .indexS|101=> .B (.bin .sub)|38=> .B (.bin .leq)|58=> .U .nilCheck|59=> .B (.loadO none)
 | 77=> .M x|118=> .P (.k x)|88=> .X x|110=> .P (.c (.p (.int .i64 (.ofNat x))))|78=> .N x|120=> .B (.indexAddr x)|69=> .E x|113=> .U (.load (some x))
 | 66=> .U (.buildSlice x)|84=> .U (.extract x)|65=> .Ap x|98=> .Bx x|70=> .U (.fieldAddr x)|122=> .P (.c (.tip x []))|73=> .I x|117=> .Xu x
 | 109=> .Lt x|75=> .L x|85=> .P (.c (.p (.int .u8 (.ofNat x))))|68=> .D x|63=> .Cv x|94=> .B (.buildSlice x)|39=>z x
 | 71=> .G x y|76=> .Ln x y|83=> .Su x y|72=> .H x y|86=> .Sv x y|90=> .St x y|115=> .Sf x y|103=> .Lf x y
 | 100=> .C1 (g x) y|112=> .C2 (g x) y|114=> .C3 (g x) y|99=> .Cm (g x) y|97=> .Al (l x) y|41=>yyB x (.build (l y) p)
 | _=>yyB (o-48) (.call (g x) false [] y)
def yyd:List SCode->SCode
 | []=> .ret
 | c::_=>c
def yyV (g:Nat->Nat) (l:Nat->List C) (z:Nat->T) (o x y:Nat) (r:List Nat):yyS->yyS
 | ⟨_,_,_,_,_,t,c,p,n,b,s,h⟩=>match o with
   | 119=>⟨0,0,false,0,[],[],.seq (yyR x t) (yyd c)::c.tail,p,n,b,s,h⟩
   | 121=>⟨0,0,false,0,[],[],yyR x t::c,p,n,b,s,h⟩
   | 44=>⟨0,0,false,0,[],t,.seq (yyd c) (yyd c.tail)::c.tail.tail,p,n,b,s,h⟩
   | 105=>⟨0,0,false,0,[],t,.cond (.k x) (yyd c) (yyd c.tail)::c.tail.tail,p,n,b,s,h⟩
   | 107=>⟨0,0,false,0,[],t,.block x (yyd c)::c.tail,p,n,b,s,h⟩
   | 79=>⟨0,0,false,0,[],t,.skip::c,p,n,b,s,h⟩
   | 104=>⟨0,0,false,0,[],t,.exit x::c,p,n,b,s,h⟩
   | 46=>⟨0,0,false,0,[],t,.ret::c,p,n,b,s,h⟩
   | 67=>⟨0,0,false,0,[],t,.loop n (yyd c)::c.tail,p,[],b,s,h⟩
   | 95=>⟨0,0,false,0,[],t,c,p,x::n,b,s,h⟩
   | 124=>⟨0,0,false,0,[],t,c,p,9999::n,b,s,h⟩
   | 123=>⟨0,0,false,0,[],t,c,p,n,true::b,s,h⟩
   | 125=>⟨0,0,false,0,[],t,c,p,n,false::b,s,h⟩
   | 96=>⟨0,0,false,0,[],t,c,p,n,b,.tmp x::s,h⟩
   | 81=>⟨0,0,false,0,[],t,c,p,n,b,.cell x (10000+x) (some y)::s,h⟩
   | 82=>⟨0,0,false,0,[],t,c,p,n,b,s,x⟩
   | 40=>⟨0,0,false,0,[],t,c,(x,y)::p,n,b,s,h⟩
   | 80=>match x with
     | 0=>⟨0,0,false,0,[],.P (.c (.p (.str [])))::t,c,p,n,b,s,h⟩
     | x+1=>⟨x+1,42,false,0,[],t,c,p,n,b,s,h⟩
   | 42=>⟨0,0,false,0,[],.P (.c (.p (.str ((r.map (· +32)).reverse))))::t,c,p,n,b,s,h⟩
   | 41=>⟨0,0,false,0,[],yyv o x y p g l z::t,c,[],n,b,s,h⟩
   | _=>⟨0,0,false,0,[],yyv o x y p g l z::t,c,p,n,b,s,h⟩
def yyn:List Nat->Nat
 | []=>0
 | a::_=>a
def yyz (c:Nat):Nat:=if c>92 then c-37 else if c>45 then c-36 else c-35
def yyJ (g:Nat->Nat) (l:Nat->List C) (z:Nat->T):List Char->yyS->SFunc
 | [],st=>⟨st.h,st.b,st.s,yyd st.c⟩
 | w::ws,⟨k,o,e,a,r,t,c,p,n,b,s,h⟩=>match k with
   | 0=>match yya w.toNat with
     | 0=>yyJ g l z ws (yyV g l z w.toNat 0 0 [] ⟨0,0,false,0,[],t,c,p,n,b,s,h⟩)
     | i+1=>yyJ g l z ws ⟨i+1,w.toNat,false,0,[],t,c,p,n,b,s,h⟩
   | k+1=>match w.toNat==126 with
     | true=>yyJ g l z ws ⟨k+1,o,true,a,r,t,c,p,n,b,s,h⟩
     | false=>match e with
       | true=>yyJ g l z ws ⟨k+1,o,false,a*89+yyz w.toNat,r,t,c,p,n,b,s,h⟩
       | false=>match k with
         | 0=>yyJ g l z ws (yyV g l z o (yyn ((a*89+yyz w.toNat)::r).reverse) (yyn ((a*89+yyz w.toNat)::r).reverse.tail) ((a*89+yyz w.toNat)::r) ⟨0,0,false,0,[],t,c,p,n,b,s,h⟩)
         | k+1=>yyJ g l z ws ⟨k+1,o,false,0,(a*89+yyz w.toNat)::r,t,c,p,n,b,s,h⟩
def yyx {α:Type}:List α->α->Nat->α
 | [],d,_=>d
 | a::_,_,0=>a
 | _::l,d,n+1=>yyx l d n
def dcs (w:String) (ns:List Nat) (os:List T) {L:List Char} (_h:w=String.ofList L:=by exact rfl) {r:(Nat->Nat)->(Nat->List C)->(Nat->T)->SFunc} (_i: ∀g l z,yyJ g l z L ⟨0,0,false,0,[],[],[],[],[],[],[],0⟩=r g l z:=by intro g l z;conv=>lhs;reduce) {s:SFunc} (_j:r (yyx ns 0) Tx.zD (yyx os .Y)=s:=by simp only [yyx,Tx.zD,yyR,yyW,yyh,yyt,yyu,yyp,yyg,yyk,Nat.reduceAdd,Int.reduceOfNat];exact rfl):SFunc:=s
@[simp ↓] def ZOD (w:String) (ns:List Nat) (os:List T) {L:List Char} (h:w=String.ofList L) {r:(Nat->Nat)->(Nat->List C)->(Nat->T)->SFunc} (i: ∀g l z,yyJ g l z L ⟨0,0,false,0,[],[],[],[],[],[],[],0⟩=r g l z) {s:SFunc} (j:r (yyx ns 0) Tx.zD (yyx os .Y)=s):dcs w ns os h i j=s:=rfl
end Go.Am.Tz
namespace Go.Am.Tk
open Go.Am.Tz Go.Am.Tx
abbrev M:=T.M
abbrev Pp:=T.P
abbrev Z:=T.Z
abbrev U:=T.U
abbrev B:=T.B
abbrev V:=T.V
abbrev W4:=T.W4
abbrev W5:=T.W5
abbrev W6:=T.W6
abbrev L:=T.L
abbrev Gg:=T.G
abbrev H:=T.H
abbrev J:=T.J
abbrev Y:=T.Y
abbrev Xx:=T.X
abbrev I:=T.I
abbrev O:=T.O
abbrev Q:=T.Q
abbrev Dd:=T.D
abbrev E:=T.E
abbrev F (i:Nat):=T.U (.fieldAddr i)
abbrev Ll:=T.U .len
abbrev Lo:=T.U (.load none)
abbrev Nt:=T.U .not
abbrev Xt (i:Nat):=T.U (.extract i)
abbrev LS:=T.U .lenS
abbrev IS:=T.B .indexS
abbrev Ix (s:Nat):=T.B (.indexAddr s)
abbrev Ad:=T.B (.bin .add)
abbrev Sb:=T.B (.bin .sub)
abbrev Qe:=T.B (.bin .eql)
abbrev Qn:=T.B (.bin .neq)
abbrev Ql:=T.B (.bin .lss)
abbrev Qg:=T.B (.bin .gtr)
abbrev Qh:=T.B (.bin .geq)
abbrev Pn (i:Int):=T.P (n i)
abbrev Pu (i:Int):=T.P (u i)
abbrev Pb (i:Bool):=T.P (b i)
abbrev Ps (i:List Nat):=T.P (s i)
abbrev Pv (i:Nat):=T.P (v i)
abbrev Pz (i:Nat):=T.P (z i)
abbrev C1 (f n:Nat):=T.U (.call f false [] n)
abbrev C2 (f n:Nat):=T.B (.call f false [] n)
abbrev C3 (f n:Nat):=T.V (.call f false [] n)
abbrev C4 (f n:Nat):=T.W4 (.call f false [] n)
abbrev C6 (f n:Nat):=T.W6 (.call f false [] n)
abbrev N:=T.N
abbrev Su:=T.Su
abbrev Sv:=T.Sv
abbrev Sz:=T.St
abbrev Sf:=T.Sf
abbrev Ln:=T.Ln
abbrev Lf:=T.Lf
abbrev Al:=T.Al
abbrev Bx:=T.Bx
abbrev Xu:=T.Xu
abbrev Ap:=T.Ap
abbrev Lm:=T.Lt
abbrev Lq (n:Nat):=T.U (.load (some n))
abbrev Bs (n:Nat):=T.U (.buildSlice n)
abbrev UT:=T.UT
abbrev BT:=T.BT
abbrev VT:=T.VT
abbrev WT:=T.WT
abbrev Cm:=T.Cm
abbrev Cv:=T.Cv
abbrev yR:=Tz.yyR
end Go.Am.Tk
end
