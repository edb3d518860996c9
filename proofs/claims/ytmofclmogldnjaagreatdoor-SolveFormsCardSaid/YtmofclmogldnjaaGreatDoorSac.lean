/- Part. -/
import Derived.Test.YtmofclmogldnjaaGreatDoorSaa
import GoSem.Core.Code
import GoSem.Core.View
set_option maxRecDepth 999999
set_option maxHeartbeats 0
set_option linter.all false
section
namespace Go.Am
inductive P where
 | int (k:IntKind) (n:Int)
 | bool (b:Bool)
 | str (s:List Nat)
 | sl (s:Nat) (rows:List (List P))
 deriving Inhabited
inductive MV where
 | one (x:P)
 | agg (xs:List P)
 deriving Inhabited
inductive MK where
 | one (k:Nat)
 | agg (ks:List Nat)
 deriving DecidableEq,Inhabited
structure R where
 own:Bool
 k:Nat
 off:Nat
 deriving DecidableEq,Inhabited
inductive C where
 | p (x:P)
 | tip (s:Nat) (rows:List (List P))
 | ref (r:R)
 | view (row:List P) (off:Nat)
 | clo (f:Nat) (first caps:List R)
 | nilp
 | uniq (s:Nat) (rows:List (List P))
 | own (r:R) (s n:Nat)
 | junk
 | hdr (n:Nat)
 | map (r:R) (es:List (P×P))
 | mptr (r:R)
 | mapc (es:List (MV×MV))
 deriving Inhabited
def Zke:List C->Bool
 | [.mapc _]=>true
 | _=>false
inductive A where
 | one (c:C)
 | agg (cs:List C)
 deriving Inhabited
inductive D where
 | undef
 | a (x:A)
 | tup (xs:List A)
 | objs (os:List (List C))
 deriving Inhabited
abbrev Env:=List (Nat×D)
def Env.get:Env->Nat->D
 | [],_=> .undef
 | (k',d)::r,k=>if k'==k then d else Env.get r k
def Env.set (e:Env) (k:Nat) (d:D):Env:=(k,d)::e
def Env.sets (e:Env):List Nat->List D->Option Env
 | [],[]=>some e
 | k::ks,d::ds=>(e.set k d).sets ks ds
 | _,_=>none
def Env.norm (e:Env) (live:List Nat):Env:=live.map fun k=>(k,e.get k)
def Zim:Nat:=68719476736
def A.cells:A->List C
 | .one c=>[c]
 | .agg cs=>cs
def C.plain:C->C
 | .tip s r=> .p (.sl s r)
 | .uniq _ rows=> .hdr rows.length
 | .map r _=> .mptr r
 | c=>c
def A.plain:A->A
 | .one c=> .one c.plain
 | .agg cs=> .agg (cs.map C.plain)
def D.plain:D->D
 | .a x=> .a x.plain
 | .tup xs=> .tup (xs.map A.plain)
 | d=>d
def C.toP:C->Option P
 | .p x=>some x
 | .tip s r=>some (.sl s r)
 | _=>none
def toPs:List C->Option (List P)
 | []=>some []
 | c::r=>match c.toP,toPs r with
   | some x,some xs=>some (x::xs)
   | _,_=>none
def C.rows:C->Option (Nat×List (List P))
 | .p (.sl s r)=>some (s,r)
 | .tip s r=>some (s,r)
 | _=>none
def C.ment (κ:Nat):C->Bool
 | .ref r=>r.own && r.k==κ
 | .clo _ x y=>x.any (fun r=>r.own && r.k==κ)||y.any (fun r=>r.own && r.k==κ)
 | .own r _ _=>r.own && r.k==κ
 | .map r _=>r.own && r.k==κ
 | .mptr r=>r.own && r.k==κ
 | _=>false
def A.ment (κ:Nat) (x:A):Bool:=x.cells.any (C.ment κ)
def D.ment (κ:Nat):D->Bool
 | .undef=>false
 | .a x=>x.ment κ
 | .tup xs=>xs.any (A.ment κ)
 | .objs os=>os.any (fun cs=>cs.any (C.ment κ))
def Env.kill (κ:Nat):Env->Env
 | []=>[]
 | (k,d)::r=>(k,if k==κ||d.ment κ then .undef else d)::Env.kill κ r
def Env.kills:List Nat->Env->Env
 | [],e=>e
 | κ::ks,e=>Env.kills ks (e.kill κ)
inductive Arg where
 | k (key:Nat)
 | c (c:C)
 deriving Inhabited
inductive K where
 | mov
 | pick
 | alloc (κ:Nat) (z:List C)
 | box (κ:Nat)
 | build (z:List C) (offs:List (Nat×Nat))
 | load (n:Option Nat)
 | loadB (κ:Nat) (n:Option Nat)
 | loadBT (κ:Nat) (n:Option Nat)
 | loadO (n:Option Nat)
 | loadOT (n:Option Nat)
 | storeB (κ n:Nat)
 | storeO (n:Nat)
 | nilCheck
 | fieldAddr (off:Nat)
 | indexAddr (s:Nat)
 | indexS
 | bin (op:BinOp)
 | binB (op:BinOp)
 | neqS
 | not
 | neg
 | conv (k:IntKind)
 | convBS
 | buildSlice (s:Nat)
 | append (s:Nat)
 | len
 | lenS
 | min2
 | max2
 | slice (s:Nat) (lo hi mx:Bool)
 | sliceS (lo hi:Bool)
 | extract (i:Nat)
 | fieldV (off:Nat)
 | makeFunc (f:Nat) (first:Nat)
 | makeSlice (s:Nat)
 | makeSliceZ (s:Nat) (z:List P)
 | sliceU (s:Nat)
 | appendU (s:Nat)
 | makeMap (κ:Nat)
 | lookup (kk:Nat) (z:P)
 | update (kk:Nat)
 | makeMapX (κ:Nat)
 | lookupX (own:Option Nat) (ks:MK) (z:MV) (ok:Bool)
 | updateX (own:Option Nat) (ks:MK)
 | fail
 | call (f:Nat) (pass:Bool) (own:List Nat) (na:Nat)
 | callv (pass:Bool) (own:List Nat) (na:Nat)
 | callU (f:Nat) (κs:List Nat)
 deriving Inhabited
def K.creates:K->List Nat
 | .alloc κ _=>[κ]
 | .box κ=>[κ]
 | .makeMap κ=>[κ]
 | .makeMapX κ=>[κ]
 | .callU _ κs=>κs
 | _=>[]
structure SOp where
 kind:K
 ins:List Arg
 takes:List Nat
 outs:List Nat
 guard:Option (Nat×Bool)
 dst:Bool
 deriving Inhabited
inductive Gh where
 | thaw (k i κ s:Nat)
 | shut (k i κ s:Nat)
 | pub (k i:Nat)
 deriving Inhabited
inductive SCode where
 | gh (g:Gh) (c:SCode)
 | hg (c:SCode) (g:Gh)
 | skip
 | region (ops:List SOp)
 | seq (a b:SCode)
 | cond (c:Arg) (a b:SCode)
 | block (id:Nat) (c:SCode)
 | loop (live:List Nat) (c:SCode)
 | exit (id:Nat)
 | ret
 deriving Inhabited
inductive Res where
 | tmp (k:Nat)
 | cell (t κ:Nat) (n:Option Nat)
 deriving Inhabited
structure SFunc where
 nargs:Nat
 pl:List Bool
 res:List Res
 code:SCode
 deriving Inhabited
def OBJS:Nat:=9999
def Zql:Nat:=9998
def BOX:Nat:=10000
def C.held:C->Bool
 | .tip _ _=>true
 | .uniq _ _=>true
 | .map _ _=>true
 | _=>false
def cut {α:Type} (l:List α) (off n:Nat):Option (List α):=
 if off+n<=l.length then some ((l.drop off).take n) else none
def put (l:List C) (off:Nat) (xs:List C):Option (List C):=
 if off+xs.length<=l.length then some (l.take off++xs++l.drop (off+xs.length)) else none
def ZoD (n:Option Nat) (cs:List C):Option A:=
 match n,cs with
 | none,[c]=>some (.one c)
 | none,_=>none
 | some _,cs=>some (.agg cs)
def ZcU:Option Nat->Nat
 | none=>1
 | some n=>n
def bytesLess:List Nat->List Nat->Bool
 | _,[]=>false
 | [],_::_=>true
 | a::x,b::y=>Nat.blt a b||(Nat.beq a b && bytesLess x y)
def eqS:List Nat->List Nat->Bool
 | [],[]=>true
 | a::x,b::y=>Nat.beq a b && eqS x y
 | _,_=>false
def shlP (k:IntKind) (x y:Int):Option P:=if y<0 then none else some (.int k (k.wrap (x*2 ^ (min y.toNat k.bits))))
def ZcM (op:BinOp) (k:IntKind) (x y:Int):Option P:=
 match op with
 | .shl=>shlP k x y
 | .add=>some (.int k (k.wrap (x+y)))
 | .sub=>some (.int k (k.wrap (x-y)))
 | .mul=>some (.int k (k.wrap (x*y)))
 | .quo=>if y=0 then none else some (.int k (k.wrap (x.tdiv y)))
 | .rem=>if y=0 then none else some (.int k (x.tmod y))
 | .and=>some (.int k (k.wrap (BitVec.ofInt k.bits x &&& BitVec.ofInt k.bits y).toNat))
 | .or=>some (.int k (k.wrap (BitVec.ofInt k.bits x|||BitVec.ofInt k.bits y).toNat))
 | .eql=>some (.bool (x==y))
 | .neq=>some (.bool (x !=y))
 | .lss=>some (.bool (x<y))
 | .leq=>some (.bool (x<=y))
 | .gtr=>some (.bool (x>y))
 | .geq=>some (.bool (x>=y))
 | _=>none
def Zg5 (op:BinOp) (x y:List Nat):Option P:=
 match op with
 | .add=>if x.length+y.length<Zim then some (.str (x++y)) else none
 | .eql=>some (.bool (eqS x y))
 | .neq=>some (.bool (!eqS x y))
 | .lss=>some (.bool (bytesLess x y))
 | .leq=>some (.bool (bytesLess x y||eqS x y))
 | .gtr=>some (.bool (!(bytesLess x y||eqS x y)))
 | .geq=>some (.bool (!bytesLess x y))
 | _=>none
def pBin (op:BinOp):P->P->Option P
 | .int k x,.int k' y=>if k=k' then ZcM op k x y else if op== .shl then shlP k x y else none
 | .str x,.str y=>Zg5 op x y
 | _,_=>none
def one (x:P):D:= .a (.one (.p x))
def ZdC:List D->Option (List (List P))
 | []=>some []
 | .a x::r=>match toPs x.cells,ZdC r with
   | some row,some rows=>some (row::rows)
   | _,_=>none
 | _=>none
def Zc3 (z:List C):List (Nat×Nat)->List D->Option (List C)
 | [],[]=>some z
 | (o,n)::os,.a x::r=>if x.cells.length=n then (match put z o x.cells with
   | some z'=>Zc3 z' os r
   | none=>none) else none
 | _,_=>none
def ZdA:List (List P)->Option (List Nat)
 | []=>some []
 | [.int .u8 n]::r=>if 0<=n/\n<256 then (match ZdA r with
   | some s=>some (n.toNat::s)
   | none=>none) else none
 | _=>none
def Zj1:List D->Option (Nat×List D)
 | .a (.one (.p (.int .i64 n)))::r=>if 0<=n then some (n.toNat,r) else none
 | _=>none
def Zbz (lo hi:Bool) (len:Nat) (ds:List D):Option (Nat×Nat×List D):=
 match (if lo then Zj1 ds else some (0,ds)) with
 | none=>none
 | some (l,r)=>
   match (if hi then Zj1 r else some (len,r)) with
   | none=>none
   | some (h,r')=>if l<=h/\h<=len then some (l,h,r') else none
def R.down (m:Option Nat) (own:List Nat) (r:R):Option R:=
 match r.own with
 | false=>if r.k<m.getD 0 then some r else none
 | true=>match own.idxOf? r.k with
   | some i=>some ⟨false,m.getD 0+i,r.off⟩
   | none=>none
def R.up (m:Option Nat) (own:List Nat) (r:R):Option R:=
 match r.own with
 | true=>none
 | false=>if r.k<m.getD 0 then some r else (own[r.k-m.getD 0]?).map fun κ=>⟨true,κ,r.off⟩
def C.mapR (φ:R->Option R):C->Option C
 | .ref r=>(φ r).map .ref
 | .own r s n=>match φ r with
   | some r'=>some (.own r' s n)
   | none=>some (.hdr n)
 | .mptr r=>match φ r with
   | some r'=>some (.mptr r')
   | none=>some .junk
 | .map r es=>match φ r with
   | some r'=>some (.map r' es)
   | none=>some .junk
 | .clo f first caps=>match first.mapM φ,caps.mapM φ with
   | some x,some y=>some (.clo f x y)
   | _,_=>none
 | c=>some c
def Zgf (φ:R->Option R):List C->Option (List C)
 | []=>some []
 | c::r=>match c.mapR φ,Zgf φ r with
   | some x,some xs=>some (x::xs)
   | _,_=>none
def A.mapR (φ:R->Option R):A->Option A
 | .one c=>(c.mapR φ).map .one
 | .agg cs=>(Zgf φ cs).map .agg
def Ze7 (φ:R->Option R):List A->Option (List A)
 | []=>some []
 | c::r=>match c.mapR φ,Ze7 φ r with
   | some x,some xs=>some (x::xs)
   | _,_=>none
def ZgR (φ:R->Option R):List (List C)->Option (List (List C))
 | []=>some []
 | c::r=>match Zgf φ c,ZgR φ r with
   | some x,some xs=>some (x::xs)
   | _,_=>none
def asOf:List D->Option (List A)
 | []=>some []
 | .a x::r=>(asOf r).map (x:: ·)
 | _=>none
def Zbd:List D->Option (List (List C))
 | []=>some []
 | .a (.agg cs)::r=>(Zbd r).map (cs:: ·)
 | _=>none
abbrev Zae:=Nat->List A->List (List C)->Option (List A×List (List C))
def resD:List A->D
 | [x]=> .a x
 | xs=> .tup xs
def ZaW:Bool->List D->Option (List (List C)×List D)
 | false,r=>some ([],r)
 | true,.objs os::r=>some (os,r)
 | true,_=>none
def ZbX (pass:Bool) (own:List Nat) (n k:Nat) (rs:List A) (os:List (List C)):Option (List D):=
 if os.length=k then
  match Ze7 (R.up (some n) own) rs,ZgR (R.up (some n) own) os with
  | some rs',some os₂=>some (resD rs'::((if pass then [.objs (os₂.take n)] else [])++(os₂.drop n).map fun cs=> .a (.agg cs)))
  | _,_=>none
 else none
def Zqm (F:Zae) (f:Nat) (pass:Bool) (own:List Nat) (n:Nat) (args:List A) (os:List (List C)):Option (List D):=
 match F f args os with
 | some (rs,os')=>ZbX pass own n os.length rs os'
 | none=>none
def C.lone:C->C
 | .uniq _ rows=> .hdr rows.length
 | .map r _=> .mptr r
 | c=>c
def A.lone:A->A
 | .one c=> .one c.lone
 | .agg cs=> .agg (cs.map C.lone)
def C.part:C->C
 | .map r _=> .mptr r
 | c=>c
def A.part:A->A
 | .one c=> .one c.part
 | .agg cs=> .agg (cs.map C.part)
def Zb0 (F:Zae) (f:Nat) (pass:Bool) (own:List Nat) (args:List A) (rest:List D):Option (List D):=
 match ZaW pass rest with
 | none=>none
 | some (os,bs)=>
   match Zbd bs,Ze7 (R.down (some os.length) own) (args.map A.part) with
   | some cs,some xs=>
     match ZgR (R.down (some os.length) own) ((os++cs).map fun l=>l.map C.part) with
     | none=>none
     | some os'=>Zqm F f pass own os.length xs os'
   | _,_=>none
def notM {α:Type} (cs:List C) (x:Option α):Option α:=match Zke cs with
 | true=>none
 | false=>x
theorem Zgu {α:Type} {cs:List C} {x:Option α} {y:α} (h:notM cs x=some y):Zke cs=false/\x=some y:=by
 unfold notM at h
 split at h
 ·cases h
 ·exact ⟨by assumption,h⟩
def UPB:Nat:=1000000000
def ZmT (κs:List Nat) (rs:List A):List (List C)->Option (List D)
 | []::[]=>match Ze7 (R.up (some 0) []) rs with
   | some rs'=>some (resD rs'::κs.map fun _=> .undef)
   | none=>none
 | []::bs=>ZbX false κs 0 κs.length rs bs
 | _=>none
def Zku (F:Zae) (f:Nat) (κs:List Nat) (args:List A):Option (List D):=
 match Ze7 (R.down (some 0) []) (args.map A.lone) with
 | some xs=>match F (UPB+f) xs [] with
   | some (rs,os')=>ZmT κs rs os'
   | none=>none
 | none=>none
def ZaZ (n:Option Nat) (cs:List C) (off:Nat):Option A:=
 notM cs (match cut cs off (ZcU n) with
 | some xs=>ZoD n xs
 | none=>none)
theorem ZhO {n:Option Nat} {cs:List C} {off:Nat} {x:A} (h:ZaZ n cs off=some x):Zke cs=false:=(Zgu h).1
def putO (l:List C) (off:Nat) (xs:List C):Option (List C):=notM l (put l off xs)
theorem ZiV {l xs l':List C} {off:Nat} (h:putO l off xs=some l'):Zke l=false/\put l off xs=some l':=Zgu h
theorem ZrW {cs:List C} {i:Nat} {c:C} (h:cs[i]? =some c) (hc: ∀es,c≠ .mapc es):Zke cs=false:=by
 unfold Zke
 split
 ·rename_i es
  cases i with
  | zero=>simp only [List.getElem?_cons_zero,Option.some.injEq] at h;exact absurd h.symm (hc es)
  | succ i=>simp at h
 ·rfl
def ZaM (n:Option Nat) (cs:List C) (off:Nat):List C:=
 cs.take off++((cs.drop off).take (ZcU n)).map C.plain++cs.drop (off+ZcU n)
def Zqe:List D->Option (List D)
 | [x]=>some [x]
 | _=>none
def Zpa:List D->Option (List D)
 | [.a (.one (.p (.bool b))),x,y]=>some [if b then x else y]
 | _=>none
def Zk8 (κ:Nat) (z:List C):List D->Option (List D)
 | []=>some [.a (.one (.ref ⟨true,κ,0⟩)),.a (.agg z)]
 | _=>none
def ZpP (κ:Nat):List D->Option (List D)
 | [.a x]=>some [.a (.one (.ref ⟨true,κ,0⟩)),.a (.agg x.cells)]
 | _=>none
def ZhB (z:List C) (offs:List (Nat×Nat)) (xs:List D):Option (List D):=
 match Zc3 z offs xs with
 | some cs=>some [.a (.agg cs)]
 | none=>none
def ZlW (n:Option Nat):List D->Option (List D)
 | [.a (.one (.view row off))]=>match cut row off (ZcU n) with
   | some xs=>match ZoD n (xs.map .p) with
     | some x=>some [.a x]
     | none=>none
   | none=>none
 | _=>none
def Zji (κ:Nat) (n:Option Nat):List D->Option (List D)
 | [.a (.one (.ref ⟨true,κ',off⟩)),.a (.agg cs)]=>if κ'==κ then (match ZaZ n cs off with
   | some x=>some [.a x.plain]
   | none=>none) else none
 | _=>none
def Zgv (κ:Nat) (n:Option Nat):List D->Option (List D)
 | [.a (.one (.ref ⟨true,κ',off⟩)),.a (.agg cs)]=>if κ'==κ then (match ZaZ n cs off with
   | some x=>some [.a x,.a (.agg (ZaM n cs off))]
   | none=>none) else none
 | _=>none
def Zi5 (n:Option Nat):List D->Option (List D)
 | [.a (.one (.ref ⟨false,k,off⟩)),.objs os]=>match os[k]? with
   | some cs=>match ZaZ n cs off with
     | some x=>some [.a x.plain]
     | none=>none
   | none=>none
 | _=>none
def Zgy (n:Option Nat):List D->Option (List D)
 | [.a (.one (.ref ⟨false,k,off⟩)),.objs os]=>match os[k]? with
   | some cs=>match ZaZ n cs off with
     | some x=>some [.a x,.objs (os.set k (ZaM n cs off))]
     | none=>none
   | none=>none
 | _=>none
def Zgs (κ n:Nat):List D->Option (List D)
 | [.a (.one (.ref ⟨true,κ',off⟩)),.a x,.a (.agg cs)]=>if κ'==κ && x.cells.length==n then (match putO cs off x.cells with
   | some cs'=>some [.a (.agg cs')]
   | none=>none) else none
 | _=>none
def Zgg (n:Nat):List D->Option (List D)
 | [.a (.one (.ref ⟨false,k,off⟩)),.a x,.objs os]=>if x.cells.length==n then (match os[k]? with
   | some cs=>match putO cs off x.cells with
     | some cs'=>some [.objs (os.set k cs')]
     | none=>none
   | none=>none) else none
 | _=>none
def Zfv:List D->Option (List D)
 | [.a (.one (.ref r))]=>some [.a (.one (.ref r))]
 | [.a (.one (.view row off))]=>some [.a (.one (.view row off))]
 | _=>none
def ZeL (o:Nat):List D->Option (List D)
 | [.a (.one (.ref r))]=>some [.a (.one (.ref ⟨r.own,r.k,r.off+o⟩))]
 | [.a (.one (.view row off))]=>some [.a (.one (.view row (off+o)))]
 | _=>none
def Zdn (s:Nat):List D->Option (List D)
 | [.a (.one (.own r s' m)),.a (.one (.p (.int .i64 n)))]=>if s'=s/\0<=n/\n<m then some [.a (.one (.ref ⟨r.own,r.k,r.off+n.toNat*s⟩))] else none
 | [.a (.one c),.a (.one (.p (.int .i64 n)))]=>match c.rows with
   | some (s',rows)=>if s'=s/\0<=n then (match rows[n.toNat]? with
     | some row=>some [.a (.one (.view row 0))]
     | none=>none) else none
   | none=>none
 | _=>none
def Zgq:List D->Option (List D)
 | [.a (.one (.p (.str t))),.a (.one (.p (.int .i64 n)))]=>if 0<=n then (match t[n.toNat]? with
   | some b=>some [one (.int .u8 b)]
   | none=>none) else none
 | _=>none
def ZqA (op:BinOp):List D->Option (List D)
 | [.a (.one (.p x)),.a (.one (.p y))]=>match pBin op x y with
   | some z=>some [one z]
   | none=>none
 | _=>none
def Zpd (op:BinOp):List D->Option (List D)
 | [.a (.one (.p (.bool x))),.a (.one (.p (.bool y)))]=>match op with
   | .eql=>some [one (.bool (x==y))]
   | .neq=>some [one (.bool (x !=y))]
   | _=>none
 | _=>none
def Zoa:List D->Option (List D)
 | [.a (.agg [.p (.int k n),.p (.str s)]),.a (.agg [.p (.int k' n'),.p (.str s')])]=>if k=k' then some [one (.bool (n !=n'||s !=s'))] else none
 | _=>none
def Zst:List D->Option (List D)
 | [.a (.one (.p (.bool b)))]=>some [one (.bool (!b))]
 | _=>none
def ZsM:List D->Option (List D)
 | [.a (.one (.p (.int k n)))]=>some [one (.int k (k.wrap (0-n)))]
 | _=>none
def Znx (k:IntKind):List D->Option (List D)
 | [.a (.one (.p (.int _ n)))]=>some [one (.int k (k.wrap n))]
 | _=>none
def ZiM:List D->Option (List D)
 | [.a (.one c)]=>match c.rows with
   | some (1,rows)=>match ZdA rows with
     | some t=>some [one (.str t)]
     | none=>none
   | _=>none
 | _=>none
def ZcB (s:Nat) (xs:List D):Option (List D):=
 match ZdC xs with
 | some rows=>if rows.all (fun r=>r.length==s) then some [.a (.one (.tip s rows))] else none
 | none=>none
def Zhj (s:Nat):List D->Option (List D)
 | [.a (.one (.uniq s' rows)),.a (.one c)]=>match c.rows with
   | some (s'',more)=>if s'=s/\s''=s/\rows.length+more.length<Zim then some [.a (.one (.uniq s (rows++more)))] else none
   | none=>none
 | _=>none
def Zgl (s:Nat):List D->Option (List D)
 | [.a (.one (.tip s' rows)),.a (.one c)]=>match c.rows with
   | some (s'',more)=>if s'=s/\s''=s/\rows.length+more.length<Zim then some [.a (.one (.tip s (rows++more)))] else none
   | none=>none
 | _=>none
def Znj:List D->Option (List D)
 | [.a (.one (.p (.str t)))]=>some [one (.int .i64 t.length)]
 | _=>none
def Zs0:List D->Option (List D)
 | [.a (.one (.own _ _ n))]=>some [one (.int .i64 n)]
 | [.a (.one (.hdr n))]=>some [one (.int .i64 n)]
 | [.a (.one c)]=>match c.rows with
   | some (_,rows)=>some [one (.int .i64 rows.length)]
   | none=>none
 | _=>none
def Zpy:List D->Option (List D)
 | [.a (.one (.p (.int k x))),.a (.one (.p (.int k' y)))]=>if k=k' then some [one (.int k (if y<x then y else x))] else none
 | _=>none
def Zsd:List D->Option (List D)
 | [.a (.one (.p (.int k x))),.a (.one (.p (.int k' y)))]=>if k=k' then some [one (.int k (if y>x then y else x))] else none
 | _=>none
def Zja (s:Nat) (lo hi mx:Bool):List D->Option (List D)
 | .a (.one c)::r=>match c.rows with
   | some (s',rows)=>if s'=s then (match Zbz lo hi rows.length r with
     | some (l,h,[])=>if mx then none else some [one (.sl s ((rows.take h).drop l))]
     | some (l,h,[.a (.one (.p (.int .i64 n)))])=>if mx/\(h:Int)<=n/\n<=rows.length then some [.a (.one (if (h:Int)=n then .tip s ((rows.take h).drop l) else .p (.sl s ((rows.take h).drop l))))] else none
     | _=>none) else none
   | none=>none
 | _=>none
def Zjf (s:Nat):List D->Option (List D)
 | [.a (.one (.uniq s' rows)),.a (.one (.p (.int .i64 h)))]=>if s'=s/\0<=h/\h<=rows.length then some [.a (.one (.uniq s (rows.take h.toNat)))] else none
 | _=>none
def Zi4 (lo hi:Bool):List D->Option (List D)
 | .a (.one (.p (.str t)))::r=>match Zbz lo hi t.length r with
   | some (l,h,[])=>some [one (.str ((t.take h).drop l))]
   | _=>none
 | _=>none
def ZdT (i:Nat):List D->Option (List D)
 | [.tup xs]=>match xs[i]? with
   | some x=>some [.a x]
   | none=>none
 | _=>none
def ZiG (off:Nat):List D->Option (List D)
 | [.a (.agg cs)]=>match cs[off]? with
   | some (.p x)=>some [one x]
   | _=>none
 | _=>none
def ZbV:List D->Option (List R)
 | []=>some []
 | .a (.one (.ref r))::rest=>match ZbV rest with
   | some rs=>some (r::rs)
   | none=>none
 | _=>none
def Zd7 (f first:Nat) (xs:List D):Option (List D):=
 match ZbV xs with
 | some rs=>some [.a (.one (.clo f (rs.take first) (rs.drop first)))]
 | none=>none
def ZeQ (s:Nat):List D->Option (List D)
 | [.a (.one (.p (.int .i64 0))),.a (.one (.p (.int .i64 n)))]=>if 0<=n/\n<Zim then some [.a (.one (.tip s []))] else none
 | _=>none
def ZdI (s:Nat) (z:List P):List D->Option (List D)
 | [.a (.one (.p (.int .i64 n))),.a (.one (.p (.int .i64 m)))]=>if n<=m/\0<=n/\m<Zim/\z.length=s then some [.a (.one (.uniq s (List.replicate n.toNat z)))] else none
 | _=>none
def ZlQ:P->Nat
 | .str _=>0
 | .int _ _=>1
 | .bool _=>2
 | .sl _ _=>3
def peqK:P->P->Option Bool
 | .str a,.str b=>some (eqS a b)
 | .int k x,.int k' y=>if k=k' then some (x==y) else none
 | .bool a,.bool b=>some (a==b)
 | _,_=>none
def Ztp:List (P×P)->P->Nat->Option (Option (Nat×P))
 | [],_,_=>some none
 | (k',x)::r,k,i=>match peqK k k' with
   | some true=>some (some (i,x))
   | some false=>Ztp r k (i+1)
   | none=>none
def ZhC (κ:Nat):List D->Option (List D)
 | []=>some [.a (.one (.map ⟨true,κ,0⟩ []))]
 | _=>none
def ZiH (kk:Nat) (z:P):List D->Option (List D)
 | [.a (.one (.mptr r)),.a (.one (.p k)),.a (.one (.map r' es))]=>if r=r'/\ZlQ k=kk then (match Ztp es k 0 with
   | some (some (_,x))=>some [one x,.a (.one (.map r' es))]
   | some none=>some [one z,.a (.one (.map r' es))]
   | none=>none) else none
 | _=>none
def ZiD (kk:Nat):List D->Option (List D)
 | [.a (.one (.mptr r)),.a (.one (.p k)),.a (.one (.p x)),.a (.one (.map r' es))]=>if r=r'/\ZlQ k=kk then (match Ztp es k 0 with
   | some (some (j,_))=>some [.a (.one (.map r' (es.set j (k,x))))]
   | some none=>some [.a (.one (.map r' (es++[(k,x)])))]
   | none=>none) else none
 | _=>none
def mvOf:A->Option MV
 | .one c=>c.toP.map .one
 | .agg cs=>(toPs cs).map .agg
def MV.a:MV->A
 | .one x=> .one (.p x)
 | .agg xs=> .agg (xs.map .p)
def MV.kind:MV->MK
 | .one x=> .one (ZlQ x)
 | .agg xs=> .agg (xs.map ZlQ)
def Zn3:List P->List P->Option Bool
 | [],[]=>some true
 | x::xs,y::ys=>match peqK x y with
   | some true=>Zn3 xs ys
   | some false=>some false
   | none=>none
 | _,_=>none
def peqV:MV->MV->Option Bool
 | .one x,.one y=>peqK x y
 | .agg xs,.agg ys=>Zn3 xs ys
 | _,_=>none
def Zpc:List (MV×MV)->MV->Nat->Option (Option (Nat×MV))
 | [],_,_=>some none
 | e::r,k,i=>match peqV k e.1 with
   | some true=>some (some (i,e.2))
   | some false=>Zpc r k (i+1)
   | none=>none
def Zq6:List C->Option (List (MV×MV))
 | [.mapc es]=>some es
 | _=>none
def ZlL:Option Nat->R->D->Option (List (MV×MV))
 | some κ,r,.a (.agg cs)=>if r.own && r.k==κ then Zq6 cs else none
 | none,r,.objs os=>if r.own then none else match os[r.k]? with
   | some cs=>Zq6 cs
   | none=>none
 | _,_,_=>none
def ZoI:Option Nat->R->D->List (MV×MV)->Option D
 | some _,_,.a (.agg _),es=>some (.a (.agg [.mapc es]))
 | none,r,.objs os,es=>some (.objs (os.set r.k [.mapc es]))
 | _,_,_,_=>none
def Zsu (z:MV):Option (Nat×MV)->MV
 | some x=>x.2
 | none=>z
def Zwy (z:MV) (ok:Bool) (r:Option (Nat×MV)):D:=match ok with
 | true=> .tup [(Zsu z r).a,.one (.p (.bool r.isSome))]
 | false=> .a (Zsu z r).a
def ZfU (κ:Nat):List D->Option (List D)
 | []=>some [.a (.one (.mptr ⟨true,κ,0⟩)),.a (.agg [.mapc []])]
 | _=>none
def Zhi (own:Option Nat) (ks:MK) (z:MV) (ok:Bool):List D->Option (List D)
 | [.a (.one (.mptr r)),.a x,m]=>match ZlL own r m,mvOf x with
   | some es,some k=>if k.kind=ks then (match Zpc es k 0 with
     | some r=>some [Zwy z ok r]
     | none=>none) else none
   | _,_=>none
 | _=>none
def putE (es:List (MV×MV)) (k x:MV):Option (Nat×MV)->List (MV×MV)
 | some (j,_)=>es.set j (k,x)
 | none=>es++[(k,x)]
def Zhr (own:Option Nat) (ks:MK):List D->Option (List D)
 | [.a (.one (.mptr r)),.a x,.a y,m]=>match ZlL own r m,mvOf x,mvOf y with
   | some es,some k,some v=>if k.kind=ks then (match Zpc es k 0 with
     | some q=>(match ZoI own r m (putE es k v q) with
       | some m'=>some [m']
       | none=>none)
     | none=>none) else none
   | _,_,_=>none
 | _=>none
def Zf1 (F:Zae) (f:Nat) (pass:Bool) (own:List Nat) (na:Nat) (xs:List D):Option (List D):=
 match asOf (xs.take na) with
 | some args=>Zb0 F f pass own args (xs.drop na)
 | none=>none
def ZeM (F:Zae) (pass:Bool) (own:List Nat) (na:Nat):List D->Option (List D)
 | .a (.one (.clo f first caps))::xs=>match asOf (xs.take na) with
   | some args=>Zb0 F f pass own (first.map (fun r=> .one (.ref r))++args++caps.map fun r=> .one (.ref r)) (xs.drop na)
   | none=>none
 | _=>none
def ZfN (F:Zae) (f:Nat) (κs:List Nat) (xs:List D):Option (List D):=
 match asOf xs with
 | some args=>Zku F f κs args
 | none=>none
def Zai (F:Zae):K->List D->Option (List D)
 | .mov=>Zqe
 | .pick=>Zpa
 | .alloc κ z=>Zk8 κ z
 | .box κ=>ZpP κ
 | .build z offs=>ZhB z offs
 | .load n=>ZlW n
 | .loadB κ n=>Zji κ n
 | .loadBT κ n=>Zgv κ n
 | .loadO n=>Zi5 n
 | .loadOT n=>Zgy n
 | .storeB κ n=>Zgs κ n
 | .storeO n=>Zgg n
 | .nilCheck=>Zfv
 | .fieldAddr o=>ZeL o
 | .indexAddr s=>Zdn s
 | .indexS=>Zgq
 | .bin op=>ZqA op
 | .binB op=>Zpd op
 | .neqS=>Zoa
 | .not=>Zst
 | .neg=>ZsM
 | .conv k=>Znx k
 | .convBS=>ZiM
 | .buildSlice s=>ZcB s
 | .append s=>Zgl s
 | .len=>Zs0
 | .lenS=>Znj
 | .min2=>Zpy
 | .max2=>Zsd
 | .slice s lo hi mx=>Zja s lo hi mx
 | .sliceS lo hi=>Zi4 lo hi
 | .extract i=>ZdT i
 | .fieldV off=>ZiG off
 | .makeFunc f first=>Zd7 f first
 | .makeSlice s=>ZeQ s
 | .makeSliceZ s z=>ZdI s z
 | .sliceU s=>Zjf s
 | .appendU s=>Zhj s
 | .makeMap κ=>ZhC κ
 | .lookup kk z=>ZiH kk z
 | .update kk=>ZiD kk
 | .makeMapX κ=>ZfU κ
 | .lookupX own ks z ok=>Zhi own ks z ok
 | .updateX own ks=>Zhr own ks
 | .fail=>fun _=>none
 | .call f pass own na=>Zf1 F f pass own na
 | .callv pass own na=>ZeM F pass own na
 | .callU f κs=>ZfN F f κs
def Zaw (e:Env) (takes:List Nat):Arg->D
 | .k n=>if takes.elem n then e.get n else (e.get n).plain
 | .c c=> .a (.one c)
def Zag (e:Env):List Nat->Env
 | []=>e
 | k::ks=>Zag (e.set k (e.get k).plain) ks
def doOp (F:Zae) (o:SOp) (e:Env):Option Env:=
 match Zai F o.kind (o.ins.map (Zaw e o.takes)) with
 | none=>none
 | some ds=>(Zag e o.takes).sets o.outs ds
def Zb7 (o:SOp) (e:Env):Env:=
 match o.dst,o.outs with
 | true,k::_=>e.set k (.tup [])
 | _,_=>e
def Zar (F:Zae) (o:SOp) (e:Env):Option Env:=
 match o.guard with
 | none=>doOp F o e
 | some (g,want)=>match e.get g with
   | .a (.one (.p (.bool b)))=>if b==want then doOp F o e else some (Zb7 o e)
   | .tup []=>some (Zb7 o e)
   | _=>none
def Zbq (F:Zae):List SOp->Env->Option Env
 | [],e=>some e
 | o::os,e=>match Zar F o e with
   | some e'=>Zbq F os e'
   | none=>none
inductive X where
 | normal
 | exit (id:Nat)
 | ret
 deriving DecidableEq,Inhabited
def enter:Nat->List A->List (Nat×D)
 | _,[]=>[]
 | k,x::xs=>(k,.a x)::enter (k+1) xs
def Res.get (e:Env):Res->Option A
 | .tmp k=>match e.get k with| .a x=>some x|_=>none
 | .cell t κ n=>match e.get t,e.get κ with
   | .a (.one (.ref ⟨true,κ',0⟩)),.a (.agg cs)=>if κ'==κ then ZaZ n cs 0 else none
   | _,_=>none
def Res.key:Res->Nat
 | .tmp k=>k
 | .cell _ κ _=>κ
def Zk4 (e:Env):List Res->Option (List A)
 | []=>some []
 | r::rs=>match r.get e,Zk4 e rs with
   | some x,some xs=>some (x::xs)
   | _,_=>none
def C.clean:C->Bool
 | .ref r=> !r.own
 | .own r _ _=> !r.own
 | .mptr r=> !r.own
 | .map r _=> !r.own
 | .clo _ first caps=>first.all (fun r=> !r.own) && caps.all (fun r=> !r.own)
 | _=>true
def A.clean (x:A):Bool:=x.cells.all C.clean
inductive Fn where
 | code (f:SFunc)
 | prim (g:List A->List (List C)->Option (List A×List (List C)))
def ZfY:List Bool->List A->List A
 | b::bs,x::xs=>(if b then x.plain else x)::ZfY bs xs
 | _,xs=>xs
def R.ownKey (r:R):List Nat:=if r.own then [r.k] else []
def C.keys:C->List Nat
 | .ref r=>r.ownKey
 | .own r _ _=>r.ownKey
 | .mptr r=>r.ownKey
 | _=>[]
def A.keys (x:A):List Nat:=x.cells.flatMap C.keys
def D.keys:D->List Nat
 | .a x=>x.keys
 | _=>[]
def Zxb (e:Env) (rs:List A):List Nat:=
 let k0:=(rs.flatMap A.keys).eraseDups
 (k0++k0.flatMap fun κ=>(e.get κ).keys).eraseDups
def R.out (κs:List Nat) (r:R):Option R:=
 match r.own with
 | true=>(κs.idxOf? r.k).map fun i=>⟨false,i,r.off⟩
 | false=>none
def ZlZ (κs:List Nat) (f:SFunc) (e:Env) (rs:List A):Option (List A×List (List C)):=
 match Zbd (κs.map e.get),Ze7 (R.out κs) rs with
 | some cs,some rs'=>match ZgR (R.out κs) cs with
   | some os'=>if κs.all (fun κ=>Nat.ble BOX κ && !f.res.any fun r=>r.key==κ) && decide κs.Nodup then some (ZfY f.pl rs',[]::os') else none
   | none=>none
 | _,_=>none
def Zkd (f:SFunc) (e:Env):Option (List A×List (List C)):=
 match Zk4 e f.res with
 | some rs=>ZlZ (Zxb e rs) f e rs
 | none=>none
def Zpi (f:SFunc) (e:Env):Option (List A×List (List C)):=
 match Zk4 e f.res,e.get OBJS with
 | some rs,.objs os=>if rs.all A.clean && os.all (fun cs=>cs.all C.clean) then some (ZfY f.pl rs,os) else none
 | _,_=>none
def upBy (S:Nat->Option Fn) (ex:SCode->Env->Option (X×Env)) (f:Nat) (args:List A):Option (List A×List (List C)):=
 match S f with
 | some (.code F)=>
   if args.length=F.nargs then
     match ex F.code (enter 0 args++[(OBJS,.objs [])]) with
     | some (.normal,e)=>Zkd F e
     | some (.ret,e)=>Zkd F e
     | _=>none
   else none
 | _=>none
def Zcy (S:Nat->Option Fn) (ex:SCode->Env->Option (X×Env)):Zae:=fun f args os=>
 match S f with
 | some (.code F)=>
   if args.length=F.nargs then
     match ex F.code (enter 0 args++[(OBJS,.objs os)]) with
     | some (.normal,e)=>Zpi F e
     | some (.ret,e)=>Zpi F e
     | _=>none
   else none
 | some (.prim g)=>g args os
 | none=>if Nat.ble UPB f && os.isEmpty then upBy S ex (Nat.sub f UPB) args else none
def A.setCell:A->Nat->C->A
 | .one _,_,c=> .one c
 | .agg cs,i,c=> .agg (cs.set i c)
def Znf (s:Nat):Nat->List P->List (List P)
 | 0,_=>[]
 | n+1,l=>l.take s::Znf s n (l.drop s)
def Znd (k:Nat):Bool:=Nat.blt k Zql||Nat.ble BOX k
def Zqi (k i κ s:Nat) (e:Env):D->Env
 | .a x=>match x.cells[i]? with
   | some (.uniq s' (r::rows))=>if s'==s && Nat.blt 0 s then (e.set k (.a (x.setCell i (.own ⟨true,κ,0⟩ s (rows.length+1))))).set κ (.a (.agg ((r::rows).flatten.map .p))) else e
   | _=>e
 | _=>e
def Zq7 (k i κ s:Nat) (e:Env):D->D->Env
 | .a x,.a (.agg cs)=>match x.cells[i]? with
   | some (.own ⟨true,κ',0⟩ s' n)=>if κ'==κ && s'==s && Nat.ble (n*s) cs.length then (match toPs (cs.take (n*s)) with
     | some ps=>(e.set κ .undef).set k (.a (x.setCell i (.uniq s (Znf s n ps))))
     | none=>e) else e
   | _=>e
 | _,_=>e
def pubG (k i:Nat) (e:Env):D->Env
 | .a x=>match x.cells[i]? with
   | some (.uniq s rows)=>e.set k (.a (x.setCell i (.tip s rows)))
   | _=>e
 | _=>e
def doGh:Gh->Env->Env
 | .thaw k i κ s,e=>if Znd k && Nat.ble BOX κ && k !=κ then Zqi k i κ s (e.kill κ) ((e.kill κ).get k) else e
 | .shut k i κ s,e=>if Znd k && Nat.ble BOX κ && k !=κ then Zq7 k i κ s e (e.get k) (e.get κ) else e
 | .pub k i,e=>if Znd k then pubG k i e (e.get k) else e
def exec (S:Nat->Option Fn):Nat->SCode->Env->Option (X×Env)
 | 0,_,_=>none
 | n+1,c,e=>match c with
   | .gh g c=>exec S n c (doGh g e)
   | .hg c g=>match exec S n c e with
     | some (.normal,e')=>some (.normal,doGh g e')
     | r=>r
   | .skip=>some (.normal,e)
   | .region ops=>match Zbq (Zcy S (exec S n)) ops (e.kills (ops.flatMap fun o=>o.kind.creates)) with
     | some e'=>some (.normal,e')
     | none=>none
   | .seq a b=>match exec S n a e with
     | some (.normal,e')=>exec S n b e'
     | r=>r
   | .cond x a b=>match Zaw e [] x with
     | .a (.one (.p (.bool t)))=>exec S n (if t then a else b) e
     | _=>none
   | .block id b=>match exec S n b e with
     | some (.exit i,e')=>if i==id then some (.normal,e') else some (.exit i,e')
     | r=>r
   | .loop live b=>match exec S n b (e.norm live) with
     | some (.normal,e')=>exec S n (.loop live b) e'
     | r=>r
   | .exit id=>some (.exit id,e)
   | .ret=>some (.ret,e)
def call (S:Nat->Option Fn) (n:Nat):Zae:=Zcy S (exec S n)
def K.isCall:K->Bool
 | .call .. =>true
 | .callv .. =>true
 | .callU .. =>true
 | _=>false
end Go.Am
theorem Zx3 : (∀ (p : Prop) [Decidable p], (decide p = true) = p) ∧ (∀ (p : Prop) [Decidable p], (decide p = false) ↔ ¬p) := ⟨fun _ _ => decide_eq_true_eq, fun _ _ => decide_eq_false_iff_not⟩
theorem Zx1.{u, v} : ((∀ (p : Prop) [Decidable p], (decide p = true) = p) ∧ (∀ (p : Prop) [Decidable p], (decide p = false) ↔ ¬p)) ∧ (∀ (α : Type u) [BEq α] [LawfulBEq α] (a b : α), (a != b) = true ↔ a ≠ b) ∧ (∀ (α : Sort v) (a b : α), (a ≠ b) = ¬(a = b)) ∧ (∀ b : Bool, ((!b) = true) = (b = false)) ∧ (∀ b : Bool, ((!b) = false) = (b = true)) ∧ (∀ (p : Prop) [Decidable p], ¬¬p ↔ p) :=
  ⟨Zx3, fun _ _ _ _ _ => bne_iff_ne, fun _ _ _ => rfl, Bool.not_eq_true', Bool.not_eq_false', fun _ _ => Decidable.not_not⟩
theorem Zx4.{u, v} : ((∀ (p : Prop) [Decidable p], (decide p = true) = p) ∧ (∀ (p : Prop) [Decidable p], (decide p = false) ↔ ¬p)) ∧ (∀ (α : Type u) [BEq α] [LawfulBEq α] (a b : α), (a != b) = true ↔ a ≠ b) ∧ (∀ (α : Sort v) (a b : α), (a ≠ b) = ¬(a = b)) ∧ (∀ b : Bool, ((!b) = true) = (b = false)) ∧ (∀ (p : Prop) [Decidable p], ¬¬p ↔ p) :=
  ⟨Zx3, fun _ _ _ _ _ => bne_iff_ne, fun _ _ _ => rfl, Bool.not_eq_true', fun _ _ => Decidable.not_not⟩
theorem Zx2.{u} : (∀ (α : Type u) (a : α) (l : List α), (a :: l).length = l.length + 1) ∧ (∀ (α : Type u), ([] : List α).length = 0) ∧ (∀ (α : Type u) (a b : List α), (a ++ b).length = a.length + b.length) ∧ (∀ (α : Type u) (l : List α), l.tail.length = l.length - 1) ∧ (∀ (α : Type u) (i : Nat) (l : List α), (l.drop i).length = l.length - i) :=
  ⟨fun _ _ _ => List.length_cons, fun _ => List.length_nil, fun _ _ _ => List.length_append, fun _ _ => List.length_tail, fun _ _ _ => List.length_drop⟩
theorem Yx7 : ((∀ (p : Prop) [Decidable p], (decide p = true) = p) ∧ (∀ (p : Prop) [Decidable p], (decide p = false) ↔ ¬p)) ∧ (∀ b : Bool, ((!b) = true) = (b = false)) ∧ (∀ (p : Prop) [Decidable p], ¬¬p ↔ p) :=
  ⟨Zx3, Bool.not_eq_true', fun _ _ => Decidable.not_not⟩
theorem Yx8 : (((∀ (p : Prop) [Decidable p], (decide p = true) = p) ∧ (∀ (p : Prop) [Decidable p], (decide p = false) ↔ ¬p)) ∧ (∀ b : Bool, ((!b) = true) = (b = false)) ∧ (∀ (p : Prop) [Decidable p], ¬¬p ↔ p)) ∧ (∀ b : Bool, ((!b) = false) = (b = true)) :=
  ⟨Yx7, Bool.not_eq_false'⟩
theorem Zx5.{u} : (∀ (α : Type u) (a b : α), (some a = some b) = (a = b)) ∧ ∀ (α : Type u) (a b : α) (l m : List α), (a :: l = b :: m) = (a = b ∧ l = m) := ⟨fun _ _ _ => Option.some.injEq _ _, fun _ _ _ _ _ => List.cons.injEq _ _ _ _⟩
theorem Zo {p : Prop} (h : p := by omega) : p := h
theorem Zm {p : Prop} (h : p := by dsimp only; omega) : p := h
theorem Ze {p : Prop} (h : p := by simp; omega) : p := h
theorem Za {p : Prop} (h : p := by assumption) : p := h
theorem Zd {p : Prop} (h : p := by decide) : p := h
theorem Zs {p : Prop} (h : p := by simp) : p := h
abbrev LN:=List Nat
namespace Go.Am
abbrev LP:=List (List P)
abbrev LC:=List C
abbrev P.i (x:Int):P:= .int .i64 x
abbrev C.i (x:Int):C:= .p (.int .i64 x)
abbrev C.s (x:List Nat):C:= .p (.str x)
abbrev C.l (n:Nat) (x:List (List P)):C:= .p (.sl n x)
end Go.Am
abbrev Ya:=@List.getElem?_eq_getElem
abbrev Yb:=@Bool.and_eq_true
abbrev Yc:=@Nat.le_refl
abbrev Yd:=@Nat.zero_le
abbrev Ye:=@Option.some.injEq
abbrev Yf:=@List.cons.injEq
abbrev Yg:=@List.take_of_length_le
abbrev Yh:=@List.length_map
abbrev Yi:=@List.getElem?_cons_zero
abbrev Yj:=@List.getElem?_cons_succ
abbrev Yk:=@List.mem_cons_of_mem
abbrev Yl:=@List.getElem_mem
abbrev Ym:=@List.take_add_one
abbrev Yn:=@List.getElem?_map
abbrev Yo:=@List.getElem?_append_right
abbrev Yp:=@List.map_cons
abbrev Yq:=@Nat.lt_of_lt_of_le
abbrev Yr:=@List.mem_cons_self
abbrev Ys:=@List.mem_append
abbrev Yt:=@Nat.lt_or_ge
abbrev Yu:=@List.append_assoc
abbrev Yv:=@List.mem_cons
abbrev Yw:=@Bool.false_eq_true
abbrev Yx:=@List.getElem?_append_left
abbrev Yy:=@Nat.le_trans
abbrev Yz:=@Nat.lt_succ_self
abbrev YA:=@List.mem_of_getElem?
abbrev YC:=@List.map_append
abbrev YD:=@List.map_congr_left
abbrev YE:=@List.getElem_of_mem
abbrev YF:=@List.length_append
abbrev YG:=@Option.map_eq_some_iff
abbrev YH:=@List.getElem?_take
abbrev YI:=@Nat.not_lt_zero
abbrev YJ:=@Nat.mul_le_mul_right
abbrev YK:=@List.all_eq_true
abbrev YL:=@List.map_map
abbrev YM:=@Prod.mk.injEq
abbrev YN:=@Option.map_some
abbrev YO:=@List.length_cons
abbrev YP:=@List.nil_append

end
section
namespace Go.Am
def Le (F F':Zae):Prop:= ∀f args os r,F f args os=some r->F' f args os=some r
def Zf2 {F F':Zae} (h:Le F F') {f:Nat} {pass:Bool} {own:List Nat} {args:List A} {rest ds:List D} (hc:Zb0 F f pass own args rest=some ds):Zb0 F' f pass own args rest=some ds:=by
 unfold Zb0 at hc⊢
 split at hc
 ·cases hc
 ·split at hc
  ·split at hc
   ·cases hc
   ·rename_i os' h4
    unfold Zqm at hc⊢
    split at hc
    ·rename_i rs os'' h5
     rw [h _ _ _ _ h5];exact hc
    ·cases hc
  ·cases hc
def Zoh {F F':Zae} (h:Le F F') {k:K} {ds ds':List D} (hc:Zai F k ds=some ds'):Zai F' k ds=some ds':=by
 cases k with
 | call f pass own na=>
   simp only [Zai,Zf1] at hc⊢
   split at hc
   · exact Zf2 h hc
   · cases hc
 | callv pass own na=>
   simp only [Zai] at hc⊢
   unfold ZeM at hc⊢
   split at hc
   · split at hc
     · exact Zf2 h hc
     · cases hc
   · cases hc
 | callU f κs=>
   simp only [Zai] at hc⊢
   unfold ZfN Zku at hc⊢
   split at hc
   · split at hc
     · split at hc
       · rename_i h5
         rw [h _ _ _ _ h5];exact hc
       · cases hc
     · cases hc
   · cases hc
 | _=>exact hc
def Zlu {F F':Zae} (h:Le F F') {o:SOp} {e e':Env} (hc:doOp F o e=some e'):doOp F' o e=some e':=by
 unfold doOp at hc⊢
 split at hc
 ·cases hc
 ·rename_i ds hs
  rw [Zoh h hs];exact hc
def Zh3 {F F':Zae} (h:Le F F') {o:SOp} {e e':Env} (hc:Zar F o e=some e'):Zar F' o e=some e':=by
 unfold Zar at hc⊢
 split at hc
 ·exact Zlu h hc
 ·split at hc
  ·split at hc
   ·rename_i hb;rw [if_pos hb];exact Zlu h hc
   ·rename_i hb;rw [if_neg hb];exact hc
  ·exact hc
  ·cases hc
def ZfA {F F':Zae} (h:Le F F'): ∀{os:List SOp} {e e':Env},Zbq F os e=some e'->Zbq F' os e=some e'
 | [],_,_,hc=>hc
 | o::os,e,e',hc=>by
   simp only [Zbq] at hc⊢
   split at hc
   · rename_i e1 h1
     rw [Zh3 h h1];exact ZfA h hc
   · cases hc
def ZhY {S:Nat->Option Fn} {ex ex':SCode->Env->Option (X×Env)} (h: ∀c e r,ex c e=some r->ex' c e=some r):Le (Zcy S ex) (Zcy S ex'):=by
 intro f args os r hc
 unfold Zcy at hc⊢
 split at hc
 ·split at hc
  ·rename_i hl
   rw [if_pos hl]
   split at hc
   ·rename_i e he;rw [h _ _ _ he];exact hc
   ·rename_i e he;rw [h _ _ _ he];exact hc
   ·cases hc
  ·cases hc
 ·exact hc
 ·split at hc
  ·rename_i hu
   rw [if_pos hu]
   unfold upBy at hc⊢
   split at hc
   ·split at hc
    ·rename_i hl
     rw [if_pos hl]
     split at hc
     ·rename_i e he;rw [h _ _ _ he];exact hc
     ·rename_i e he;rw [h _ _ _ he];exact hc
     ·cases hc
    ·cases hc
   ·cases hc
  ·cases hc
def ZpZ {S:Nat->Option Fn}: ∀(n:Nat) (c:SCode) (e:Env) (r:X×Env),exec S n c e=some r->exec S (n+1) c e=some r:=by
 intro n
 induction n with
 | zero=>intro c e r h;simp [exec] at h
 | succ n ih=>
   intro c e r h
   cases c with
   | gh g c=>simp only [exec] at h⊢;exact ih _ _ _ h
   | hg c g=>
     rw [exec] at h⊢
     split at h
     · rename_i e' he;rw [ih _ _ _ he];exact h
     · rename_i q hq
       rw [ih _ _ _ h]
       obtain ⟨x,e'⟩:=r
       cases x with
       | normal=>exact absurd h (fun hh=>hq _ hh)
       | _=>rfl
   | skip=>exact h
   | region ops=>
     rw [exec] at h⊢
     split at h
     · rename_i e' he;rw [ZfA (ZhY ih) he];exact h
     · cases h
   | seq a b=>
     rw [exec] at h⊢
     split at h
     · rename_i e' he;rw [ih _ _ _ he];exact ih _ _ _ h
     · rename_i q hq
       rw [ih _ _ _ h]
       obtain ⟨x,e'⟩:=r
       cases x with
       | normal=>exact absurd h (fun hh=>hq _ hh)
       | _=>rfl
   | cond x a b=>
     simp only [exec] at h⊢
     split at h
     · exact ih _ _ _ h
     · cases h
   | block id b=>
     rw [exec] at h⊢
     split at h
     · rename_i i e' he;rw [ih _ _ _ he];exact h
     · rename_i q hq
       rw [ih _ _ _ h]
       obtain ⟨x,e'⟩:=r
       cases x with
       | exit i=>exact absurd h (fun hh=>hq _ _ hh)
       | _=>rfl
   | loop live b=>
     rw [exec] at h⊢
     split at h
     · rename_i e' he;rw [ih _ _ _ he];exact ih _ _ _ h
     · rename_i q hq
       rw [ih _ _ _ h]
       obtain ⟨x,e'⟩:=r
       cases x with
       | normal=>exact absurd h (fun hh=>hq _ hh)
       | _=>rfl
   | exit id=>exact h
   | ret=>exact h
def Zhk {S:Nat->Option Fn} {n m:Nat} (hnm:n<=m) {c:SCode} {e:Env} {r:X×Env} (h:exec S n c e=some r):exec S m c e=some r:=by
 obtain ⟨k,rfl⟩:=Nat.exists_eq_add_of_le hnm
 induction k with
 | zero=>exact h
 | succ k ih=>exact ZpZ _ _ _ _ (ih Zo)
def Zre {S:Nat->Option Fn} {n m:Nat} (hnm:n<=m):Le (call S n) (call S m):=ZhY fun _ _ _ h=>Zhk hnm h
end Go.Am
end
section
namespace Go.Am.Tx
abbrev v (k:Nat):Arg:= .k k
abbrev n (i:Int):Arg:= .c (.p (.int .i64 i))
abbrev s (l:List Nat):Arg:= .c (.p (.str l))
abbrev z (s:Nat):Arg:= .c (.tip s [])
abbrev b (t:Bool):Arg:= .c (.p (.bool t))
abbrev o (k:K) (i:List Arg) (d:Nat):SOp:=⟨k,i,[],[d],none,true⟩
abbrev og (k:K) (i:List Arg) (d j:Nat) (t:Bool):SOp:=⟨k,i,[],[d],some (j,t),true⟩
abbrev m (a d:Nat):SOp:=⟨.mov,[.k a],[],[d],none,true⟩
abbrev mt (a d:Nat):SOp:=⟨.mov,[.k a],[a],[d],none,true⟩
abbrev r (l:List SOp):SCode:= .region l
abbrev q (a b:SCode):SCode:= .seq a b
abbrev i (c:Nat) (a b:SCode):SCode:= .cond (.k c) a b
abbrev e:SCode:= .skip
abbrev f (k a d:Nat):SOp:=⟨.fieldAddr k,[.k a],[],[d],none,true⟩
abbrev fg (k a d j:Nat) (t:Bool):SOp:=⟨.fieldAddr k,[.k a],[],[d],some (j,t),true⟩
abbrev mv (a:Arg) (d:Nat):SOp:=⟨.mov,[a],[],[d],none,true⟩
abbrev mg (a:Arg) (d j:Nat) (t:Bool):SOp:=⟨.mov,[a],[],[d],some (j,t),true⟩
abbrev ld (κ a d:Nat):SOp:=⟨.loadB κ none,[.k a,.k κ],[],[d],none,true⟩
abbrev ln (κ n a d:Nat):SOp:=⟨.loadB κ (some n),[.k a,.k κ],[],[d],none,true⟩
abbrev lg (κ a d j:Nat) (t:Bool):SOp:=⟨.loadB κ none,[.k a,.k κ],[],[d],some (j,t),true⟩
abbrev lt (κ a d:Nat):SOp:=⟨.loadBT κ none,[.k a,.k κ],[κ],[d,κ],none,true⟩
abbrev st (κ n a:Nat) (x:Arg):SOp:=⟨.storeB κ n,[.k a,x,.k κ],[κ],[κ],none,false⟩
abbrev su (κ n a x:Nat):SOp:=⟨.storeB κ n,[.k a,.k x,.k κ],[κ,x],[κ],none,false⟩
abbrev ap (s a b d:Nat):SOp:=⟨.append s,[.k a,.k b],[a],[d],none,true⟩
abbrev bx (κ:Nat) (a:Arg) (d:Nat):SOp:=⟨.box κ,[a],[],[d,κ],none,true⟩
abbrev x (i a d:Nat):SOp:=⟨.extract i,[.k a],[],[d],none,true⟩
abbrev xt (i a d:Nat):SOp:=⟨.extract i,[.k a],[a],[d],none,true⟩
abbrev ix (s a:Nat) (b:Arg) (d:Nat):SOp:=⟨.indexAddr s,[.k a,b],[],[d],none,true⟩
abbrev bs (s:Nat) (l:List Arg) (d:Nat):SOp:=⟨.buildSlice s,l,[],[d],none,true⟩
abbrev le (a d:Nat):SOp:=⟨.len,[.k a],[],[d],none,true⟩
abbrev ca (f n:Nat) (l:List Arg) (d:Nat):SOp:=⟨.call f false [] n,l,[],[d],none,true⟩
abbrev cp (f n:Nat) (l:List Arg) (d:Nat):SOp:=⟨.call f true [] n,l,[9999],[d,9999],none,true⟩
abbrev nt (a d:Nat):SOp:=⟨.not,[.k a],[],[d],none,true⟩
abbrev ad:K:= .bin .add
abbrev sb:K:= .bin .sub
abbrev eq:K:= .bin .eql
abbrev ne:K:= .bin .neq
abbrev ls:K:= .bin .lss
abbrev gr:K:= .bin .gtr
abbrev ge:K:= .bin .geq
abbrev ci (i:Int):C:= .p (.int .i64 i)
abbrev cs (l:List Nat):C:= .p (.str l)
abbrev ct (s:Nat):C:= .tip s []
abbrev k (id:Nat) (c:SCode):SCode:= .block id c
abbrev lo (l:List Nat) (c:SCode):SCode:= .loop l c
abbrev ex (id:Nat):SCode:= .exit id
abbrev al (κ:Nat) (z:List C) (d:Nat):SOp:=⟨.alloc κ z,[],[],[d,κ],none,true⟩
abbrev cm (f n:Nat) (l:List Arg) (t d:Nat):SOp:=⟨.call f false [] n,l,[t],[d],none,true⟩
abbrev cv (n:Nat) (l:List Arg) (d:Nat):SOp:=⟨.callv true [] n,l,[9999],[d,9999],none,true⟩
abbrev lp (a d:Nat):SOp:=⟨.load none,[.k a],[],[d],none,true⟩
abbrev ls2 (n a d:Nat):SOp:=⟨.load (some n),[.k a],[],[d],none,true⟩
abbrev pk (l:List Arg) (d:Nat):SOp:=⟨.pick,l,[],[d],none,true⟩
abbrev u (i:Int):Arg:= .c (.p (.int .u8 i))
abbrev zT:List C:=[ci 0,cs [],ci 0,ct 4]
abbrev bd (z:List C) (p:List (Nat×Nat)) (l:List Arg) (d:Nat):SOp:=⟨.build z p,l,[],[d],none,true⟩
end Go.Am.Tx
end
section
namespace Go.Am
def Ends (S:Nat->Option Fn) (c:SCode) (e:Env) (Q:X->Env->Prop):Prop:= ∃n x e',exec S n c e=some (x,e')/\Q x e'
def Gives (S:Nat->Option Fn) (f:Nat) (args:List A) (os:List (List C)) (Q:List A->List (List C)->Prop):Prop:= ∃n rs os',call S n f args os=some (rs,os')/\Q rs os'
def EndsOps (S:Nat->Option Fn) (ops:List SOp) (e:Env) (Q:Env->Prop):Prop:= ∃n e',Zbq (call S n) ops e=some e'/\Q e'
section
variable {S:Nat->Option Fn} {Q Q':X->Env->Prop} {e:Env}
def Ends.skip (h:Q .normal e):Ends S .skip e Q:=⟨1,.normal,e,rfl,h⟩
def Ends.exit {id:Nat} (h:Q (.exit id) e):Ends S (.exit id) e Q:=⟨1,.exit id,e,rfl,h⟩
def Ends.ret (h:Q .ret e):Ends S .ret e Q:=⟨1,.ret,e,rfl,h⟩
def Ends.region {ops:List SOp} (h:EndsOps S ops (e.kills (ops.flatMap fun o=>o.kind.creates)) (Q .normal)):Ends S (.region ops) e Q:=by
 obtain ⟨n,e',h1,h2⟩:=h
 exact ⟨n+1,.normal,e',by rw [exec];unfold call at h1;rw [h1],h2⟩
def after (Q:X->Env->Prop) (K:Env->Prop):X->Env->Prop
 | .normal,e=>K e
 | x,e=>Q x e
def Ends.seq {a b:SCode} (h:Ends S a e (after Q fun e'=>Ends S b e' Q)):Ends S (.seq a b) e Q:=by
 obtain ⟨n,x,e',h1,h2⟩:=h
 cases x with
 | normal=>
   obtain ⟨m,x2,e2,h3,h4⟩:=h2
   refine ⟨max n m+1,x2,e2,?_,h4⟩
   rw [exec,Zhk (Nat.le_max_left n m) h1]
   exact Zhk (Nat.le_max_right n m) h3
 | exit id=>exact ⟨n+1,.exit id,e',by rw [exec,h1],h2⟩
 | ret=>exact ⟨n+1,.ret,e',by rw [exec,h1],h2⟩
def Ends.cond {x:Arg} {a b:SCode} {t:Bool} (ht:Zaw e [] x= .a (.one (.p (.bool t)))) (h:Ends S (if t then a else b) e Q):Ends S (.cond x a b) e Q:=by
 obtain ⟨n,x',e',h1,h2⟩:=h
 exact ⟨n+1,x',e',by rw [exec,ht];exact h1,h2⟩
def inBlock (id:Nat) (Q:X->Env->Prop):X->Env->Prop
 | .exit i,e=>if i=id then Q .normal e else Q (.exit i) e
 | x,e=>Q x e
def Ends.block {id:Nat} {b:SCode} (h:Ends S b e (inBlock id Q)):Ends S (.block id b) e Q:=by
 obtain ⟨n,x,e',h1,h2⟩:=h
 cases x with
 | normal=>exact ⟨n+1,.normal,e',by rw [exec,h1],h2⟩
 | ret=>exact ⟨n+1,.ret,e',by rw [exec,h1],h2⟩
 | exit i=>
   simp only [inBlock] at h2
   split at h2
   · rename_i hi;exact ⟨n+1,.normal,e',by rw [exec,h1];simp [hi],h2⟩
   · rename_i hi;exact ⟨n+1,.exit i,e',by rw [exec,h1];simp [hi],h2⟩
def Ends.loop {live:List Nat} {b:SCode} {α:Type} (I:α->Env->Prop) (μ:α->Nat) {i:α} (h0:I i e)
   (hr: ∀i e,I i e->Ends S b (e.norm live) (after Q fun e'=> ∃j,μ j<μ i/\I j e')):Ends S (.loop live b) e Q:=by
 have key: ∀n i e,μ i=n->I i e->Ends S (.loop live b) e Q:=by
   intro n
   induction n using Nat.strongRecOn with
   | _ n ih=>
     intro i e hn hI
     obtain ⟨k,x,e',h1,h2⟩:=hr i e hI
     cases x with
     | normal=>
       obtain ⟨j,hj,hI'⟩:=h2
       obtain ⟨m,x2,e2,h3,h4⟩:=ih (μ j) Zo j e' rfl hI'
       refine ⟨max k m+1,x2,e2,?_,h4⟩
       rw [exec,Zhk (Nat.le_max_left k m) h1]
       exact Zhk (Nat.le_max_right k m) h3
     | exit id=>exact ⟨k+1,.exit id,e',by rw [exec,h1],h2⟩
     | ret=>exact ⟨k+1,.ret,e',by rw [exec,h1],h2⟩
 exact key _ i e rfl h0
def EndsOps.cons {o:SOp} {os:List SOp} {Q:Env->Prop} {n:Nat} {e1:Env} (h1:Zar (call S n) o e=some e1) (h:EndsOps S os e1 Q):EndsOps S (o::os) e Q:=by
 obtain ⟨m,e',h2,h3⟩:=h
 refine ⟨max n m,e',?_,h3⟩
 rw [Zbq,Zh3 (Zre (Nat.le_max_left n m)) h1]
 exact ZfA (Zre (Nat.le_max_right n m)) h2
end
end Go.Am
end
section
namespace Go.Am
abbrev RR:=Option (List A×List (List C))
variable {S:Nat->Option Fn} {F:Zae}
abbrev Ex:=SCode->Env->(Env->RR)->(Nat->Env->RR)->(Env->RR)->RR
end Go.Am
end
section
namespace Go.Am.Fe
open Go.Am.Tx
def ZdY:SFunc:=⟨1,[true],[.tmp 2],
 (q (r [mv (z 4) 2])
 (q (r [mv (z 4) 3])
 (q (q (r [mv (n 0) 4])
 (k 0 (lo [0,3,4,9999] (q (q (r [m 4 5,m 0 6,le 6 7,o ls [v 5,v 7] 8])
 (i 8 e (ex 0)))
 (q (k 1 (r [mt 3 11,m 0 12,m 4 13,ix 10 12 (v 13) 14,f 1 14 15,ls2 4 15 16,m 0 17,m 4 18,ix 10 17 (v 18) 19,f 5 19 20,ls2 4 20 21,bs 4 [v 16,v 21] 22,ap 4 11 22 23,mt 23 3]))
 (r [m 4 9,o ad [v 9,n 1] 10,m 10 4]))))))
 (q (r [mt 3 24,mt 24 2])
 .ret))))⟩
def ZdW:SFunc:=⟨2,[],[.tmp 4],
 (q (r [bx 10002 (v 0) 2,mv (n 0) 4])
 (q (r [mv (n 1) 5])
 (q (q (r [mv (n 0) 6])
 (k 0 (lo [1,2,5,6,9999,10002] (q (q (r [m 6 7,f 3 2 8,ld 10002 8 9,le 9 10,o ls [v 7,v 10] 11,m 11 12,mg (v 5) 13 12 true,mg (v 1) 14 12 true,og (.bin .leq) [v 13,v 14] 15 12 true,pk [v 12,v 15,b false] 16])
 (i 16 e (ex 0)))
 (q (k 1 (r [m 5 19,f 3 2 20,ld 10002 20 21,m 6 22,ix 4 21 (v 22) 23,ls2 4 23 24,m 1 25,ca Zbm 2 [v 24,v 25] 26,o ad [v 19,v 26] 27,m 27 5]))
 (r [m 6 17,o ad [v 17,n 1] 18,m 18 6]))))))
 (q (r [m 5 28,m 1 29,o ad [v 29,n 1] 30,o .min2 [v 28,v 30] 31,m 31 4])
 .ret))))⟩
def ZdG:SFunc:=⟨1,[],[.tmp 2],
 (q (r [mv (b false) 2])
 (q (q (r [mv (n 0) 3])
 (k 0 (lo [0,3,9999] (q (q (r [m 3 4,m 0 5,le 5 6,o ls [v 4,v 6] 7])
 (i 7 e (ex 0)))
 (q (k 1 (q (r [m 0 10,m 3 11,ix 4 10 (v 11) 12,ls2 4 12 13,ca Zbm 2 [v 13,n 60] 14,o gr [v 14,n 60] 15])
 (i 15 (q (r [mv (b false) 2])
 .ret) e)))
 (r [m 3 8,o ad [v 8,n 1] 9,m 9 3]))))))
 (q (r [mv (b true) 2])
 .ret)))⟩
def Zd1:SFunc:=⟨1,[],[.tmp 2],
 (q (r [bx 10001 (v 0) 1,mv (b false) 2])
 (q (q (r [f 1 1 5,ld 10001 5 6,le 6 7,o gr [v 7,n 100] 8,m 8 9,fg 2 1 10 9 false,lg 10001 10 11 9 false,og .len [v 11] 12 9 false,og gr [v 12,n 12] 13 9 false,pk [v 9,b true,v 13] 14,m 14 15,fg 1 1 16 15 false,lg 10001 16 17 15 false,og (.call ZbQ false [] 1) [v 17] 18 15 false,og (.call ZbN false [] 1) [v 18] 19 15 false,og .not [v 19] 20 15 false,pk [v 15,b true,v 20] 21])
 (i 21 (q (r [mv (b true) 2])
 .ret) e))
 (q (q (r [mv (n 0) 3])
 (k 0 (lo [1,3,9999,10001] (q (q (r [m 3 22,f 2 1 23,ld 10001 23 24,le 24 25,o ls [v 22,v 25] 26])
 (i 26 e (ex 0)))
 (q (k 1 (q (q (r [f 2 1 29,ld 10001 29 30,m 3 31,ix 1 30 (v 31) 32,lp 32 33,le 33 34,o gr [v 34,n 10] 35])
 (i 35 (q (r [mv (b true) 2])
 .ret) e))
 (q (r [mv (n 0) 4])
 (k 2 (lo [1,3,4,9999,10001] (q (q (r [m 4 36,f 2 1 37,ld 10001 37 38,m 3 39,ix 1 38 (v 39) 40,lp 40 41,le 41 42,o ls [v 36,v 42] 43])
 (i 43 e (ex 2)))
 (q (k 3 (q (r [f 2 1 46,ld 10001 46 47,m 3 48,ix 1 47 (v 48) 49,lp 49 50,m 4 51,ix 2 50 (v 51) 52,f 0 52 53,lp 53 54,le 54 55,o gr [v 55,n 100] 56,m 56 57,fg 2 1 58 57 false,lg 10001 58 59 57 false,mg (v 3) 60 57 false,og (.indexAddr 1) [v 59,v 60] 61 57 false,og (.load none) [v 61] 62 57 false,mg (v 4) 63 57 false,og (.indexAddr 2) [v 62,v 63] 64 57 false,fg 0 64 65 57 false,og (.load none) [v 65] 66 57 false,og (.call ZbQ false [] 1) [v 66] 67 57 false,og (.call ZbN false [] 1) [v 67] 68 57 false,og .not [v 68] 69 57 false,pk [v 57,b true,v 69] 70])
 (i 70 (q (r [mv (b true) 2])
 .ret) e)))
 (r [m 4 44,o ad [v 44,n 1] 45,m 45 4]))))))))
 (r [m 3 27,o ad [v 27,n 1] 28,m 28 3]))))))
 (q (r [mv (b false) 2])
 .ret))))⟩
def Zb6:SFunc:=⟨1,[],[.tmp 2],
 (q (r [mv (b false) 2])
 (q (r [m 0 3,m 0 4,o ne [v 3,v 4] 5,m 5 2])
 .ret))⟩
def ZcT:SFunc:=⟨2,[],[.tmp 4],
 (q (r [mv (n 0) 4])
 (q (r [m 0 7,ca Zcb 1 [v 7] 8,m 8 5])
 (q (r [m 1 9,ca Zcb 1 [v 9] 10,m 10 6])
 (q (q (r [m 5 11])
 (i 11 (q (q (r [m 6 12])
 (i 12 (q (r [mv (n 0) 4])
 .ret) e))
 (q (r [mv (n (-1)) 4])
 .ret)) e))
 (q (q (r [m 6 13])
 (i 13 (q (r [mv (n 1) 4])
 .ret) e))
 (q (q (r [m 0 14,m 1 15,o ls [v 14,v 15] 16])
 (i 16 (q (r [mv (n (-1)) 4])
 .ret) e))
 (q (q (r [m 0 17,m 1 18,o gr [v 17,v 18] 19])
 (i 19 (q (r [mv (n 1) 4])
 .ret) e))
 (q (r [mv (n 0) 4])
 .ret))))))))⟩
def Zcj:SFunc:=⟨2,[],[.tmp 4],
 (q (r [mv (n 0) 4])
 (q (r [m 0 5,m 1 6,ca ZbC 2 [v 5,v 6] 7,m 7 4])
 .ret))⟩
def Zhg:SFunc:=⟨1,[],[.tmp 2],
 (q (r [mv (n 0) 2])
 (q (r [mv (n 0) 3])
 (q (q (r [mt 0 6,le 6 7,mv (n 0) 8])
 (k 0 (lo [3,6,7,8,9999] (q (r [o ls [v 8,v 7] 9])
 (q (i 9 e (ex 0))
 (q (k 1 (q (r [ix 1 6 (v 8) 10,lp 10 11,m 11 5])
 (q (r [m 5 12,m 3 13,o ne [v 12,v 13] 14])
 (i 14 (q (r [m 5 15,m 15 2])
 .ret) e))))
 (r [o ad [v 8,n 1] 16,m 16 8])))))))
 (q (r [m 3 17,m 17 2])
 .ret))))⟩
def Zbj:SFunc:=⟨3,[],[.tmp 6],
 (q (r [mv (n 0) 6])
 (q (q (r [mv (n 0) 7])
 (k 0 (lo [0,1,2,7,9999] (q (q (r [m 7 9,m 0 10,le 10 11,o ls [v 9,v 11] 12,m 12 13,mg (v 7) 14 13 true,mg (v 1) 15 13 true,og .len [v 15] 16 13 true,og ls [v 14,v 16] 17 13 true,pk [v 13,v 17,b false] 18])
 (i 18 e (ex 0)))
 (q (k 1 (q (r [m 2 21,m 0 22,m 7 23,ix 4 22 (v 23) 24,ls2 4 24 25,m 1 26,m 7 27,ix 4 26 (v 27) 28,ls2 4 28 29,cv 2 [v 21,v 25,v 29,v 9999] 30,m 30 8])
 (q (r [m 8 31,o ne [v 31,n 0] 32])
 (i 32 (q (r [m 8 33,m 33 6])
 .ret) e))))
 (r [m 7 19,o ad [v 19,n 1] 20,m 20 7]))))))
 (q (r [mt 0 34,le 34 35,mt 1 36,le 36 37,ca Za3 2 [v 35,v 37] 38,m 38 6])
 .ret)))⟩
def ZcR:SFunc:=⟨2,[],[.tmp 4],
 (q (r [bx 10002 (v 0) 2,bx 10003 (v 1) 3,mv (n 0) 4])
 (q (q (r [f 0 2 6,ld 10002 6 7,f 0 3 8,ld 10003 8 9,ca Za3 2 [v 7,v 9] 10,f 1 2 11,ld 10002 11 12,f 1 3 13,ld 10003 13 14,ca Zbt 2 [v 12,v 14] 15,f 2 2 16,ld 10002 16 17,f 2 3 18,ld 10003 18 19,ca Za3 2 [v 17,v 19] 20,bs 1 [v 10,v 15,v 20] 21,ca Zfb 1 [v 21] 22,m 22 5])
 (q (r [m 5 23,o ne [v 23,n 0] 24])
 (i 24 (q (r [m 5 25,m 25 4])
 .ret) e)))
 (q (r [f 3 2 26,ld 10002 26 27,f 3 3 28,ld 10003 28 29,ca ZaV 3 [v 27,v 29,.c (.clo ZaP [] [])] 30,m 30 4])
 .ret)))⟩
def ZeD:SFunc:=⟨2,[],[.tmp 4],
 (q (r [bx 10002 (v 0) 2,bx 10003 (v 1) 3,mv (b false) 4])
 (q (r [ln 10002 4 2 5,ln 10003 4 3 6,ca ZaP 2 [v 5,v 6] 7,o eq [v 7,n 0] 8,m 8 4])
 .ret))⟩
def ZaS:SFunc:=⟨2,[],[.tmp 4],
 (q (r [mv (n 0) 4])
 (q (q (r [m 0 6,le 6 7,mv (n 0) 8])
 (k 0 (lo [0,1,7,8,9999] (q (r [o ls [v 8,v 7] 9])
 (q (i 9 e (ex 0))
 (q (k 1 (q (r [m 8 10,m 10 5])
 (q (r [m 1 11,m 0 12,m 5 13,ix 1 12 (v 13) 14,lp 14 15,o eq [v 11,v 15] 16])
 (i 16 (q (r [m 5 17,m 17 4])
 .ret) e))))
 (r [o ad [v 8,n 1] 18,m 18 8])))))))
 (q (r [mv (n (-1)) 4])
 .ret)))⟩
def ZaE:SFunc:=⟨2,[],[.tmp 4],
 (q (r [mv (b false) 4])
 (q (r [mt 0 5,m 1 6,ca ZaO 2 [v 5,v 6] 7,o ge [v 7,n 0] 8,m 8 4])
 .ret))⟩
def Zdq:SFunc:=⟨1,[],[.tmp 2],
 (q (r [mv (b false) 2])
 (q (q (r [m 0 5,o .lenS [v 5] 6,o ls [v 6,n 1] 7,m 7 8,mg (v 0) 9 8 false,og .lenS [v 9] 10 8 false,og gr [v 10,n 24] 11 8 false,pk [v 8,b true,v 11] 12,m 12 13,mg (v 0) 14 13 false,og .indexS [v 14,n 0] 15 13 false,og ls [v 15,u 65] 16 13 false,pk [v 13,b true,v 16] 17,m 17 18,mg (v 0) 19 18 false,og .indexS [v 19,n 0] 20 18 false,og gr [v 20,u 90] 21 18 false,pk [v 18,b true,v 21] 22])
 (i 22 (q (r [mv (b false) 2])
 .ret) e))
 (q (q (r [m 0 23,o .lenS [v 23] 24,mv (n 0) 25])
 (k 0 (lo [0,24,25,9999] (q (r [o ls [v 25,v 24] 26])
 (q (i 26 e (ex 0))
 (q (k 1 (q (r [m 25 27,m 27 3])
 (q (r [m 0 28,m 3 29,o .indexS [v 28,v 29] 30,m 30 4])
 (q (r [m 4 31,o ge [v 31,u 97] 32,m 32 33,mg (v 4) 34 33 true,og (.bin .leq) [v 34,u 122] 35 33 true,pk [v 33,v 35,b false] 36,m 36 37,mg (v 4) 38 37 false,og ge [v 38,u 65] 39 37 false,mg (v 39) 40 37 false,mg (v 4) 41 40 true,og (.bin .leq) [v 41,u 90] 42 40 true,og .pick [v 40,v 42,b false] 43 37 false,pk [v 37,b true,v 43] 44,m 44 45,mg (v 4) 46 45 false,og ge [v 46,u 48] 47 45 false,mg (v 47) 48 45 false,mg (v 4) 49 48 true,og (.bin .leq) [v 49,u 57] 50 48 true,og .pick [v 48,v 50,b false] 51 45 false,pk [v 45,b true,v 51] 52,m 52 53,mg (v 4) 54 53 false,og eq [v 54,u 95] 55 53 false,pk [v 53,b true,v 55] 56,nt 56 57])
 (i 57 (q (r [mv (b false) 2])
 .ret) e)))))
 (r [o ad [v 25,n 1] 58,m 58 25])))))))
 (q (r [mv (b true) 2])
 .ret))))⟩
def Zdi:SFunc:=⟨2,[],[.tmp 4],
 (q (r [bx 10002 (v 0) 2,mv (b false) 4])
 (q (r [f 3 2 7,ld 10002 7 8,le 8 9,m 9 5])
 (q (q (r [f 0 2 10,ld 10002 10 11,o eq [v 11,n 12] 12])
 (i 12 (q (r [m 1 13,m 13 14,mg (v 5) 15 14 true,og eq [v 15,n 0] 16 14 true,pk [v 14,v 16,b false] 17,m 17 18,fg 1 2 19 18 true,lg 10002 19 20 18 true,og eq [v 20,s []] 21 18 true,pk [v 18,v 21,b false] 22,m 22 23,fg 2 2 24 23 true,lg 10002 24 25 23 true,og ge [v 25,n 0] 26 23 true,pk [v 23,v 26,b false] 27,m 27 28,fg 2 2 29 28 true,lg 10002 29 30 28 true,og ls [v 30,n 40] 31 28 true,pk [v 28,v 31,b false] 32,m 32 4])
 .ret) e))
 (q (q (r [f 2 2 33,ld 10002 33 34,o ne [v 34,n 0] 35])
 (i 35 (q (r [mv (b false) 4])
 .ret) e))
 (q (q (r [f 0 2 36,ld 10002 36 37])
 (k 0 (q (q (r [o eq [v 37,n 1] 39,m 39 38])
 (i 38 e (q (r [o eq [v 37,n 2] 40,m 40 38])
 (i 38 e (q (r [o eq [v 37,n 3] 41,m 41 38])
 (i 38 e (r [o eq [v 37,n 4] 42,m 42 38])))))))
 (i 38 (q (r [m 5 43,o eq [v 43,n 0] 44,m 44 45,fg 1 2 46 45 true,lg 10002 46 47 45 true,og eq [v 47,s []] 48 45 true,pk [v 45,v 48,b false] 49,m 49 4])
 .ret) (q (q (r [o eq [v 37,n 5] 51,m 51 50])
 (i 50 e (r [o eq [v 37,n 11] 52,m 52 50])))
 (i 50 (q (r [m 5 53,o eq [v 53,n 1] 54,m 54 55,fg 1 2 56 55 true,lg 10002 56 57 55 true,og eq [v 57,s []] 58 55 true,pk [v 55,v 58,b false] 59,m 59 4])
 .ret) (q (r [o eq [v 37,n 6] 61,m 61 60])
 (i 60 (q (r [m 5 62,o eq [v 62,n 0] 63,m 63 64,og (.buildSlice 1) [s [73,110,116],s [66,111,111,108],s [84,101,120,116],s [85,110,105,116]] 65 64 true,fg 1 2 66 64 true,lg 10002 66 67 64 true,og (.call Zau false [] 2) [v 65,v 67] 68 64 true,pk [v 64,v 68,b false] 69,m 69 70,mg (v 5) 71 70 false,og eq [v 71,n 1] 72 70 false,mg (v 72) 73 70 false,fg 1 2 74 73 true,lg 10002 74 75 73 true,og eq [v 75,s [65,114,114,97,121]] 76 73 true,mg (v 76) 77 73 true,fg 1 2 78 77 false,lg 10002 78 79 77 false,og eq [v 79,s [87,101,97,107]] 80 77 false,og .pick [v 77,b true,v 80] 81 73 true,og .pick [v 73,v 81,b false] 82 70 false,pk [v 70,b true,v 82] 83,m 83 6])
 (q (r [m 5 84,o (.bin .leq) [v 84,n 3] 85,m 85 86,fg 1 2 87 86 true,lg 10002 87 88 86 true,og (.call Za9 false [] 1) [v 88] 89 86 true,pk [v 86,v 89,b false] 90,m 90 91,mg (v 6) 92 91 true,og .not [v 92] 93 91 true,pk [v 91,v 93,b false] 94,m 94 4])
 .ret)) (q (q (r [o eq [v 37,n 7] 96,m 96 95])
 (i 95 e (r [o eq [v 37,n 9] 97,m 97 95])))
 (i 95 (q (r [m 5 98,o eq [v 98,n 0] 99,m 99 100,fg 1 2 101 100 true,lg 10002 101 102 100 true,og (.call Za9 false [] 1) [v 102] 103 100 true,pk [v 100,v 103,b false] 104,m 104 4])
 .ret) (q (r [o eq [v 37,n 8] 106,m 106 105])
 (i 105 (q (r [m 5 107,o eq [v 107,n 1] 108,m 108 109,fg 1 2 110 109 true,lg 10002 110 111 109 true,og (.call Za9 false [] 1) [v 111] 112 109 true,pk [v 109,v 112,b false] 113,m 113 114,fg 3 2 115 114 true,lg 10002 115 116 114 true,og (.indexAddr 4) [v 116,n 0] 117 114 true,fg 0 117 118 114 true,og (.load none) [v 118] 119 114 true,og ne [v 119,n 10] 120 114 true,pk [v 114,v 120,b false] 121,m 121 122,fg 3 2 123 122 true,lg 10002 123 124 122 true,og (.indexAddr 4) [v 124,n 0] 125 122 true,fg 0 125 126 122 true,og (.load none) [v 126] 127 122 true,og ne [v 127,n 9] 128 122 true,pk [v 122,v 128,b false] 129,m 129 4])
 .ret) (q (r [o eq [v 37,n 10] 131,m 131 130])
 (i 130 (q (r [m 5 132,o ge [v 132,n 1] 133,m 133 134,mg (v 5) 135 134 true,og (.bin .leq) [v 135,n 7] 136 134 true,pk [v 134,v 136,b false] 137,m 137 138,fg 1 2 139 138 true,lg 10002 139 140 138 true,og eq [v 140,s []] 141 138 true,pk [v 138,v 141,b false] 142,m 142 4])
 .ret) e))))))))))))))
 (q (r [mv (b false) 4])
 .ret))))))⟩
def ZcQ:SFunc:=⟨3,[],[.tmp 4],
 (q (r [bx 10003 (v 0) 3,mv (b false) 4])
 (q (r [o (.loadO none) [v 1,v 9999] 5,o sb [v 5,n 1] 6,⟨(.storeO 1),[v 1,v 6,v 9999],[9999],[9999],none,false⟩])
 (q (r [o (.loadO none) [v 1,v 9999] 7,o ge [v 7,n 0] 8,m 8 9,og (.loadB 10003 (some 4)) [v 3,v 10003] 10 9 true,og (.loadO none) [v 2,v 9999] 11 9 true,og (.call Zb3 false [] 2) [v 10,v 11] 12 9 true,pk [v 9,v 12,b false] 13,m 13 4])
 .ret)))⟩
def Zb5:SFunc:=⟨3,[],[.tmp 4],
 (q (r [bx 10003 (v 0) 3,mv (b false) 4])
 (q (q (r [o (.loadO none) [v 1,v 9999] 7,ln 10003 4 3 8,cv 1 [v 7,v 8,v 9999] 9,nt 9 10])
 (i 10 (q (r [mv (b false) 4])
 .ret) e))
 (q (q (r [f 3 3 11,ld 10003 11 12,le 12 13,mv (n 0) 14])
 (k 0 (lo [2,12,13,14,9999] (q (r [o ls [v 14,v 13] 15])
 (q (i 15 e (ex 0))
 (q (k 1 (q (r [ix 4 12 (v 14) 16,ls2 4 16 17,al 10006 zT 6,su 10006 4 6 17])
 (q (r [o (.loadO none) [v 2,v 9999] 18,ln 10006 4 6 19,cv 1 [v 18,v 19,v 9999] 20,nt 20 21])
 (i 21 (q (r [mv (b false) 4])
 .ret) e))))
 (r [o ad [v 14,n 1] 22,m 22 14])))))))
 (q (r [mv (b true) 4])
 .ret))))⟩
def Zdd:SFunc:=⟨2,[],[.tmp 4],
 (q (r [bx 10002 (v 0) 2,bx 10003 (v 1) 3,mv (b false) 4])
 (q (r [al 10005 [.junk] 5])
 (q (r [o (.makeFunc Za0 0) [v 3,v 5] 6,st 10005 1 5 (v 6)])
 (q (r [ld 10005 5 7,ln 10002 4 2 8,⟨(.callv true [10003,10005] 1),[v 7,v 8,v 9999,v 10003,v 10005],[9999,10003,10005],[9,9999,10003,10005],none,true⟩,m 9 4])
 .ret))))⟩
def ZdR:SFunc:=⟨2,[],[.tmp 4],
 (q (r [bx 10002 (v 0) 2,bx 10003 (v 1) 3,mv (b false) 4])
 (q (r [al 10005 [ci 0] 5,st 10005 1 5 (n 40)])
 (q (r [ln 10002 4 2 6,o (.makeFunc Zbe 0) [v 5,v 3] 7,⟨(.call Zdp false [10003,10005] 2),[v 6,v 7,v 10003,v 10005],[10003,10005],[8,10003,10005],none,true⟩,m 8 4])
 .ret)))⟩
def ZfD:SFunc:=⟨1,[],[.tmp 2],
 (q (r [bx 10001 (v 0) 1,mv (b false) 2])
 (q (r [ln 10001 4 1 3,ca ZcG 2 [v 3,b true] 4,m 4 2])
 .ret))⟩
def ZdH:SFunc:=⟨2,[],[.tmp 3],
 (q (r [bx 10002 (v 0) 2,mv (b false) 3])
 (q (q (r [f 0 2 4,ld 10002 4 5,o eq [v 5,n 12] 6])
 (i 6 (r [⟨(.loadOT none),[v 1,v 9999],[9999],[7,9999],none,true⟩,f 2 2 8,ld 10002 8 9,bs 1 [v 9] 10,⟨(.appendU 1),[v 7,v 10],[7],[11],none,true⟩,⟨(.storeO 1),[v 1,v 11,v 9999],[9999,11],[9999],none,false⟩]) e))
 (q (r [mv (b true) 3])
 .ret)))⟩
def ZfC:SFunc:=⟨1,[true],[.tmp 2],
 (q (r [bx 10001 (v 0) 1,mv (z 1) 2])
 (q (r [al 10003 [.uniq 1 []] 3])
 (q (r [ln 10001 4 1 4,o (.makeFunc ZbO 0) [v 3] 5,⟨(.call Zdp false [10003] 2),[v 4,v 5,v 10003],[10003],[6,10003],none,true⟩])
 (q (.hg (r [lt 10003 3 7,cm ZcC 1 [v 7] 7 8,mt 8 2]) (.pub 2 0))
 .ret))))⟩
def ZcP:SFunc:=⟨2,[],[.tmp 3],
 (q (r [mv (b false) 3])
 (q (r [m 0 4,o (.loadO none) [v 1,v 9999] 5,o ge [v 4,v 5] 6,m 6 3])
 .ret))⟩
def ZaX:SFunc:=⟨2,[],[.tmp 4],
 (q (r [mv (n 0) 4])
 (q (q (r [m 0 6,le 6 7,mv (n 0) 8])
 (k 0 (lo [0,1,7,8,9999] (q (r [o ls [v 8,v 7] 9])
 (q (i 9 e (ex 0))
 (q (k 1 (q (r [m 8 10,m 10 5])
 (q (r [m 1 11,m 0 12,m 5 13,ix 1 12 (v 13) 14,lp 14 15,cv 1 [v 11,v 15,v 9999] 16])
 (i 16 (q (r [m 5 17,m 17 4])
 .ret) e))))
 (r [o ad [v 8,n 1] 18,m 18 8])))))))
 (q (r [mv (n (-1)) 4])
 .ret)))⟩
def ZaI:SFunc:=⟨2,[],[.tmp 4],
 (q (r [mv (b false) 4])
 (q (r [mt 0 5,m 1 6,cp ZaY 2 [v 5,v 6,v 9999] 7,o ge [v 7,n 0] 8,m 8 4])
 .ret))⟩
def ZdE:SFunc:=⟨2,[],[.tmp 4],
 (q (r [bx 10002 (v 0) 2,bx 10003 (v 1) 3,mv (b false) 4])
 (q (r [ln 10002 4 2 5,ca Zel 1 [v 5] 6,m 6 7,og (.loadB 10002 (some 4)) [v 2,v 10002] 8 7 true,og (.call Zd8 false [] 1) [v 8] 9 7 true,og (.makeFunc ZbJ 0) [v 3] 10 7 true,⟨(.call ZaJ false [10003] 2),[v 9,v 10,v 10003],[10003],[11,10003],some (7,true),true⟩,og .not [v 11] 12 7 true,pk [v 7,v 12,b false] 13,m 13 4])
 .ret))⟩
def ZdS:SFunc:=⟨2,[],[.tmp 4],
 (q (r [bx 10002 (v 0) 2,mv (b false) 4])
 (q (r [f 5 2 6,ln 10002 4 6 7,bd zT [] [] 8,ca Zda 2 [v 7,v 8] 9,m 9 5])
 (q (q (r [f 1 2 10,ln 10002 4 10 11,m 1 12,ca ZbU 2 [v 11,v 12] 13,nt 13 14])
 (i 14 (q (r [mv (b false) 4])
 .ret) e))
 (q (q (r [f 0 2 15,ld 10002 15 16])
 (k 0 (q (q (r [o eq [v 16,n 1] 18,m 18 17])
 (i 17 e (q (r [o eq [v 16,n 2] 19,m 19 17])
 (i 17 e (r [o eq [v 16,n 5] 20,m 20 17])))))
 (i 17 (q (r [f 5 2 21,ln 10002 4 21 22,m 1 23,ca ZbU 2 [v 22,v 23] 24,m 24 25,fg 9 2 26 25 true,lg 10002 26 27 25 true,og eq [v 27,s []] 28 25 true,pk [v 25,v 28,b false] 29,m 29 4])
 .ret) (q (r [o eq [v 16,n 3] 31,m 31 30])
 (i 30 (q (r [m 5 32,m 32 4])
 .ret) (q (r [o eq [v 16,n 4] 34,m 34 33])
 (i 33 (q (r [m 5 35,m 35 36,fg 9 2 37 36 true,lg 10002 37 38 36 true,og eq [v 38,s []] 39 36 true,pk [v 36,v 39,b false] 40,m 40 4])
 .ret) e))))))))
 (q (r [mv (b false) 4])
 .ret)))))⟩
def Zdc:SFunc:=⟨2,[],[.tmp 3],
 (q (r [bx 10002 (v 0) 2,mv (b false) 3])
 (q (r [ln 10002 10 2 4,f 0 1 5,o (.loadO none) [v 5,v 9999] 6,ca ZcK 2 [v 4,v 6] 7,nt 7 8,m 8 3])
 .ret))⟩
def ZaA:SFunc:=⟨2,[],[.tmp 4],
 (q (r [mv (n 0) 4])
 (q (q (r [m 0 6,le 6 7,mv (n 0) 8])
 (k 0 (lo [0,1,7,8,9999] (q (r [o ls [v 8,v 7] 9])
 (q (i 9 e (ex 0))
 (q (k 1 (q (r [m 8 10,m 10 5])
 (q (r [m 1 11,m 0 12,m 5 13,ix 10 12 (v 13) 14,ls2 10 14 15,cv 1 [v 11,v 15,v 9999] 16])
 (i 16 (q (r [m 5 17,m 17 4])
 .ret) e))))
 (r [o ad [v 8,n 1] 18,m 18 8])))))))
 (q (r [mv (n (-1)) 4])
 .ret)))⟩
def Zav:SFunc:=⟨2,[],[.tmp 4],
 (q (r [mv (b false) 4])
 (q (r [mt 0 5,m 1 6,cp Zaz 2 [v 5,v 6,v 9999] 7,o ge [v 7,n 0] 8,m 8 4])
 .ret))⟩
def ZeK:SFunc:=⟨1,[],[.tmp 2],
 (q (r [bx 10001 (v 0) 1,mv (b false) 2])
 (q (q (r [f 0 1 8,ld 10001 8 9,o ls [v 9,n 0] 10,m 10 11,fg 0 1 12 11 false,lg 10001 12 13 11 false,og gr [v 13,n 40] 14 11 false,pk [v 11,b true,v 14] 15,m 15 16,fg 2 1 17 16 false,lg 10001 17 18 16 false,og .len [v 18] 19 16 false,og gr [v 19,n 8] 20 16 false,pk [v 16,b true,v 20] 21,m 21 22,fg 1 1 23 22 false,lg 10001 23 24 22 false,og .len [v 24] 25 22 false,og gr [v 25,n 80] 26 22 false,pk [v 22,b true,v 26] 27])
 (i 27 (q (r [mv (b false) 2])
 .ret) e))
 (q (r [f 1 1 28,ld 10001 28 29,ca ZaR 1 [v 29] 30,mt 30 3])
 (q (q (r [f 2 1 31,ld 10001 31 32,le 32 33,mv (n 0) 34])
 (k 0 (lo [1,3,32,33,34,9999,10001] (q (r [o ls [v 34,v 33] 35])
 (q (i 35 e (ex 0))
 (q (k 1 (q (r [ix 1 32 (v 34) 36,lp 36 37,mt 37 5])
 (q (q (r [m 5 38,le 38 39,o ls [v 39,n 1] 40,m 40 41,mg (v 5) 42 41 false,og .len [v 42] 43 41 false,og gr [v 43,n 6] 44 41 false,pk [v 41,b true,v 44] 45])
 (i 45 (q (r [mv (b false) 2])
 .ret) e))
 (q (r [mt 5 46,le 46 47,mv (n 0) 48])
 (k 2 (lo [1,3,32,33,34,46,47,48,9999,10001] (q (r [o ls [v 48,v 47] 49])
 (q (i 49 e (ex 2))
 (q (k 3 (q (r [ix 2 46 (v 48) 50,ls2 2 50 51,al 10007 [ct 10,ci 0] 7,su 10007 2 7 51])
 (q (q (r [f 1 7 52,ld 10007 52 53,o ls [v 53,n 0] 54,m 54 55,fg 1 7 56 55 false,lg 10007 56 57 55 false,og gr [v 57,n 9] 58 55 false,pk [v 55,b true,v 58] 59,m 59 60,fg 0 7 61 60 false,lg 10007 61 62 60 false,og .len [v 62] 63 60 false,og gr [v 63,n 80] 64 60 false,pk [v 60,b true,v 64] 65])
 (i 65 (q (r [mv (b false) 2])
 .ret) e))
 (r [mt 3 66,f 0 7 67,ld 10007 67 68,ap 10 66 68 69,mt 69 3]))))
 (r [o ad [v 48,n 1] 70,m 70 48]))))))))))
 (r [o ad [v 34,n 1] 71,m 71 34])))))))
 (q (r [m 3 72,le 72 73,o (.bin .leq) [v 73,n 80] 74,m 74 75,⟨.mov,[v 3],[3],[76],some (75,true),true⟩,og (.makeFunc Zbu 0) [v 1] 77 75 true,⟨(.call Zap false [10001] 2),[v 76,v 77,v 10001],[10001],[78,10001],some (75,true),true⟩,og .not [v 78] 79 75 true,pk [v 75,v 79,b false] 80,m 80 2])
 .ret)))))⟩
def ZcS:SFunc:=⟨1,[],[.tmp 2],
 (q (r [bx 10001 (v 0) 1,mv (b false) 2])
 (q (r [f 0 1 3,ld 10001 3 4,o eq [v 4,n 2] 5,m 5 6,fg 0 1 7 6 false,lg 10001 7 8 6 false,og eq [v 8,n 4] 9 6 false,pk [v 6,b true,v 9] 10,m 10 2])
 .ret))⟩
def ZdD:SFunc:=⟨1,[],[.tmp 2],
 (q (r [mv (n 0) 2])
 (q (r [mv (n 0) 3])
 (q (q (r [mt 0 6,le 6 7,mv (n 0) 8])
 (k 0 (lo [3,6,7,8,9999] (q (r [o ls [v 8,v 7] 9])
 (q (i 9 e (ex 0))
 (q (k 1 (q (r [ix 10 6 (v 8) 10,ls2 10 10 11,al 10005 [ci 0,ci 0,cs [],ci 0,ct 4,ci 0,cs [],ci 0,ct 4,cs []] 5,su 10005 10 5 11])
 (q (r [ln 10005 10 5 12,ca ZbK 1 [v 12] 13])
 (i 13 (r [m 3 14,o ad [v 14,n 1] 15,m 15 3]) e))))
 (r [o ad [v 8,n 1] 16,m 16 8])))))))
 (q (r [m 3 17,m 17 2])
 .ret))))⟩
def ZdX:SFunc:=⟨1,[],[.tmp 2],
 (q (r [mv (n 0) 2])
 (q (r [m 0 3,o .min2 [v 3,n 20] 4,o (.bin .shl) [n 1,v 4] 5,o .min2 [v 5,n 5001] 6,m 6 2])
 .ret))⟩
def Zbr:SFunc:=⟨1,[],[.tmp 2,.tmp 3],
 (q (r [bx 10001 (v 0) 1,mv (n 0) 2,mv (n 0) 3])
 (q (q (r [ln 10001 3 1 10,ca ZbF 1 [v 10] 11,nt 11 12])
 (i 12 (q (r [mv (n 0) 2,mv (n 4) 3])
 .ret) e))
 (q (r [f 1 1 13,ld 10001 13 14,ca Zbk 1 [v 14] 15,ca ZbR 1 [v 15] 16,m 16 4])
 (q (q (r [f 2 1 17,ld 10001 17 18,le 18 19,mv (n 0) 20])
 (k 0 (lo [4,18,19,20,9999] (q (r [o ls [v 20,v 19] 21])
 (q (i 21 e (ex 0))
 (q (k 1 (q (r [ix 1 18 (v 20) 22,lp 22 23,mt 23 6])
 (q (r [mv (n 0) 7])
 (q (q (r [mt 6 24,le 24 25,mv (n 0) 26])
 (k 2 (lo [4,7,18,19,20,24,25,26,9999] (q (r [o ls [v 26,v 25] 27])
 (q (i 27 e (ex 2))
 (q (k 3 (q (r [ix 2 24 (v 26) 28,ls2 2 28 29,al 10009 [ct 10,ci 0] 9,su 10009 2 9 29])
 (r [m 7 30,f 0 9 31,ld 10009 31 32,ca Zbk 1 [v 32] 33,ca ZbR 1 [v 33] 34,o ad [v 30,v 34] 35,m 35 7])))
 (r [o ad [v 26,n 1] 36,m 36 26])))))))
 (r [m 4 37,m 7 38,o (.bin .mul) [v 37,v 38] 39,o .min2 [v 39,n 5001] 40,m 40 4])))))
 (r [o ad [v 20,n 1] 41,m 41 20])))))))
 (q (q (r [m 4 42,o gr [v 42,n 5000] 43])
 (i 43 (q (r [mv (n 0) 2,mv (n 2) 3])
 .ret) e))
 (q (r [m 4 44,m 44 2,mv (n 0) 3])
 .ret))))))⟩
def Zfs:SFunc:=⟨1,[],[.tmp 2],
 (q (r [mv (b false) 2])
 (q (r [m 0 3,o ge [v 3,u 65] 4,m 4 5,mg (v 0) 6 5 true,og (.bin .leq) [v 6,u 90] 7 5 true,pk [v 5,v 7,b false] 8,m 8 2])
 .ret))⟩
def ZgF:SFunc:=⟨1,[],[.tmp 2],
 (q (r [mv (b false) 2])
 (q (r [m 0 3,o ge [v 3,u 97] 4,m 4 5,mg (v 0) 6 5 true,og (.bin .leq) [v 6,u 122] 7 5 true,pk [v 5,v 7,b false] 8,m 8 9,mg (v 0) 10 9 false,og ge [v 10,u 65] 11 9 false,mg (v 11) 12 9 false,mg (v 0) 13 12 true,og (.bin .leq) [v 13,u 90] 14 12 true,og .pick [v 12,v 14,b false] 15 9 false,pk [v 9,b true,v 15] 16,m 16 17,mg (v 0) 18 17 false,og eq [v 18,u 95] 19 17 false,pk [v 17,b true,v 19] 20,m 20 2])
 .ret))⟩
def Zjb:SFunc:=⟨1,[],[.tmp 2],
 (q (r [mv (b false) 2])
 (q (r [m 0 3,o ge [v 3,u 48] 4,m 4 5,mg (v 0) 6 5 true,og (.bin .leq) [v 6,u 57] 7 5 true,pk [v 5,v 7,b false] 8,m 8 2])
 .ret))⟩
def ZeA:SFunc:=⟨1,[],[.tmp 2],
 (q (r [mv (b false) 2])
 (q (q (r [m 0 4,o eq [v 4,s []] 5,m 5 6,mg (v 0) 7 6 false,og .lenS [v 7] 8 6 false,og gr [v 8,n 24] 9 6 false,pk [v 6,b true,v 9] 10,m 10 11,mg (v 0) 12 11 false,og .indexS [v 12,n 0] 13 11 false,og (.call Zen false [] 1) [v 13] 14 11 false,og .not [v 14] 15 11 false,pk [v 11,b true,v 15] 16])
 (i 16 (q (r [mv (b false) 2])
 .ret) e))
 (q (q (r [mv (n 0) 3])
 (k 0 (lo [0,3,9999] (q (q (r [m 3 17,m 0 18,o .lenS [v 18] 19,o ls [v 17,v 19] 20])
 (i 20 e (ex 0)))
 (q (k 1 (q (r [m 0 23,m 3 24,o .indexS [v 23,v 24] 25,ca Zfi 1 [v 25] 26,nt 26 27,m 27 28,mg (v 0) 29 28 true,mg (v 3) 30 28 true,og .indexS [v 29,v 30] 31 28 true,og (.call Zgi false [] 1) [v 31] 32 28 true,og .not [v 32] 33 28 true,pk [v 28,v 33,b false] 34])
 (i 34 (q (r [mv (b false) 2])
 .ret) e)))
 (r [m 3 21,o ad [v 21,n 1] 22,m 22 3]))))))
 (q (r [mv (b true) 2])
 .ret))))⟩
def Zi2:SFunc:=⟨2,[],[.tmp 4],
 (q (r [bx 10002 (v 0) 2,mv (b false) 4])
 (q (r [f 3 2 6,ld 10002 6 7,le 7 8,m 8 5])
 (q (q (r [f 0 2 9,ld 10002 9 10,o ne [v 10,n 12] 11,m 11 12,fg 2 2 13 12 true,lg 10002 13 14 12 true,og ne [v 14,n 0] 15 12 true,pk [v 12,v 15,b false] 16])
 (i 16 (q (r [mv (b false) 4])
 .ret) e))
 (q (q (r [f 0 2 17,ld 10002 17 18])
 (k 0 (q (q (r [o eq [v 18,n 1] 20,m 20 19])
 (i 19 e (q (r [o eq [v 18,n 2] 21,m 21 19])
 (i 19 e (q (r [o eq [v 18,n 3] 22,m 22 19])
 (i 19 e (r [o eq [v 18,n 4] 23,m 23 19])))))))
 (i 19 (q (r [m 5 24,o eq [v 24,n 0] 25,m 25 26,fg 1 2 27 26 true,lg 10002 27 28 26 true,og eq [v 28,s []] 29 26 true,pk [v 26,v 29,b false] 30,m 30 4])
 .ret) (q (q (r [o eq [v 18,n 5] 32,m 32 31])
 (i 31 e (r [o eq [v 18,n 11] 33,m 33 31])))
 (i 31 (q (r [m 5 34,o eq [v 34,n 1] 35,m 35 36,fg 1 2 37 36 true,lg 10002 37 38 36 true,og eq [v 38,s []] 39 36 true,pk [v 36,v 39,b false] 40,m 40 4])
 .ret) (q (r [o eq [v 18,n 6] 42,m 42 41])
 (i 41 (q (q (r [m 5 43,o eq [v 43,n 0] 44,m 44 45,fg 1 2 46 45 true,lg 10002 46 47 45 true,og eq [v 47,s [73,110,116]] 48 45 true,mg (v 48) 49 45 true,fg 1 2 50 49 false,lg 10002 50 51 49 false,og eq [v 51,s [66,111,111,108]] 52 49 false,og .pick [v 49,b true,v 52] 53 45 true,mg (v 53) 54 45 true,fg 1 2 55 54 false,lg 10002 55 56 54 false,og eq [v 56,s [84,101,120,116]] 57 54 false,og .pick [v 54,b true,v 57] 58 45 true,mg (v 58) 59 45 true,fg 1 2 60 59 false,lg 10002 60 61 59 false,og eq [v 61,s [85,110,105,116]] 62 59 false,og .pick [v 59,b true,v 62] 63 45 true,pk [v 45,v 63,b false] 64,m 64 65,mg (v 5) 66 65 false,og eq [v 66,n 1] 67 65 false,mg (v 67) 68 65 false,fg 1 2 69 68 true,lg 10002 69 70 68 true,og eq [v 70,s [65,114,114,97,121]] 71 68 true,mg (v 71) 72 68 true,fg 1 2 73 72 false,lg 10002 73 74 72 false,og eq [v 74,s [87,101,97,107]] 75 72 false,og .pick [v 72,b true,v 75] 76 68 true,og .pick [v 68,v 76,b false] 77 65 false,pk [v 65,b true,v 77] 78])
 (i 78 (q (r [mv (b false) 4])
 .ret) e))
 (q (r [m 5 79,o (.bin .leq) [v 79,n 3] 80,m 80 81,fg 1 2 82 81 true,lg 10002 82 83 81 true,og (.call ZbE false [] 1) [v 83] 84 81 true,pk [v 81,v 84,b false] 85,m 85 4])
 .ret)) (q (q (r [o eq [v 18,n 7] 87,m 87 86])
 (i 86 e (r [o eq [v 18,n 9] 88,m 88 86])))
 (i 86 (q (r [m 5 89,o eq [v 89,n 0] 90,m 90 91,fg 1 2 92 91 true,lg 10002 92 93 91 true,og (.call ZbE false [] 1) [v 93] 94 91 true,pk [v 91,v 94,b false] 95,m 95 4])
 .ret) (q (r [o eq [v 18,n 8] 97,m 97 96])
 (i 96 (q (r [m 5 98,o eq [v 98,n 1] 99,m 99 100,fg 3 2 101 100 true,lg 10002 101 102 100 true,og (.indexAddr 4) [v 102,n 0] 103 100 true,fg 0 103 104 100 true,og (.load none) [v 104] 105 100 true,og ne [v 105,n 10] 106 100 true,pk [v 100,v 106,b false] 107,m 107 108,fg 3 2 109 108 true,lg 10002 109 110 108 true,og (.indexAddr 4) [v 110,n 0] 111 108 true,fg 0 111 112 108 true,og (.load none) [v 112] 113 108 true,og ne [v 113,n 9] 114 108 true,pk [v 108,v 114,b false] 115,m 115 116,fg 1 2 117 116 true,lg 10002 117 118 116 true,og (.call ZbE false [] 1) [v 118] 119 116 true,pk [v 116,v 119,b false] 120,m 120 4])
 .ret) (q (r [o eq [v 18,n 10] 122,m 122 121])
 (i 121 (q (r [m 5 123,o ge [v 123,n 1] 124,m 124 125,mg (v 5) 126 125 true,og (.bin .leq) [v 126,n 7] 127 125 true,pk [v 125,v 127,b false] 128,m 128 129,fg 1 2 130 129 true,lg 10002 130 131 129 true,og eq [v 131,s []] 132 129 true,pk [v 129,v 132,b false] 133,m 133 4])
 .ret) (q (r [o eq [v 18,n 12] 135,m 135 134])
 (i 134 (q (r [m 1 136,m 136 137,mg (v 5) 138 137 true,og eq [v 138,n 0] 139 137 true,pk [v 137,v 139,b false] 140,m 140 141,fg 1 2 142 141 true,lg 10002 142 143 141 true,og eq [v 143,s []] 144 141 true,pk [v 141,v 144,b false] 145,m 145 146,fg 2 2 147 146 true,lg 10002 147 148 146 true,og ge [v 148,n 0] 149 146 true,pk [v 146,v 149,b false] 150,m 150 151,fg 2 2 152 151 true,lg 10002 152 153 151 true,og ls [v 153,n 40] 154 151 true,pk [v 151,v 154,b false] 155,m 155 4])
 .ret) e))))))))))))))))
 (q (r [mv (b false) 4])
 .ret)))))⟩
def ZkT:SFunc:=⟨2,[],[.tmp 4],
 (q (r [bx 10002 (v 0) 2,mv (b false) 4])
 (q (q (r [ln 10002 4 2 6,m 1 7,ca Zgr 2 [v 6,v 7] 8,nt 8 9])
 (i 9 (q (r [mv (b false) 4])
 .ret) e))
 (q (q (r [mv (n 0) 5])
 (k 0 (lo [1,2,5,9999,10002] (q (q (r [m 5 10,f 3 2 11,ld 10002 11 12,le 12 13,o ls [v 10,v 13] 14])
 (i 14 e (ex 0)))
 (q (k 1 (q (r [f 3 2 17,ld 10002 17 18,m 5 19,ix 4 18 (v 19) 20,ls2 4 20 21,m 1 22,ca ZgU 2 [v 21,v 22] 23,nt 23 24])
 (i 24 (q (r [mv (b false) 4])
 .ret) e)))
 (r [m 5 15,o ad [v 15,n 1] 16,m 16 5]))))))
 (q (r [mv (b true) 4])
 .ret))))⟩
def Zkz:SFunc:=⟨1,[],[.tmp 2],
 (q (r [bx 10001 (v 0) 1,mv (b false) 2])
 (q (r [ln 10001 4 1 3,ca Zbm 2 [v 3,n 40] 4,o (.bin .leq) [v 4,n 40] 5,m 5 6,og (.loadB 10001 (some 4)) [v 1,v 10001] 7 6 true,og (.call ZgU false [] 2) [v 7,b true] 8 6 true,pk [v 6,v 8,b false] 9,m 9 2])
 .ret))⟩
def Zey:SFunc:=⟨2,[],[.tmp 4],
 (q (r [bx 10002 (v 0) 2,mv (z 1) 4])
 (q (q (r [f 0 2 8,ld 10002 8 9,o eq [v 9,n 12] 10])
 (i 10 (q (r [mv (b false) 5])
 (q (q (r [mv (n 0) 6])
 (k 0 (lo [1,2,5,6,9999,10002] (q (q (r [m 6 11,m 1 12,le 12 13,o ls [v 11,v 13] 14])
 (i 14 e (ex 0)))
 (q (k 1 (.gh (.thaw 1 0 17000 1) (.hg (r [m 5 17,m 17 18,mg (v 1) 19 18 false,mg (v 6) 20 18 false,og (.indexAddr 1) [v 19,v 20] 21 18 false,lg 17000 21 22 18 false,fg 2 2 23 18 false,lg 10002 23 24 18 false,og eq [v 22,v 24] 25 18 false,pk [v 18,b true,v 25] 26,m 26 5]) (.shut 1 0 17000 1))))
 (r [m 6 15,o ad [v 15,n 1] 16,m 16 6]))))))
 (q (r [m 5 27,nt 27 28])
 (i 28 (r [mt 1 29,f 2 2 30,ld 10002 30 31,bs 1 [v 31] 32,⟨(.appendU 1),[v 29,v 32],[29],[33],none,true⟩,mt 33 1]) e)))) e))
 (q (q (r [mv (n 0) 7])
 (k 2 (lo [1,2,7,9999,10002] (q (q (r [m 7 34,f 3 2 35,ld 10002 35 36,le 36 37,o ls [v 34,v 37] 38])
 (i 38 e (ex 2)))
 (q (k 3 (r [f 3 2 41,ld 10002 41 42,m 7 43,ix 4 42 (v 43) 44,ls2 4 44 45,mt 1 46,cm Zcm 2 [v 45,v 46] 46 47,mt 47 1]))
 (r [m 7 39,o ad [v 39,n 1] 40,m 40 7]))))))
 (q (r [mt 1 48,mt 48 4])
 .ret))))⟩
def Zkr:SFunc:=⟨1,[true],[.tmp 2],
 (q (r [bx 10001 (v 0) 1,mv (z 1) 2])
 (q (r [ln 10001 4 1 6,ca Zcm 2 [v 6,.c (.uniq 1 [])] 7,mt 7 3])
 (q (q (r [mv (n 0) 4])
 (k 0 (lo [3,4,9999] (q (q (r [m 4 8,m 3 9,le 9 10,o ls [v 8,v 10] 11])
 (i 11 e (ex 0)))
 (q (k 1 (q (r [m 4 14,m 14 5])
 (k 2 (lo [3,4,5,9999] (q (q (.gh (.thaw 3 0 17000 1) (.hg (r [m 5 15,o gr [v 15,n 0] 16,m 16 17,mg (v 3) 18 17 true,mg (v 5) 19 17 true,og (.indexAddr 1) [v 18,v 19] 20 17 true,lg 17000 20 21 17 true,mg (v 3) 22 17 true,mg (v 5) 23 17 true,og sb [v 23,n 1] 24 17 true,og (.indexAddr 1) [v 22,v 24] 25 17 true,lg 17000 25 26 17 true,og ls [v 21,v 26] 27 17 true,pk [v 17,v 27,b false] 28]) (.shut 3 0 17000 1)))
 (i 28 e (ex 2)))
 (q (k 3 (.gh (.thaw 3 0 17000 1) (.hg (r [m 3 31,m 5 32,m 3 33,m 5 34,o sb [v 34,n 1] 35,m 3 36,m 5 37,o sb [v 37,n 1] 38,ix 1 36 (v 38) 39,ld 17000 39 40,m 3 41,m 5 42,ix 1 41 (v 42) 43,ld 17000 43 44,ix 1 31 (v 32) 45,st 17000 1 45 (v 40),ix 1 33 (v 35) 46,st 17000 1 46 (v 44)]) (.shut 3 0 17000 1))))
 (r [m 5 29,o sb [v 29,n 1] 30,m 30 5])))))))
 (r [m 4 12,o ad [v 12,n 1] 13,m 13 4]))))))
 (q (.gh (.pub 3 0) (r [mt 3 47,mt 47 2]))
 .ret))))⟩
def ZiT:SFunc:=⟨2,[],[.tmp 4],
 (q (r [bx 10002 (v 0) 2,mv (b false) 4])
 (q (q (r [ln 10002 4 2 6,ca Zje 1 [v 6] 7,nt 7 8])
 (i 8 (q (r [mv (b false) 4])
 .ret) e))
 (q (r [ln 10002 4 2 9,ca ZiZ 1 [v 9] 10,mt 10 5])
 (q (r [m 5 11,le 11 12,o eq [v 12,n 0] 13,m 13 14,mg (v 5) 15 14 false,⟨.mov,[v 5],[5],[16],some (14,false),true⟩,og .len [v 16] 17 14 false,og sb [v 17,n 1] 18 14 false,og (.indexAddr 1) [v 15,v 18] 19 14 false,og (.load none) [v 19] 20 14 false,mg (v 1) 21 14 false,og ls [v 20,v 21] 22 14 false,pk [v 14,b true,v 22] 23,m 23 4])
 .ret))))⟩
def ZfV:SFunc:=⟨2,[],[.tmp 4],
 (q (r [mv (b false) 4])
 (q (q (r [m 0 6,le 6 7,m 1 8,le 8 9,o ne [v 7,v 9] 10])
 (i 10 (q (r [mv (b false) 4])
 .ret) e))
 (q (q (r [mv (n 0) 5])
 (k 0 (lo [0,1,5,9999] (q (q (r [m 5 11,m 0 12,le 12 13,o ls [v 11,v 13] 14])
 (i 14 e (ex 0)))
 (q (k 1 (q (r [m 0 17,m 5 18,ix 4 17 (v 18) 19,ls2 4 19 20,m 1 21,m 5 22,ix 4 21 (v 22) 23,ls2 4 23 24,ca Zc7 2 [v 20,v 24] 25,nt 25 26])
 (i 26 (q (r [mv (b false) 4])
 .ret) e)))
 (r [m 5 15,o ad [v 15,n 1] 16,m 16 5]))))))
 (q (r [mv (b true) 4])
 .ret))))⟩
def Zht:SFunc:=⟨2,[],[.tmp 4],
 (q (r [bx 10002 (v 0) 2,bx 10003 (v 1) 3,mv (b false) 4])
 (q (r [f 0 2 5,ld 10002 5 6,f 0 3 7,ld 10003 7 8,o eq [v 6,v 8] 9,m 9 10,fg 1 2 11 10 true,lg 10002 11 12 10 true,fg 1 3 13 10 true,lg 10003 13 14 10 true,og eq [v 12,v 14] 15 10 true,pk [v 10,v 15,b false] 16,m 16 17,fg 2 2 18 17 true,lg 10002 18 19 17 true,fg 2 3 20 17 true,lg 10003 20 21 17 true,og eq [v 19,v 21] 22 17 true,pk [v 17,v 22,b false] 23,m 23 24,fg 3 2 25 24 true,lg 10002 25 26 24 true,fg 3 3 27 24 true,lg 10003 27 28 24 true,og (.call Zeo false [] 2) [v 26,v 28] 29 24 true,pk [v 24,v 29,b false] 30,m 30 4])
 .ret))⟩
def ZiS:SFunc:=⟨1,[],[.tmp 2],
 (q (r [bx 10001 (v 0) 1,mv (b false) 2])
 (q (r [ln 10001 4 1 3,bd zT [] [] 4,ca Zc7 2 [v 3,v 4] 5,m 5 2])
 .ret))⟩
def ZkL:SFunc:=⟨2,[],[.tmp 4],
 (q (r [bx 10002 (v 0) 2,mv (b false) 4])
 (q (q (r [f 1 2 5,ln 10002 4 5 6,m 1 7,ca Zfh 2 [v 6,v 7] 8,nt 8 9])
 (i 9 (q (r [mv (b false) 4])
 .ret) e))
 (q (q (r [f 0 2 10,ld 10002 10 11])
 (k 0 (q (q (r [o eq [v 11,n 1] 13,m 13 12])
 (i 12 e (q (r [o eq [v 11,n 2] 14,m 14 12])
 (i 12 e (r [o eq [v 11,n 5] 15,m 15 12])))))
 (i 12 (q (r [f 5 2 16,ln 10002 4 16 17,m 1 18,ca Zfh 2 [v 17,v 18] 19,m 19 20,fg 9 2 21 20 true,lg 10002 21 22 20 true,og eq [v 22,s []] 23 20 true,pk [v 20,v 23,b false] 24,m 24 4])
 .ret) (q (r [o eq [v 11,n 3] 26,m 26 25])
 (i 25 (q (r [f 5 2 27,ln 10002 4 27 28,ca Zfq 1 [v 28] 29,m 29 4])
 .ret) (q (r [o eq [v 11,n 4] 31,m 31 30])
 (i 30 (q (r [f 5 2 32,ln 10002 4 32 33,ca Zfq 1 [v 33] 34,m 34 35,fg 9 2 36 35 true,lg 10002 36 37 35 true,og eq [v 37,s []] 38 35 true,pk [v 35,v 38,b false] 39,m 39 4])
 .ret) e))))))))
 (q (r [mv (b false) 4])
 .ret))))⟩
def ZiQ:SFunc:=⟨1,[],[.tmp 2],
 (q (r [bx 10001 (v 0) 1,mv (b false) 2])
 (q (q (r [f 0 1 11,ld 10001 11 12,o ls [v 12,n 0] 13,m 13 14,fg 0 1 15 14 false,lg 10001 15 16 14 false,og gr [v 16,n 40] 17 14 false,pk [v 14,b true,v 17] 18,m 18 19,fg 2 1 20 19 false,lg 10001 20 21 19 false,og .len [v 21] 22 19 false,og gr [v 22,n 8] 23 19 false,pk [v 19,b true,v 23] 24,m 24 25,fg 1 1 26 25 false,lg 10001 26 27 25 false,og .len [v 27] 28 25 false,og gr [v 28,n 80] 29 25 false,pk [v 25,b true,v 29] 30])
 (i 30 (q (r [mv (b false) 2])
 .ret) e))
 (q (r [f 1 1 31,ld 10001 31 32,le 32 33,m 33 3])
 (q (q (r [mv (n 0) 4])
 (k 0 (lo [1,3,4,9999,10001] (q (q (r [m 4 34,f 2 1 35,ld 10001 35 36,le 36 37,o ls [v 34,v 37] 38])
 (i 38 e (ex 0)))
 (q (k 1 (q (q (r [f 2 1 41,ld 10001 41 42,m 4 43,ix 1 42 (v 43) 44,lp 44 45,le 45 46,o ls [v 46,n 1] 47,m 47 48,fg 2 1 49 48 false,lg 10001 49 50 48 false,mg (v 4) 51 48 false,og (.indexAddr 1) [v 50,v 51] 52 48 false,og (.load none) [v 52] 53 48 false,og .len [v 53] 54 48 false,og gr [v 54,n 6] 55 48 false,pk [v 48,b true,v 55] 56])
 (i 56 (q (r [mv (b false) 2])
 .ret) e))
 (q (r [mv (n 0) 5])
 (k 2 (lo [1,3,4,5,9999,10001] (q (q (r [m 5 57,f 2 1 58,ld 10001 58 59,m 4 60,ix 1 59 (v 60) 61,lp 61 62,le 62 63,o ls [v 57,v 63] 64])
 (i 64 e (ex 2)))
 (q (k 3 (q (r [f 2 1 67,ld 10001 67 68,m 4 69,ix 1 68 (v 69) 70,lp 70 71,m 5 72,ix 2 71 (v 72) 73,ls2 2 73 74,al 10006 [ct 10,ci 0] 6,su 10006 2 6 74])
 (q (q (r [f 1 6 75,ld 10006 75 76,o ls [v 76,n 0] 77,m 77 78,fg 1 6 79 78 false,lg 10006 79 80 78 false,og gr [v 80,n 9] 81 78 false,pk [v 78,b true,v 81] 82,m 82 83,fg 0 6 84 83 false,lg 10006 84 85 83 false,og .len [v 85] 86 83 false,mg (v 3) 87 83 false,og sb [n 80,v 87] 88 83 false,og gr [v 86,v 88] 89 83 false,pk [v 83,b true,v 89] 90])
 (i 90 (q (r [mv (b false) 2])
 .ret) e))
 (r [m 3 91,f 0 6 92,ld 10006 92 93,le 93 94,o ad [v 91,v 94] 95,m 95 3]))))
 (r [m 5 65,o ad [v 65,n 1] 66,m 66 5]))))))))
 (r [m 4 39,o ad [v 39,n 1] 40,m 40 4]))))))
 (q (q (r [mv (n 0) 7])
 (k 4 (lo [1,7,9999,10001] (q (q (r [m 7 96,f 1 1 97,ld 10001 97 98,le 98 99,o ls [v 96,v 99] 100])
 (i 100 e (ex 4)))
 (q (k 5 (q (r [f 1 1 103,ld 10001 103 104,m 7 105,ix 10 104 (v 105) 106,ls2 10 106 107,f 0 1 108,ld 10001 108 109,ca ZgV 2 [v 107,v 109] 110,nt 110 111])
 (i 111 (q (r [mv (b false) 2])
 .ret) e)))
 (r [m 7 101,o ad [v 101,n 1] 102,m 102 7]))))))
 (q (q (r [mv (n 0) 8])
 (k 6 (lo [1,8,9999,10001] (q (q (r [m 8 112,f 2 1 113,ld 10001 113 114,le 114 115,o ls [v 112,v 115] 116])
 (i 116 e (ex 6)))
 (q (k 7 (q (r [mv (n 0) 9])
 (k 8 (lo [1,8,9,9999,10001] (q (q (r [m 9 119,f 2 1 120,ld 10001 120 121,m 8 122,ix 1 121 (v 122) 123,lp 123 124,le 124 125,o ls [v 119,v 125] 126])
 (i 126 e (ex 8)))
 (q (k 9 (q (r [mv (n 0) 10])
 (k 10 (lo [1,8,9,10,9999,10001] (q (q (r [m 10 129,f 2 1 130,ld 10001 130 131,m 8 132,ix 1 131 (v 132) 133,lp 133 134,m 9 135,ix 2 134 (v 135) 136,f 0 136 137,lp 137 138,le 138 139,o ls [v 129,v 139] 140])
 (i 140 e (ex 10)))
 (q (k 11 (q (r [f 2 1 143,ld 10001 143 144,m 8 145,ix 1 144 (v 145) 146,lp 146 147,m 9 148,ix 2 147 (v 148) 149,f 0 149 150,lp 150 151,m 10 152,ix 10 151 (v 152) 153,ls2 10 153 154,f 0 1 155,ld 10001 155 156,ca ZgV 2 [v 154,v 156] 157,nt 157 158])
 (i 158 (q (r [mv (b false) 2])
 .ret) e)))
 (r [m 10 141,o ad [v 141,n 1] 142,m 142 10])))))))
 (r [m 9 127,o ad [v 127,n 1] 128,m 128 9])))))))
 (r [m 8 117,o ad [v 117,n 1] 118,m 118 8]))))))
 (q (r [mv (b true) 2])
 .ret)))))))⟩
def Zk6:SFunc:=⟨2,[true],[.tmp 4],
 (q (r [bx 10002 (v 0) 2,mv (z 10) 4])
 (q (r [bs 10 [] 7,f 1 2 8,ld 10002 8 9,ap 10 7 9 10,mt 10 5])
 (q (q (r [mv (n 0) 6])
 (k 0 (lo [1,2,5,6,9999,10002] (q (q (r [m 6 11,m 1 12,le 12 13,o ls [v 11,v 13] 14])
 (i 14 e (ex 0)))
 (q (k 1 (r [mt 5 17,f 2 2 18,ld 10002 18 19,m 6 20,ix 1 19 (v 20) 21,lp 21 22,m 1 23,m 6 24,ix 1 23 (v 24) 25,lp 25 26,ix 2 22 (v 26) 27,f 0 27 28,lp 28 29,ap 10 17 29 30,mt 30 5]))
 (r [m 6 15,o ad [v 15,n 1] 16,m 16 6]))))))
 (q (r [mt 5 31,mt 31 4])
 .ret))))⟩
def ZeC:SFunc:=⟨1,[],[.tmp 2],
 (q (r [bx 10001 (v 0) 1,mv (b false) 2])
 (q (r [f 0 1 3,ld 10001 3 4,o eq [v 4,n 2] 5,m 5 6,fg 0 1 7 6 false,lg 10001 7 8 6 false,og eq [v 8,n 4] 9 6 false,pk [v 6,b true,v 9] 10,m 10 2])
 .ret))⟩
def Zdf:SFunc:=⟨1,[],[.tmp 2],
 (q (r [mv (n 0) 2])
 (q (r [mv (n 0) 3])
 (q (q (r [mv (n 0) 4])
 (k 0 (lo [0,3,4,9999] (q (q (r [m 4 5,m 0 6,le 6 7,o ls [v 5,v 7] 8])
 (i 8 e (ex 0)))
 (q (k 1 (q (r [m 0 11,m 4 12,ix 10 11 (v 12) 13,ls2 10 13 14,ca Zdv 1 [v 14] 15])
 (i 15 (r [m 3 16,o ad [v 16,n 1] 17,m 17 3]) e)))
 (r [m 4 9,o ad [v 9,n 1] 10,m 10 4]))))))
 (q (r [m 3 18,m 18 2])
 .ret))))⟩
def ZeJ:SFunc:=⟨1,[],[.tmp 2],
 (q (r [mv (z 1) 2])
 (q (r [m 0 5,le 5 6,o (.makeSliceZ 1 [.int .i64 0]) [n 0,v 6] 7,mt 7 3])
 (q (q (r [mv (n 0) 4])
 (k 0 (lo [0,3,4,9999] (q (q (r [m 4 8,m 0 9,le 9 10,o ls [v 8,v 10] 11])
 (i 11 e (ex 0)))
 (q (k 1 (r [mt 3 14,m 0 15,m 4 16,ix 1 15 (v 16) 17,lp 17 18,bs 1 [v 18] 19,⟨(.appendU 1),[v 14,v 19],[14],[20],none,true⟩,mt 20 3]))
 (r [m 4 12,o ad [v 12,n 1] 13,m 13 4]))))))
 (q (r [mt 3 21,mt 21 2])
 .ret))))⟩
def ZiJ:SFunc:=⟨2,[],[.tmp 4,.tmp 5],
 (q (r [bx 10002 (v 0) 2,mv (z 1) 4,mv (b false) 5])
 (q (r [mt 1 8,ca Zdl 1 [v 8] 9,mt 9 6])
 (q (q (r [m 6 10,le 10 11,o sb [v 11,n 1] 12,m 12 7])
 (k 0 (lo [2,6,7,9999,10002] (q (q (r [m 7 13,o ge [v 13,n 0] 14])
 (i 14 e (ex 0)))
 (q (k 1 (q (q (.gh (.thaw 6 0 17000 1) (.hg (r [m 6 17,m 7 18,ix 1 17 (v 18) 19,ld 17000 19 20,o ad [v 20,n 1] 21,f 2 2 22,ld 10002 22 23,m 7 24,ix 1 23 (v 24) 25,lp 25 26,le 26 27,o ls [v 21,v 27] 28]) (.shut 6 0 17000 1)))
 (i 28 (q (.gh (.thaw 6 0 17000 1) (.hg (r [m 6 29,m 7 30,ix 1 29 (v 30) 31,ld 17000 31 32,o ad [v 32,n 1] 33,ix 1 29 (v 30) 34,st 17000 1 34 (v 33)]) (.shut 6 0 17000 1)))
 (q (.hg (r [mt 6 35,mt 35 4,mv (b true) 5]) (.pub 4 0))
 .ret)) e))
 (.gh (.thaw 6 0 17000 1) (.hg (r [m 6 36,m 7 37,ix 1 36 (v 37) 38,st 17000 1 38 (n 0)]) (.shut 6 0 17000 1)))))
 (r [m 7 15,o sb [v 15,n 1] 16,m 16 7]))))))
 (q (r [mv (z 1) 4,mv (b false) 5])
 .ret))))⟩
def Zco:SFunc:=⟨1,[],[.tmp 2,.tmp 3],
 (q (r [bx 10001 (v 0) 1,mv (n 0) 2,mv (n 0) 3])
 (q (q (r [ln 10001 3 1 8,ca Zeg 1 [v 8] 9,nt 9 10])
 (i 10 (q (r [mv (n 0) 2,mv (n 4) 3])
 .ret) e))
 (q (r [mv (n 0) 4])
 (q (.hg (r [f 2 1 11,ld 10001 11 12,le 12 13,o (.makeSliceZ 1 [.int .i64 0]) [v 13,v 13] 14,mt 14 5]) (.pub 5 0))
 (q (q (r [mv (b true) 6])
 (k 0 (lo [1,4,5,6,9999,10001] (q (q (r [m 6 15])
 (i 15 e (ex 0)))
 (k 1 (q (r [ln 10001 3 1 16,m 5 17,ca ZgP 2 [v 16,v 17] 18,ca Zby 1 [v 18] 19,m 19 7])
 (q (q (r [m 7 20,o gr [v 20,n 13] 21])
 (i 21 (q (r [mv (n 0) 2,mv (n 2) 3])
 .ret) e))
 (q (r [m 4 22,m 7 23,o (.conv .u64) [v 23] 24,o (.bin .shl) [n 1,v 24] 25,o ad [v 22,v 25] 26,m 26 4])
 (q (q (r [m 4 27,o gr [v 27,n 5000] 28])
 (i 28 (q (r [mv (n 0) 2,mv (n 2) 3])
 .ret) e))
 (r [ln 10001 3 1 30,mt 5 31,ca Zgn 2 [v 30,v 31] 32,mt 32 29,xt 0 29 33,x 1 29 34,mt 33 5,m 34 6]))))))))))
 (q (r [m 4 35,m 35 2,mv (n 0) 3])
 .ret))))))⟩
def Zc9:SFunc:=⟨2,[true,false],[.tmp 4,.tmp 5],
 (q (r [bx 10002 (v 0) 2,mv (z 10) 4,mv (b false) 5])
 (q (q (r [m 1 9,le 9 10,f 2 2 11,ld 10002 11 12,le 12 13,o ne [v 10,v 13] 14])
 (i 14 (q (r [mv (z 10) 4,mv (b false) 5])
 .ret) e))
 (q (r [f 1 2 15,ld 10002 15 16,ca ZaR 1 [v 16] 17,mt 17 6])
 (q (q (r [mt 1 18,le 18 19,mv (n 0) 20])
 (k 0 (lo [2,6,18,19,20,9999,10002] (q (r [o ls [v 20,v 19] 21])
 (q (i 21 e (ex 0))
 (q (k 1 (q (r [m 20 22,ix 1 18 (v 20) 23,lp 23 24,m 22 7,m 24 8])
 (q (q (r [m 8 25,o ls [v 25,n 0] 26,m 26 27,mg (v 8) 28 27 false,fg 2 2 29 27 false,lg 10002 29 30 27 false,mg (v 7) 31 27 false,og (.indexAddr 1) [v 30,v 31] 32 27 false,og (.load none) [v 32] 33 27 false,og .len [v 33] 34 27 false,og ge [v 28,v 34] 35 27 false,pk [v 27,b true,v 35] 36])
 (i 36 (q (r [mv (z 10) 4,mv (b false) 5])
 .ret) e))
 (r [mt 6 37,f 2 2 38,ld 10002 38 39,m 7 40,ix 1 39 (v 40) 41,lp 41 42,m 8 43,ix 2 42 (v 43) 44,f 0 44 45,lp 45 46,ap 10 37 46 47,mt 47 6]))))
 (r [o ad [v 20,n 1] 48,m 48 20])))))))
 (q (r [mt 6 49,mt 49 4,mv (b true) 5])
 .ret)))))⟩
def Zdm:SFunc:=⟨2,[],[.tmp 4,.tmp 5],
 (q (r [bx 10002 (v 0) 2,mv (n 0) 4,mv (n 0) 5])
 (q (q (r [ln 10002 3 2 8,ca ZbF 1 [v 8] 9,nt 9 10])
 (i 10 (q (r [mv (n 0) 4,mv (n 4) 5])
 .ret) e))
 (q (r [ln 10002 3 2 12,mt 1 13,ca Zca 2 [v 12,v 13] 14,mt 14 11,xt 0 11 15,x 1 11 16,mt 15 6,m 16 7])
 (q (q (r [m 7 17,nt 17 18])
 (i 18 (q (r [mv (n 0) 4,mv (n 1) 5])
 .ret) e))
 (q (r [mt 6 19,ca Zbk 1 [v 19] 20,m 20 4,mv (n 0) 5])
 .ret)))))⟩
def ZfL:SFunc:=⟨2,[],[.tmp 4],
 (q (r [bx 10002 (v 0) 2,mv (b false) 4])
 (q (q (r [m 1 6,le 6 7,f 2 2 8,ld 10002 8 9,le 9 10,o ne [v 7,v 10] 11])
 (i 11 (q (r [mv (b false) 4])
 .ret) e))
 (q (q (r [mv (n 0) 5])
 (k 0 (lo [1,2,5,9999,10002] (q (q (r [m 5 12,m 1 13,le 13 14,o ls [v 12,v 14] 15])
 (i 15 e (ex 0)))
 (q (k 1 (q (r [m 1 18,m 5 19,ix 1 18 (v 19) 20,lp 20 21,o ls [v 21,n 0] 22,m 22 23,mg (v 1) 24 23 false,mg (v 5) 25 23 false,og (.indexAddr 1) [v 24,v 25] 26 23 false,og (.load none) [v 26] 27 23 false,fg 2 2 28 23 false,lg 10002 28 29 23 false,mg (v 5) 30 23 false,og (.indexAddr 1) [v 29,v 30] 31 23 false,og (.load none) [v 31] 32 23 false,og .len [v 32] 33 23 false,og ge [v 27,v 33] 34 23 false,pk [v 23,b true,v 34] 35])
 (i 35 (q (r [mv (b false) 4])
 .ret) e)))
 (r [m 5 16,o ad [v 16,n 1] 17,m 17 5]))))))
 (q (r [mv (b true) 4])
 .ret))))⟩
def ZfT:SFunc:=⟨2,[],[.tmp 4,.tmp 5],
 (q (r [bx 10002 (v 0) 2,mv (n 0) 4,mv (n 0) 5])
 (q (q (r [ln 10002 3 2 6,ca Zeg 1 [v 6] 7,nt 7 8])
 (i 8 (q (r [mv (n 0) 4,mv (n 4) 5])
 .ret) e))
 (q (q (r [ln 10002 3 2 9,m 1 10,ca Zej 2 [v 9,v 10] 11,nt 11 12])
 (i 12 (q (r [mv (n 0) 4,mv (n 1) 5])
 .ret) e))
 (q (r [ln 10002 3 2 13,mt 1 14,ca ZgP 2 [v 13,v 14] 15,ca Zby 1 [v 15] 16,m 16 4,mv (n 0) 5])
 .ret))))⟩
def Zb1:SFunc:=⟨2,[],[.tmp 4],
 (q (r [bx 10002 (v 0) 2,mv (b false) 4])
 (q (q (r [ln 10002 3 2 13,ca ZcI 1 [v 13] 14])
 (i 14 (q (r [mv (b true) 4])
 .ret) e))
 (q (r [ln 10002 3 2 16,ca Za5 1 [v 16] 17,m 17 15,x 0 15 18,x 1 15 19,m 18 5,m 19 6])
 (q (r [ln 10002 3 2 21,ca Zbx 1 [v 21] 22,m 22 20,x 0 20 23,x 1 20 24,m 23 7,m 24 8])
 (q (r [ln 10002 3 2 26,m 1 27,ca Zb9 2 [v 26,v 27] 28,m 28 25,x 0 25 29,x 1 25 30,m 29 9,m 30 10])
 (q (r [ln 10002 3 2 32,mt 1 33,ca Zd3 2 [v 32,v 33] 34,m 34 31,x 0 31 35,x 1 31 36,m 35 11,m 36 12])
 (q (r [ln 10002 3 2 37,ca ZbF 1 [v 37] 38,ln 10002 3 2 39,ca Zeg 1 [v 39] 40,o (.binB .eql) [v 38,v 40] 41,m 41 42,mg (v 5) 43 42 true,mg (v 7) 44 42 true,og eq [v 43,v 44] 45 42 true,pk [v 42,v 45,b false] 46,m 46 47,mg (v 6) 48 47 true,mg (v 8) 49 47 true,og eq [v 48,v 49] 50 47 true,pk [v 47,v 50,b false] 51,m 51 52,mg (v 9) 53 52 true,mg (v 11) 54 52 true,og eq [v 53,v 54] 55 52 true,pk [v 52,v 55,b false] 56,m 56 57,mg (v 10) 58 57 true,mg (v 12) 59 57 true,og eq [v 58,v 59] 60 57 true,pk [v 57,v 60,b false] 61,m 61 62,og (.call ZdO false [] 0) [] 63 62 true,pk [v 62,v 63,b false] 64,m 64 4])
 .ret)))))))⟩
structure Has (S:Nat->Option Fn):Prop where
 Zm3:S ZbQ=some (.code ZdY)
 Zmy:S Zbm=some (.code ZdW)
 Znb:S ZbN=some (.code ZdG)
 ZmE:S ZcI=some (.code Zd1)
 ZgL:S Zcb=some (.code Zb6)
 ZjW:S Za3=some (.code ZcT)
 ZiY:S Zbt=some (.code Zcj)
 ZrY:S Zfb=some (.code Zhg)
 ZfX:S ZaV=some (.code Zbj)
 Zki:S ZaP=some (.code ZcR)
 ZoT:S Zda=some (.code ZeD)
 Zdh:S ZaO=some (.code ZaS)
 Zcx:S Zau=some (.code ZaE)
 Zkq:S Za9=some (.code Zdq)
 Zlf:S Zb3=some (.code Zdi)
 ZjZ:S Zbe=some (.code ZcQ)
 Zg3:S Za0=some (.code Zb5)
 Zjz:S Zdp=some (.code Zdd)
 ZmF:S ZcG=some (.code ZdR)
 ZpW:S Zel=some (.code ZfD)
 ZmS:S ZbO=some (.code ZdH)
 Zpl:S Zd8=some (.code ZfC)
 ZjO:S ZbJ=some (.code ZcP)
 ZdL:S ZaY=some (.code ZaX)
 ZcZ:S ZaJ=some (.code ZaI)
 Zm9:S ZbU=some (.code ZdE)
 ZmQ:S ZcK=some (.code ZdS)
 Zkv:S Zbu=some (.code Zdc)
 Zct:S Zaz=some (.code ZaA)
 ZbP:S Zap=some (.code Zav)
 ZnU:S ZbF=some (.code ZeK)
 ZjP:S ZbK=some (.code ZcS)
 ZmH:S Zbk=some (.code ZdD)
 ZmY:S ZbR=some (.code ZdX)
 Zgc:S Za5=some (.code Zbr)
 Zp4:S Zen=some (.code Zfs)
 Zsv:S Zfi=some (.code ZgF)
 Zuw:S Zgi=some (.code Zjb)
 ZnE:S ZbE=some (.code ZeA)
 Zuh:S Zgr=some (.code Zi2)
 Zw7:S ZgU=some (.code ZkT)
 ZxG:S Zje=some (.code Zkz)
 Zos:S Zcm=some (.code Zey)
 Zyp:S ZiZ=some (.code Zkr)
 ZuM:S Zfh=some (.code ZiT)
 Zp1:S Zeo=some (.code ZfV)
 Zsr:S Zc7=some (.code Zht)
 ZuH:S Zfq=some (.code ZiS)
 Zys:S ZgV=some (.code ZkL)
 ZtW:S Zeg=some (.code ZiQ)
 ZxQ:S ZgP=some (.code Zk6)
 ZnQ:S Zdv=some (.code ZeC)
 ZkR:S Zby=some (.code Zdf)
 Zot:S Zdl=some (.code ZeJ)
 Zt8:S Zgn=some (.code ZiJ)
 ZiX:S Zbx=some (.code Zco)
 ZkB:S Zca=some (.code Zc9)
 Zkp:S Zb9=some (.code Zdm)
 Zqb:S Zej=some (.code ZfL)
 Zp9:S Zd3=some (.code ZfT)
 ZhG:S Zbf=some (.code Zb1)
end Go.Am.Fe
end
