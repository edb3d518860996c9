/- Part. -/
import Derived.Test.YtnnimjficnjbdaaGreatDoorOaa
import GoSem.Core.Code
import GoSem.Core.View
set_option maxRecDepth 999999
set_option maxHeartbeats 0
set_option linter.all false
section
namespace Go.Am
inductive P where
 | int (k:IntKind) (n:Int)
 | bool (b:Bool)
 | str (s:List Nat)
 | sl (s:Nat) (rows:List (List P))
 deriving Inhabited
inductive MV where
 | one (x:P)
 | agg (xs:List P)
 deriving Inhabited
inductive MK where
 | one (k:Nat)
 | agg (ks:List Nat)
 deriving DecidableEq,Inhabited
structure R where
 own:Bool
 k:Nat
 off:Nat
 deriving DecidableEq,Inhabited
inductive C where
 | p (x:P)
 | tip (s:Nat) (rows:List (List P))
 | ref (r:R)
 | view (row:List P) (off:Nat)
 | clo (f:Nat) (first caps:List R)
 | nilp
 | uniq (s:Nat) (rows:List (List P))
 | own (r:R) (s n:Nat)
 | junk
 | hdr (n:Nat)
 | map (r:R) (es:List (P×P))
 | mptr (r:R)
 | mapc (es:List (MV×MV))
 | bytes (e:Nat) (t:List Nat)
 | mapl (es:List (Int×MV))
 | closs (f:Nat) (r:R)
 deriving Inhabited
def ZH1:List C->Bool
 | [.mapc _]=>true
 | [.mapl _]=>true
 | _=>false
inductive A where
 | one (c:C)
 | agg (cs:List C)
 deriving Inhabited
inductive D where
 | undef
 | a (x:A)
 | tup (xs:List A)
 | objs (os:List (List C))
 deriving Inhabited
abbrev Env:=List (Nat×D)
def Env.get:Env->Nat->D
 | [],_=> .undef
 | (k',d)::r,k=>if k'==k then d else Env.get r k
def Env.set (e:Env) (k:Nat) (d:D):Env:=(k,d)::e
def Env.sets (e:Env):List Nat->List D->Option Env
 | [],[]=>some e
 | k::ks,d::ds=>(e.set k d).sets ks ds
 | _,_=>none
def Env.norm (e:Env) (live:List Nat):Env:=live.map fun k=>(k,e.get k)
def ZeA:Nat:=68719476736
def A.cells:A->List C
 | .one c=>[c]
 | .agg cs=>cs
def C.plain:C->C
 | .tip s r=> .p (.sl s r)
 | .uniq _ rows=> .hdr rows.length
 | .bytes _ t=> .hdr t.length
 | .map r _=> .mptr r
 | c=>c
def A.plain:A->A
 | .one c=> .one c.plain
 | .agg cs=> .agg (cs.map C.plain)
def D.plain:D->D
 | .a x=> .a x.plain
 | .tup xs=> .tup (xs.map A.plain)
 | d=>d
def C.toP:C->Option P
 | .p x=>some x
 | .tip s r=>some (.sl s r)
 | _=>none
def toPs:List C->Option (List P)
 | []=>some []
 | c::r=>match c.toP,toPs r with
   | some x,some xs=>some (x::xs)
   | _,_=>none
def C.rows:C->Option (Nat×List (List P))
 | .p (.sl s r)=>some (s,r)
 | .tip s r=>some (s,r)
 | _=>none
def C.ment (κ:Nat):C->Bool
 | .ref r=>r.own && r.k==κ
 | .clo _ x y=>x.any (fun r=>r.own && r.k==κ)||y.any (fun r=>r.own && r.k==κ)
 | .own r _ _=>r.own && r.k==κ
 | .map r _=>r.own && r.k==κ
 | .mptr r=>r.own && r.k==κ
 | .closs _ r=>r.own && r.k==κ
 | _=>false
def A.ment (κ:Nat) (x:A):Bool:=x.cells.any (C.ment κ)
def D.ment (κ:Nat):D->Bool
 | .undef=>false
 | .a x=>x.ment κ
 | .tup xs=>xs.any (A.ment κ)
 | .objs os=>os.any (fun cs=>cs.any (C.ment κ))
def Env.kill (κ:Nat):Env->Env
 | []=>[]
 | (k,d)::r=>(k,if k==κ||d.ment κ then .undef else d)::Env.kill κ r
def Env.kills:List Nat->Env->Env
 | [],e=>e
 | κ::ks,e=>Env.kills ks (e.kill κ)
inductive Arg where
 | k (key:Nat)
 | c (c:C)
 deriving Inhabited
inductive K where
 | mov
 | pick
 | alloc (κ:Nat) (z:List C)
 | box (κ:Nat)
 | build (z:List C) (offs:List (Nat×Nat))
 | load (n:Option Nat)
 | loadB (κ:Nat) (n:Option Nat)
 | loadBT (κ:Nat) (n:Option Nat)
 | loadC (κ off:Nat)
 | loadO (n:Option Nat)
 | loadOT (n:Option Nat)
 | storeB (κ n:Nat)
 | storeO (n:Nat)
 | nilCheck
 | fieldAddr (off:Nat)
 | indexAddr (s:Nat)
 | indexS
 | bin (op:BinOp)
 | binB (op:BinOp)
 | neqS
 | not
 | neg
 | conv (k:IntKind)
 | convBS
 | buildSlice (s:Nat)
 | append (s:Nat)
 | len
 | lenS
 | min2
 | max2
 | slice (s:Nat) (lo hi mx:Bool)
 | sliceS (lo hi:Bool)
 | extract (i:Nat)
 | fieldV (off:Nat)
 | makeFunc (f:Nat) (first:Nat)
 | makeFuncS (f:Nat)
 | makeSlice (s:Nat)
 | makeSliceZ (s:Nat) (z:List P)
 | sliceU (s:Nat)
 | appendU (s:Nat)
 | makeMap (κ:Nat)
 | lookup (kk:Nat) (z:P)
 | update (kk:Nat)
 | makeMapX (κ:Nat)
 | lookupX (own:Option Nat) (ks:MK) (z:MV) (ok:Bool)
 | updateX (own:Option Nat) (ks:MK)
 | makeMapL (κ:Nat)
 | insL (κ:Nat) (n:Int)
 | lookupL (κ:Nat) (z:MV)
 | fail
 | call (f:Nat) (pass:Bool) (own:List Nat) (na:Nat)
 | callv (pass:Bool) (own:List Nat) (na:Nat)
 | callU (f:Nat) (κs:List Nat)
 deriving Inhabited
def K.creates:K->List Nat
 | .alloc κ _=>[κ]
 | .box κ=>[κ]
 | .makeMap κ=>[κ]
 | .makeMapX κ=>[κ]
 | .makeMapL κ=>[κ]
 | .callU _ κs=>κs
 | _=>[]
structure SOp where
 kind:K
 ins:List Arg
 takes:List Nat
 outs:List Nat
 guard:Option (Nat×Bool)
 dst:Bool
 deriving Inhabited
inductive Gh where
 | thaw (k i κ s:Nat)
 | shut (k i κ s:Nat)
 | pub (k i:Nat)
 deriving Inhabited
inductive SCode where
 | gh (g:Gh) (c:SCode)
 | hg (c:SCode) (g:Gh)
 | skip
 | region (ops:List SOp)
 | seq (a b:SCode)
 | cond (c:Arg) (a b:SCode)
 | block (id:Nat) (c:SCode)
 | loop (live:List Nat) (c:SCode)
 | exit (id:Nat)
 | ret
 deriving Inhabited
inductive Res where
 | tmp (k:Nat)
 | cell (t κ:Nat) (n:Option Nat)
 deriving Inhabited
structure SFunc where
 nargs:Nat
 pl:List Bool
 res:List Res
 code:SCode
 deriving Inhabited
def OBJS:Nat:=9999
def Zu0:Nat:=9998
def BOX:Nat:=10000
def C.held:C->Bool
 | .tip _ _=>true
 | .uniq _ _=>true
 | .bytes _ _=>true
 | .map _ _=>true
 | _=>false
def cut {α:Type} (l:List α) (off n:Nat):Option (List α):=
 if off+n<=l.length then some ((l.drop off).take n) else none
def put (l:List C) (off:Nat) (xs:List C):Option (List C):=
 if off+xs.length<=l.length then some (l.take off++xs++l.drop (off+xs.length)) else none
def ZsS (n:Option Nat) (cs:List C):Option A:=
 match n,cs with
 | none,[c]=>some (.one c)
 | none,_=>none
 | some _,cs=>some (.agg cs)
def Zfl:Option Nat->Nat
 | none=>1
 | some n=>n
def bytesLess:List Nat->List Nat->Bool
 | _,[]=>false
 | [],_::_=>true
 | a::x,b::y=>Nat.blt a b||(Nat.beq a b && bytesLess x y)
def eqS:List Nat->List Nat->Bool
 | [],[]=>true
 | a::x,b::y=>Nat.beq a b && eqS x y
 | _,_=>false
def shlP (k:IntKind) (x y:Int):Option P:=if y<0 then none else some (.int k (k.wrap (x*2 ^ (min y.toNat k.bits))))
def ZfP (op:BinOp) (k:IntKind) (x y:Int):Option P:=
 match op with
 | .shl=>shlP k x y
 | .add=>some (.int k (k.wrap (x+y)))
 | .sub=>some (.int k (k.wrap (x-y)))
 | .mul=>some (.int k (k.wrap (x*y)))
 | .quo=>if y=0 then none else some (.int k (k.wrap (x.tdiv y)))
 | .rem=>if y=0 then none else some (.int k (x.tmod y))
 | .and=>some (.int k (k.wrap (BitVec.ofInt k.bits x &&& BitVec.ofInt k.bits y).toNat))
 | .or=>some (.int k (k.wrap (BitVec.ofInt k.bits x|||BitVec.ofInt k.bits y).toNat))
 | .eql=>some (.bool (x==y))
 | .neq=>some (.bool (x !=y))
 | .lss=>some (.bool (x<y))
 | .leq=>some (.bool (x<=y))
 | .gtr=>some (.bool (x>y))
 | .geq=>some (.bool (x>=y))
 | _=>none
def Zl4 (op:BinOp) (x y:List Nat):Option P:=
 match op with
 | .add=>if x.length+y.length<ZeA then some (.str (x++y)) else none
 | .eql=>some (.bool (eqS x y))
 | .neq=>some (.bool (!eqS x y))
 | .lss=>some (.bool (bytesLess x y))
 | .leq=>some (.bool (bytesLess x y||eqS x y))
 | .gtr=>some (.bool (!(bytesLess x y||eqS x y)))
 | .geq=>some (.bool (!bytesLess x y))
 | _=>none
def pBin (op:BinOp):P->P->Option P
 | .int k x,.int k' y=>if k=k' then ZfP op k x y else if op== .shl then shlP k x y else none
 | .str x,.str y=>Zl4 op x y
 | _,_=>none
def one (x:P):D:= .a (.one (.p x))
def Zgu:List D->Option (List (List P))
 | []=>some []
 | .a x::r=>match toPs x.cells,Zgu r with
   | some row,some rows=>some (row::rows)
   | _,_=>none
 | _=>none
def Ze4 (z:List C):List (Nat×Nat)->List D->Option (List C)
 | [],[]=>some z
 | (o,n)::os,.a x::r=>if x.cells.length=n then (match put z o x.cells with
   | some z'=>Ze4 z' os r
   | none=>none) else none
 | _,_=>none
def ZhC:List (List P)->Option (List Nat)
 | []=>some []
 | [.int .u8 n]::r=>if 0<=n/\n<256 then (match ZhC r with
   | some s=>some (n.toNat::s)
   | none=>none) else none
 | _=>none
def Zme:List D->Option (Nat×List D)
 | .a (.one (.p (.int .i64 n)))::r=>if 0<=n then some (n.toNat,r) else none
 | _=>none
def ZbX (lo hi:Bool) (len:Nat) (ds:List D):Option (Nat×Nat×List D):=
 match (if lo then Zme ds else some (0,ds)) with
 | none=>none
 | some (l,r)=>
   match (if hi then Zme r else some (len,r)) with
   | none=>none
   | some (h,r')=>if l<=h/\h<=len then some (l,h,r') else none
def R.down (m:Option Nat) (own:List Nat) (r:R):Option R:=
 match r.own with
 | false=>if r.k<m.getD 0 then some r else none
 | true=>match own.idxOf? r.k with
   | some i=>some ⟨false,m.getD 0+i,r.off⟩
   | none=>none
def R.up (m:Option Nat) (own:List Nat) (r:R):Option R:=
 match r.own with
 | true=>none
 | false=>if r.k<m.getD 0 then some r else (own[r.k-m.getD 0]?).map fun κ=>⟨true,κ,r.off⟩
def C.mapR (φ:R->Option R):C->Option C
 | .closs f r=>(φ r).map (.closs f)
 | .ref r=>(φ r).map .ref
 | .own r s n=>match φ r with
   | some r'=>some (.own r' s n)
   | none=>some (.hdr n)
 | .mptr r=>match φ r with
   | some r'=>some (.mptr r')
   | none=>some .junk
 | .map r es=>match φ r with
   | some r'=>some (.map r' es)
   | none=>some .junk
 | .clo f first caps=>match first.mapM φ,caps.mapM φ with
   | some x,some y=>some (.clo f x y)
   | _,_=>none
 | c=>some c
def Zl9 (φ:R->Option R):List C->Option (List C)
 | []=>some []
 | c::r=>match c.mapR φ,Zl9 φ r with
   | some x,some xs=>some (x::xs)
   | _,_=>none
def A.mapR (φ:R->Option R):A->Option A
 | .one c=>(c.mapR φ).map .one
 | .agg cs=>(Zl9 φ cs).map .agg
def ZlP (φ:R->Option R):List A->Option (List A)
 | []=>some []
 | c::r=>match c.mapR φ,ZlP φ r with
   | some x,some xs=>some (x::xs)
   | _,_=>none
def Zmc (φ:R->Option R):List (List C)->Option (List (List C))
 | []=>some []
 | c::r=>match Zl9 φ c,Zmc φ r with
   | some x,some xs=>some (x::xs)
   | _,_=>none
def asOf:List D->Option (List A)
 | []=>some []
 | .a x::r=>(asOf r).map (x:: ·)
 | _=>none
def Zdf:List D->Option (List (List C))
 | []=>some []
 | .a (.agg cs)::r=>(Zdf r).map (cs:: ·)
 | _=>none
abbrev ZaQ:=Nat->List A->List (List C)->Option (List A×List (List C))
def resD:List A->D
 | [x]=> .a x
 | xs=> .tup xs
def ZcK:Bool->List D->Option (List (List C)×List D)
 | false,r=>some ([],r)
 | true,.objs os::r=>some (os,r)
 | true,_=>none
def ZfY (pass:Bool) (own:List Nat) (n k:Nat) (rs:List A) (os:List (List C)):Option (List D):=
 if os.length=k then
  match ZlP (R.up (some n) own) rs,Zmc (R.up (some n) own) os with
  | some rs',some os₂=>some (resD rs'::((if pass then [.objs (os₂.take n)] else [])++(os₂.drop n).map fun cs=> .a (.agg cs)))
  | _,_=>none
 else none
def ZsU (F:ZaQ) (f:Nat) (pass:Bool) (own:List Nat) (n:Nat) (args:List A) (os:List (List C)):Option (List D):=
 match F f args os with
 | some (rs,os')=>ZfY pass own n os.length rs os'
 | none=>none
def C.lone:C->C
 | .uniq _ rows=> .hdr rows.length
 | .bytes _ t=> .hdr t.length
 | .map r _=> .mptr r
 | c=>c
def A.lone:A->A
 | .one c=> .one c.lone
 | .agg cs=> .agg (cs.map C.lone)
def C.part:C->C
 | .map r _=> .mptr r
 | c=>c
def A.part:A->A
 | .one c=> .one c.part
 | .agg cs=> .agg (cs.map C.part)
def ZcU (F:ZaQ) (f:Nat) (pass:Bool) (own:List Nat) (args:List A) (rest:List D):Option (List D):=
 match ZcK pass rest with
 | none=>none
 | some (os,bs)=>
   match Zdf bs,ZlP (R.down (some os.length) own) (args.map A.part) with
   | some cs,some xs=>
     match Zmc (R.down (some os.length) own) ((os++cs).map fun l=>l.map C.part) with
     | none=>none
     | some os'=>ZsU F f pass own os.length xs os'
   | _,_=>none
def notM {α:Type} (cs:List C) (x:Option α):Option α:=match ZH1 cs with
 | true=>none
 | false=>x
theorem ZIK {α:Type} {cs:List C} {x:Option α} {y:α} (h:notM cs x=some y):ZH1 cs=false/\x=some y:=by
 unfold notM at h
 split at h
 ·cases h
 ·exact ⟨by assumption,h⟩
def UPB:Nat:=1000000000
def ZLH (κs:List Nat) (rs:List A):List (List C)->Option (List D)
 | []::[]=>match ZlP (R.up (some 0) []) rs with
   | some rs'=>some (resD rs'::κs.map fun _=> .undef)
   | none=>none
 | []::bs=>ZfY false κs 0 κs.length rs bs
 | _=>none
def ZKU (F:ZaQ) (f:Nat) (κs:List Nat) (args:List A):Option (List D):=
 match ZlP (R.down (some 0) []) (args.map A.lone) with
 | some xs=>match F (UPB+f) xs [] with
   | some (rs,os')=>ZLH κs rs os'
   | none=>none
 | none=>none
def ZbK (n:Option Nat) (cs:List C) (off:Nat):Option A:=
 notM cs (match cut cs off (Zfl n) with
 | some xs=>ZsS n xs
 | none=>none)
theorem ZJr {n:Option Nat} {cs:List C} {off:Nat} {x:A} (h:ZbK n cs off=some x):ZH1 cs=false:=(ZIK h).1
def putO (l:List C) (off:Nat) (xs:List C):Option (List C):=notM l (put l off xs)
theorem ZJZ {l xs l':List C} {off:Nat} (h:putO l off xs=some l'):ZH1 l=false/\put l off xs=some l':=ZIK h
theorem ZOk {cs:List C} {i:Nat} {c:C} (h:cs[i]? =some c) (hc: ∀es,c≠ .mapc es) (hl: ∀es,c≠ .mapl es):ZH1 cs=false:=by
 unfold ZH1
 split
 ·rename_i es
  cases i with
  | zero=>simp only [List.getElem?_cons_zero,Option.some.injEq] at h;exact absurd h.symm (hc es)
  | succ i=>simp at h
 ·rename_i es
  cases i with
  | zero=>simp only [List.getElem?_cons_zero,Option.some.injEq] at h;exact absurd h.symm (hl es)
  | succ i=>simp at h
 ·rfl
def ZbQ (n:Option Nat) (cs:List C) (off:Nat):List C:=
 cs.take off++((cs.drop off).take (Zfl n)).map C.plain++cs.drop (off+Zfl n)
def ZrX:List D->Option (List D)
 | [x]=>some [x]
 | _=>none
def ZqZ:List D->Option (List D)
 | [.a (.one (.p (.bool b))),x,y]=>some [if b then x else y]
 | _=>none
def ZnH (κ:Nat) (z:List C):List D->Option (List D)
 | []=>some [.a (.one (.ref ⟨true,κ,0⟩)),.a (.agg z)]
 | _=>none
def Ztb (κ:Nat):List D->Option (List D)
 | [.a x]=>some [.a (.one (.ref ⟨true,κ,0⟩)),.a (.agg x.cells)]
 | _=>none
def Zi4 (z:List C) (offs:List (Nat×Nat)) (xs:List D):Option (List D):=
 match Ze4 z offs xs with
 | some cs=>some [.a (.agg cs)]
 | none=>none
def Zof (n:Option Nat):List D->Option (List D)
 | [.a (.one (.view row off))]=>match cut row off (Zfl n) with
   | some xs=>match ZsS n (xs.map .p) with
     | some x=>some [.a x]
     | none=>none
   | none=>none
 | _=>none
def ZkR (κ:Nat) (n:Option Nat):List D->Option (List D)
 | [.a (.one (.ref ⟨true,κ',off⟩)),.a (.agg cs)]=>if κ'==κ then (match ZbK n cs off with
   | some x=>some [.a x.plain]
   | none=>none) else none
 | _=>none
def ZiZ (κ:Nat) (n:Option Nat):List D->Option (List D)
 | [.a (.one (.ref ⟨true,κ',off⟩)),.a (.agg cs)]=>if κ'==κ then (match ZbK n cs off with
   | some x=>some [.a x,.a (.agg (ZbQ n cs off))]
   | none=>none) else none
 | _=>none
def ZIu (κ off:Nat):List D->Option (List D)
 | [.a (.one (.ref ⟨true,κ',off'⟩)),.a (.agg cs)]=>if κ'==κ && off'==off then (match ZbK none cs off with
   | some x=>some [.a x,.a (.agg (ZbQ none cs off))]
   | none=>none) else none
 | _=>none
def Zk6 (n:Option Nat):List D->Option (List D)
 | [.a (.one (.ref ⟨false,k,off⟩)),.objs os]=>match os[k]? with
   | some cs=>match ZbK n cs off with
     | some x=>some [.a x.plain]
     | none=>none
   | none=>none
 | _=>none
def Zky (n:Option Nat):List D->Option (List D)
 | [.a (.one (.ref ⟨false,k,off⟩)),.objs os]=>match os[k]? with
   | some cs=>match ZbK n cs off with
     | some x=>some [.a x,.objs (os.set k (ZbQ n cs off))]
     | none=>none
   | none=>none
 | _=>none
def ZiJ (κ n:Nat):List D->Option (List D)
 | [.a (.one (.ref ⟨true,κ',off⟩)),.a x,.a (.agg cs)]=>if κ'==κ && x.cells.length==n then (match putO cs off x.cells with
   | some cs'=>some [.a (.agg cs')]
   | none=>none) else none
 | _=>none
def Zit (n:Nat):List D->Option (List D)
 | [.a (.one (.ref ⟨false,k,off⟩)),.a x,.objs os]=>if x.cells.length==n then (match os[k]? with
   | some cs=>match putO cs off x.cells with
     | some cs'=>some [.objs (os.set k cs')]
     | none=>none
   | none=>none) else none
 | _=>none
def Zhj:List D->Option (List D)
 | [.a (.one (.ref r))]=>some [.a (.one (.ref r))]
 | [.a (.one (.view row off))]=>some [.a (.one (.view row off))]
 | _=>none
def Zgl (o:Nat):List D->Option (List D)
 | [.a (.one (.ref r))]=>some [.a (.one (.ref ⟨r.own,r.k,r.off+o⟩))]
 | [.a (.one (.view row off))]=>some [.a (.one (.view row (off+o)))]
 | _=>none
def ZeU (s:Nat):List D->Option (List D)
 | [.a (.one (.own r s' m)),.a (.one (.p (.int .i64 n)))]=>if s'=s/\0<=n/\n<m then some [.a (.one (.ref ⟨r.own,r.k,r.off+n.toNat*s⟩))] else none
 | [.a (.one c),.a (.one (.p (.int .i64 n)))]=>match c.rows with
   | some (s',rows)=>if s'=s/\0<=n then (match rows[n.toNat]? with
     | some row=>some [.a (.one (.view row 0))]
     | none=>none) else none
   | none=>none
 | _=>none
def ZiQ:List D->Option (List D)
 | [.a (.one (.p (.str t))),.a (.one (.p (.int .i64 n)))]=>if 0<=n then (match t[n.toNat]? with
   | some b=>some [one (.int .u8 b)]
   | none=>none) else none
 | _=>none
def ZrW (op:BinOp):List D->Option (List D)
 | [.a (.one (.p x)),.a (.one (.p y))]=>match pBin op x y with
   | some z=>some [one z]
   | none=>none
 | _=>none
def Zqu (op:BinOp):List D->Option (List D)
 | [.a (.one (.p (.bool x))),.a (.one (.p (.bool y)))]=>match op with
   | .eql=>some [one (.bool (x==y))]
   | .neq=>some [one (.bool (x !=y))]
   | _=>none
 | _=>none
def ZNd:List D->Option (List D)
 | [.a (.agg [.p (.int k n),.p (.str s)]),.a (.agg [.p (.int k' n'),.p (.str s')])]=>if k=k' then some [one (.bool (n !=n'||s !=s'))] else none
 | _=>none
def Zuy:List D->Option (List D)
 | [.a (.one (.p (.bool b)))]=>some [one (.bool (!b))]
 | _=>none
def ZuC:List D->Option (List D)
 | [.a (.one (.p (.int k n)))]=>some [one (.int k (k.wrap (0-n)))]
 | _=>none
def ZqP (k:IntKind):List D->Option (List D)
 | [.a (.one (.p (.int _ n)))]=>some [one (.int k (k.wrap n))]
 | _=>none
def ZiX:List D->Option (List D)
 | [.a (.one c)]=>match c.rows with
   | some (1,rows)=>match ZhC rows with
     | some t=>some [one (.str t)]
     | none=>none
   | _=>none
 | _=>none
def ZdT (s:Nat) (xs:List D):Option (List D):=
 match Zgu xs with
 | some rows=>if rows.all (fun r=>r.length==s) then some [.a (.one (.tip s rows))] else none
 | none=>none
def ZiL (s:Nat):List D->Option (List D)
 | [.a (.one (.uniq s' rows)),.a (.one c)]=>match c.rows with
   | some (s'',more)=>if s'=s/\s''=s/\rows.length+more.length<ZeA then some [.a (.one (.uniq s (rows++more)))] else none
   | none=>none
 | _=>none
def Zg6 (s:Nat):List D->Option (List D)
 | [.a (.one (.tip s' rows)),.a (.one c)]=>match c.rows with
   | some (s'',more)=>if s'=s/\s''=s/\rows.length+more.length<ZeA then some [.a (.one (.tip s (rows++more)))] else none
   | none=>none
 | _=>none
def ZqI:List D->Option (List D)
 | [.a (.one (.p (.str t)))]=>some [one (.int .i64 t.length)]
 | _=>none
def ZtS:List D->Option (List D)
 | [.a (.one (.own _ _ n))]=>some [one (.int .i64 n)]
 | [.a (.one (.hdr n))]=>some [one (.int .i64 n)]
 | [.a (.one c)]=>match c.rows with
   | some (_,rows)=>some [one (.int .i64 rows.length)]
   | none=>none
 | _=>none
def Zst:List D->Option (List D)
 | [.a (.one (.p (.int k x))),.a (.one (.p (.int k' y)))]=>if k=k' then some [one (.int k (if y<x then y else x))] else none
 | _=>none
def Zsx:List D->Option (List D)
 | [.a (.one (.p (.int k x))),.a (.one (.p (.int k' y)))]=>if k=k' then some [one (.int k (if y>x then y else x))] else none
 | _=>none
def Zh5 (s:Nat) (lo hi mx:Bool):List D->Option (List D)
 | .a (.one c)::r=>match c.rows with
   | some (s',rows)=>if s'=s then (match ZbX lo hi rows.length r with
     | some (l,h,[])=>if mx then none else some [one (.sl s ((rows.take h).drop l))]
     | some (l,h,[.a (.one (.p (.int .i64 n)))])=>if mx/\(h:Int)<=n/\n<=rows.length then some [.a (.one (if (h:Int)=n then .tip s ((rows.take h).drop l) else .p (.sl s ((rows.take h).drop l))))] else none
     | _=>none) else none
   | none=>none
 | _=>none
def Zko (s:Nat):List D->Option (List D)
 | [.a (.one (.uniq s' rows)),.a (.one (.p (.int .i64 h)))]=>if s'=s/\0<=h/\h<=rows.length then some [.a (.one (.uniq s (rows.take h.toNat)))] else none
 | _=>none
def Zku (lo hi:Bool):List D->Option (List D)
 | .a (.one (.p (.str t)))::r=>match ZbX lo hi t.length r with
   | some (l,h,[])=>some [one (.str ((t.take h).drop l))]
   | _=>none
 | _=>none
def ZfI (i:Nat):List D->Option (List D)
 | [.tup xs]=>match xs[i]? with
   | some x=>some [.a x]
   | none=>none
 | _=>none
def ZJ1 (off:Nat):List D->Option (List D)
 | [.a (.agg cs)]=>match cs[off]? with
   | some (.p x)=>some [one x]
   | _=>none
 | _=>none
def Zfq:List D->Option (List R)
 | []=>some []
 | .a (.one (.ref r))::rest=>match Zfq rest with
   | some rs=>some (r::rs)
   | none=>none
 | _=>none
def Zhf (f first:Nat) (xs:List D):Option (List D):=
 match Zfq xs with
 | some rs=>some [.a (.one (.clo f (rs.take first) (rs.drop first)))]
 | none=>none
def ZH3 (f:Nat):List D->Option (List D)
 | [.a (.agg [.ref r])]=>some [.a (.one (.closs f r))]
 | _=>none
def Zgn (s:Nat):List D->Option (List D)
 | [.a (.one (.p (.int .i64 0))),.a (.one (.p (.int .i64 n)))]=>if 0<=n/\n<ZeA then some [.a (.one (.tip s []))] else none
 | _=>none
def Ze6 (s:Nat) (z:List P):List D->Option (List D)
 | [.a (.one (.p (.int .i64 n))),.a (.one (.p (.int .i64 m)))]=>if n<=m/\0<=n/\m<ZeA/\z.length=s then some [.a (.one (.uniq s (List.replicate n.toNat z)))] else none
 | _=>none
def ZuN:P->Nat
 | .str _=>0
 | .int _ _=>1
 | .bool _=>2
 | .sl _ _=>3
def peqK:P->P->Option Bool
 | .str a,.str b=>some (eqS a b)
 | .int k x,.int k' y=>if k=k' then some (x==y) else none
 | .bool a,.bool b=>some (a==b)
 | _,_=>none
def Zxz:List (P×P)->P->Nat->Option (Option (Nat×P))
 | [],_,_=>some none
 | (k',x)::r,k,i=>match peqK k k' with
   | some true=>some (some (i,x))
   | some false=>Zxz r k (i+1)
   | none=>none
def Ziu (κ:Nat):List D->Option (List D)
 | []=>some [.a (.one (.map ⟨true,κ,0⟩ []))]
 | _=>none
def Zkv (kk:Nat) (z:P):List D->Option (List D)
 | [.a (.one (.mptr r)),.a (.one (.p k)),.a (.one (.map r' es))]=>if r=r'/\ZuN k=kk then (match Zxz es k 0 with
   | some (some (_,x))=>some [one x,.a (.one (.map r' es))]
   | some none=>some [one z,.a (.one (.map r' es))]
   | none=>none) else none
 | _=>none
def Zkh (kk:Nat):List D->Option (List D)
 | [.a (.one (.mptr r)),.a (.one (.p k)),.a (.one (.p x)),.a (.one (.map r' es))]=>if r=r'/\ZuN k=kk then (match Zxz es k 0 with
   | some (some (j,_))=>some [.a (.one (.map r' (es.set j (k,x))))]
   | some none=>some [.a (.one (.map r' (es++[(k,x)])))]
   | none=>none) else none
 | _=>none
def mvOf:A->Option MV
 | .one c=>c.toP.map .one
 | .agg cs=>(toPs cs).map .agg
def MV.a:MV->A
 | .one x=> .one (.p x)
 | .agg xs=> .agg (xs.map .p)
def MV.kind:MV->MK
 | .one x=> .one (ZuN x)
 | .agg xs=> .agg (xs.map ZuN)
def ZM9:List P->List P->Option Bool
 | [],[]=>some true
 | x::xs,y::ys=>match peqK x y with
   | some true=>ZM9 xs ys
   | some false=>some false
   | none=>none
 | _,_=>none
def peqV:MV->MV->Option Bool
 | .one x,.one y=>peqK x y
 | .agg xs,.agg ys=>ZM9 xs ys
 | _,_=>none
def ZLf:List (MV×MV)->MV->Nat->Option (Option (Nat×MV))
 | [],_,_=>some none
 | e::r,k,i=>match peqV k e.1 with
   | some true=>some (some (i,e.2))
   | some false=>ZLf r k (i+1)
   | none=>none
def ZN5:List C->Option (List (MV×MV))
 | [.mapc es]=>some es
 | _=>none
def ZLq:Option Nat->R->D->Option (List (MV×MV))
 | some κ,r,.a (.agg cs)=>if r.own && r.k==κ then ZN5 cs else none
 | none,r,.objs os=>if r.own then none else match os[r.k]? with
   | some cs=>ZN5 cs
   | none=>none
 | _,_,_=>none
def ZMO:Option Nat->R->D->List (MV×MV)->Option D
 | some _,_,.a (.agg _),es=>some (.a (.agg [.mapc es]))
 | none,r,.objs os,es=>some (.objs (os.set r.k [.mapc es]))
 | _,_,_,_=>none
def ZOz (z:MV):Option (Nat×MV)->MV
 | some x=>x.2
 | none=>z
def ZQk (z:MV) (ok:Bool) (r:Option (Nat×MV)):D:=match ok with
 | true=> .tup [(ZOz z r).a,.one (.p (.bool r.isSome))]
 | false=> .a (ZOz z r).a
def ZIj (κ:Nat):List D->Option (List D)
 | []=>some [.a (.one (.mptr ⟨true,κ,0⟩)),.a (.agg [.mapc []])]
 | _=>none
def ZJh (own:Option Nat) (ks:MK) (z:MV) (ok:Bool):List D->Option (List D)
 | [.a (.one (.mptr r)),.a x,m]=>match ZLq own r m,mvOf x with
   | some es,some k=>if k.kind=ks then (match ZLf es k 0 with
     | some r=>some [ZQk z ok r]
     | none=>none) else none
   | _,_=>none
 | _=>none
def putE (es:List (MV×MV)) (k x:MV):Option (Nat×MV)->List (MV×MV)
 | some (j,_)=>es.set j (k,x)
 | none=>es++[(k,x)]
def ZJa (own:Option Nat) (ks:MK):List D->Option (List D)
 | [.a (.one (.mptr r)),.a x,.a y,m]=>match ZLq own r m,mvOf x,mvOf y with
   | some es,some k,some v=>if k.kind=ks then (match ZLf es k 0 with
     | some q=>(match ZMO own r m (putE es k v q) with
       | some m'=>some [m']
       | none=>none)
     | none=>none) else none
   | _,_,_=>none
 | _=>none
def insE (n:Int) (v:MV):List (Int×MV)->List (Int×MV)
 | []=>[(n,v)]
 | e::r=>if n<e.1 then (n,v)::e::r else e::insE n v r
def ZKE (n:Int):List (Int×MV)->Option MV
 | []=>none
 | e::r=>if n=e.1 then some e.2 else ZKE n r
def ZIw (κ:Nat):List D->Option (List D)
 | []=>some [.a (.one (.mptr ⟨true,κ,0⟩)),.a (.agg [.mapl []])]
 | _=>none
def ZI8 (κ:Nat) (n:Int):List D->Option (List D)
 | [.a (.one (.mptr ⟨true,κ',_⟩)),.a x,.a (.agg [.mapl es])]=>match mvOf x with
   | some v=>if κ'==κ && es.all (fun e=> !(e.1==n)) then some [.a (.agg [.mapl (insE n v es)])] else none
   | none=>none
 | _=>none
def ZJe (κ:Nat) (z:MV):List D->Option (List D)
 | [.a (.one (.mptr ⟨true,κ',_⟩)),.a (.one (.p (.int .i64 n))),.a (.agg [.mapl es])]=>if κ'==κ then some [.a ((ZKE n es).getD z).a] else none
 | _=>none
def Zj7 (F:ZaQ) (f:Nat) (pass:Bool) (own:List Nat) (na:Nat) (xs:List D):Option (List D):=
 match asOf (xs.take na) with
 | some args=>ZcU F f pass own args (xs.drop na)
 | none=>none
def Zju (F:ZaQ) (pass:Bool) (own:List Nat) (na:Nat):List D->Option (List D)
 | .a (.one (.clo f first caps))::xs=>match asOf (xs.take na) with
   | some args=>ZcU F f pass own (first.map (fun r=> .one (.ref r))++args++caps.map fun r=> .one (.ref r)) (xs.drop na)
   | none=>none
 | .a (.one (.closs f r))::xs=>match asOf (xs.take na) with
   | some args=>ZcU F f pass own (.agg [.ref r]::args) (xs.drop na)
   | none=>none
 | _=>none
def ZIk (F:ZaQ) (f:Nat) (κs:List Nat) (xs:List D):Option (List D):=
 match asOf xs with
 | some args=>ZKU F f κs args
 | none=>none
def ZaI (F:ZaQ):K->List D->Option (List D)
 | .mov=>ZrX
 | .pick=>ZqZ
 | .alloc κ z=>ZnH κ z
 | .box κ=>Ztb κ
 | .build z offs=>Zi4 z offs
 | .load n=>Zof n
 | .loadB κ n=>ZkR κ n
 | .loadBT κ n=>ZiZ κ n
 | .loadC κ off=>ZIu κ off
 | .loadO n=>Zk6 n
 | .loadOT n=>Zky n
 | .storeB κ n=>ZiJ κ n
 | .storeO n=>Zit n
 | .nilCheck=>Zhj
 | .fieldAddr o=>Zgl o
 | .indexAddr s=>ZeU s
 | .indexS=>ZiQ
 | .bin op=>ZrW op
 | .binB op=>Zqu op
 | .neqS=>ZNd
 | .not=>Zuy
 | .neg=>ZuC
 | .conv k=>ZqP k
 | .convBS=>ZiX
 | .buildSlice s=>ZdT s
 | .append s=>Zg6 s
 | .len=>ZtS
 | .lenS=>ZqI
 | .min2=>Zst
 | .max2=>Zsx
 | .slice s lo hi mx=>Zh5 s lo hi mx
 | .sliceS lo hi=>Zku lo hi
 | .extract i=>ZfI i
 | .fieldV off=>ZJ1 off
 | .makeFunc f first=>Zhf f first
 | .makeFuncS f=>ZH3 f
 | .makeSlice s=>Zgn s
 | .makeSliceZ s z=>Ze6 s z
 | .sliceU s=>Zko s
 | .appendU s=>ZiL s
 | .makeMap κ=>Ziu κ
 | .lookup kk z=>Zkv kk z
 | .update kk=>Zkh kk
 | .makeMapX κ=>ZIj κ
 | .lookupX own ks z ok=>ZJh own ks z ok
 | .updateX own ks=>ZJa own ks
 | .makeMapL κ=>ZIw κ
 | .insL κ n=>ZI8 κ n
 | .lookupL κ z=>ZJe κ z
 | .fail=>fun _=>none
 | .call f pass own na=>Zj7 F f pass own na
 | .callv pass own na=>Zju F pass own na
 | .callU f κs=>ZIk F f κs
def Zbl (e:Env) (takes:List Nat):Arg->D
 | .k n=>if takes.elem n then e.get n else (e.get n).plain
 | .c c=> .a (.one c)
def ZaA (e:Env):List Nat->Env
 | []=>e
 | k::ks=>ZaA (e.set k (e.get k).plain) ks
def doOp (F:ZaQ) (o:SOp) (e:Env):Option Env:=
 match ZaI F o.kind (o.ins.map (Zbl e o.takes)) with
 | none=>none
 | some ds=>(ZaA e o.takes).sets o.outs ds
def ZdW (o:SOp) (e:Env):Env:=
 match o.dst,o.outs with
 | true,k::_=>e.set k (.tup [])
 | _,_=>e
def ZaT (F:ZaQ) (o:SOp) (e:Env):Option Env:=
 match o.guard with
 | none=>doOp F o e
 | some (g,want)=>match e.get g with
   | .a (.one (.p (.bool b)))=>if b==want then doOp F o e else some (ZdW o e)
   | .tup []=>some (ZdW o e)
   | _=>none
def Zdo (F:ZaQ):List SOp->Env->Option Env
 | [],e=>some e
 | o::os,e=>match ZaT F o e with
   | some e'=>Zdo F os e'
   | none=>none
inductive X where
 | normal
 | exit (id:Nat)
 | ret
 deriving DecidableEq,Inhabited
def enter:Nat->List A->List (Nat×D)
 | _,[]=>[]
 | k,x::xs=>(k,.a x)::enter (k+1) xs
def Res.get (e:Env):Res->Option A
 | .tmp k=>match e.get k with| .a x=>some x|_=>none
 | .cell t κ n=>match e.get t,e.get κ with
   | .a (.one (.ref ⟨true,κ',0⟩)),.a (.agg cs)=>if κ'==κ then ZbK n cs 0 else none
   | _,_=>none
def Res.key:Res->Nat
 | .tmp k=>k
 | .cell _ κ _=>κ
def ZpM (e:Env):List Res->Option (List A)
 | []=>some []
 | r::rs=>match r.get e,ZpM e rs with
   | some x,some xs=>some (x::xs)
   | _,_=>none
def C.clean:C->Bool
 | .ref r=> !r.own
 | .own r _ _=> !r.own
 | .mptr r=> !r.own
 | .closs _ r=> !r.own
 | .map r _=> !r.own
 | .clo _ first caps=>first.all (fun r=> !r.own) && caps.all (fun r=> !r.own)
 | _=>true
def A.clean (x:A):Bool:=x.cells.all C.clean
inductive Fn where
 | code (f:SFunc)
 | prim (g:List A->List (List C)->Option (List A×List (List C)))
def Zks:List Bool->List A->List A
 | b::bs,x::xs=>(if b then x.plain else x)::Zks bs xs
 | _,xs=>xs
def R.ownKey (r:R):List Nat:=if r.own then [r.k] else []
def C.keys:C->List Nat
 | .ref r=>r.ownKey
 | .own r _ _=>r.ownKey
 | .mptr r=>r.ownKey
 | _=>[]
def A.keys (x:A):List Nat:=x.cells.flatMap C.keys
def D.keys:D->List Nat
 | .a x=>x.keys
 | _=>[]
def ZQW (e:Env) (rs:List A):List Nat:=
 let k0:=(rs.flatMap A.keys).eraseDups
 (k0++k0.flatMap fun κ=>(e.get κ).keys).eraseDups
def R.out (κs:List Nat) (r:R):Option R:=
 match r.own with
 | true=>(κs.idxOf? r.k).map fun i=>⟨false,i,r.off⟩
 | false=>none
def ZLi (κs:List Nat) (f:SFunc) (e:Env) (rs:List A):Option (List A×List (List C)):=
 match Zdf (κs.map e.get),ZlP (R.out κs) rs with
 | some cs,some rs'=>match Zmc (R.out κs) cs with
   | some os'=>if κs.all (fun κ=>Nat.ble BOX κ && !f.res.any fun r=>r.key==κ) && decide κs.Nodup then some (Zks f.pl rs',[]::os') else none
   | none=>none
 | _,_=>none
def ZKC (f:SFunc) (e:Env):Option (List A×List (List C)):=
 match ZpM e f.res with
 | some rs=>ZLi (ZQW e rs) f e rs
 | none=>none
def ZrS (f:SFunc) (e:Env):Option (List A×List (List C)):=
 match ZpM e f.res,e.get OBJS with
 | some rs,.objs os=>if rs.all A.clean && os.all (fun cs=>cs.all C.clean) then some (Zks f.pl rs,os) else none
 | _,_=>none
def upBy (S:Nat->Option Fn) (ex:SCode->Env->Option (X×Env)) (f:Nat) (args:List A):Option (List A×List (List C)):=
 match S f with
 | some (.code F)=>
   if args.length=F.nargs then
     match ex F.code (enter 0 args++[(OBJS,.objs [])]) with
     | some (.normal,e)=>ZKC F e
     | some (.ret,e)=>ZKC F e
     | _=>none
   else none
 | _=>none
def Zja (S:Nat->Option Fn) (ex:SCode->Env->Option (X×Env)):ZaQ:=fun f args os=>
 match S f with
 | some (.code F)=>
   if args.length=F.nargs then
     match ex F.code (enter 0 args++[(OBJS,.objs os)]) with
     | some (.normal,e)=>ZrS F e
     | some (.ret,e)=>ZrS F e
     | _=>none
   else none
 | some (.prim g)=>g args os
 | none=>if Nat.ble UPB f && os.isEmpty then upBy S ex (Nat.sub f UPB) args else none
def A.setCell:A->Nat->C->A
 | .one _,_,c=> .one c
 | .agg cs,i,c=> .agg (cs.set i c)
def Zo0 (s:Nat):Nat->List P->List (List P)
 | 0,_=>[]
 | n+1,l=>l.take s::Zo0 s n (l.drop s)
def ZrT (k:Nat):Bool:=Nat.blt k Zu0||Nat.ble BOX k
def Zpk (k i κ s:Nat) (e:Env):D->Env
 | .a x=>match x.cells[i]? with
   | some (.uniq s' (r::rows))=>if s'==s && Nat.blt 0 s then (e.set k (.a (x.setCell i (.own ⟨true,κ,0⟩ s (rows.length+1))))).set κ (.a (.agg ((r::rows).flatten.map .p))) else e
   | _=>e
 | _=>e
def Zqs (k i κ s:Nat) (e:Env):D->D->Env
 | .a x,.a (.agg cs)=>match x.cells[i]? with
   | some (.own ⟨true,κ',0⟩ s' n)=>if κ'==κ && s'==s && Nat.ble (n*s) cs.length then (match toPs (cs.take (n*s)) with
     | some ps=>(e.set κ .undef).set k (.a (x.setCell i (.uniq s (Zo0 s n ps))))
     | none=>e) else e
   | _=>e
 | _,_=>e
def pubG (k i:Nat) (e:Env):D->Env
 | .a x=>match x.cells[i]? with
   | some (.uniq s rows)=>e.set k (.a (x.setCell i (.tip s rows)))
   | _=>e
 | _=>e
def doGh:Gh->Env->Env
 | .thaw k i κ s,e=>if ZrT k && Nat.ble BOX κ && k !=κ then Zpk k i κ s (e.kill κ) ((e.kill κ).get k) else e
 | .shut k i κ s,e=>if ZrT k && Nat.ble BOX κ && k !=κ then Zqs k i κ s e (e.get k) (e.get κ) else e
 | .pub k i,e=>if ZrT k then pubG k i e (e.get k) else e
def exec (S:Nat->Option Fn):Nat->SCode->Env->Option (X×Env)
 | 0,_,_=>none
 | n+1,c,e=>match c with
   | .gh g c=>exec S n c (doGh g e)
   | .hg c g=>match exec S n c e with
     | some (.normal,e')=>some (.normal,doGh g e')
     | r=>r
   | .skip=>some (.normal,e)
   | .region ops=>match Zdo (Zja S (exec S n)) ops (e.kills (ops.flatMap fun o=>o.kind.creates)) with
     | some e'=>some (.normal,e')
     | none=>none
   | .seq a b=>match exec S n a e with
     | some (.normal,e')=>exec S n b e'
     | r=>r
   | .cond x a b=>match Zbl e [] x with
     | .a (.one (.p (.bool t)))=>exec S n (if t then a else b) e
     | _=>none
   | .block id b=>match exec S n b e with
     | some (.exit i,e')=>if i==id then some (.normal,e') else some (.exit i,e')
     | r=>r
   | .loop live b=>match exec S n b (e.norm live) with
     | some (.normal,e')=>exec S n (.loop live b) e'
     | r=>r
   | .exit id=>some (.exit id,e)
   | .ret=>some (.ret,e)
def call (S:Nat->Option Fn) (n:Nat):ZaQ:=Zja S (exec S n)
def K.isCall:K->Bool
 | .call .. =>true
 | .callv .. =>true
 | .callU .. =>true
 | _=>false
end Go.Am
theorem Zx3 : (∀ (p : Prop) [Decidable p], (decide p = true) = p) ∧ (∀ (p : Prop) [Decidable p], (decide p = false) ↔ ¬p) := ⟨fun _ _ => decide_eq_true_eq, fun _ _ => decide_eq_false_iff_not⟩
theorem Zx1.{u, v} : ((∀ (p : Prop) [Decidable p], (decide p = true) = p) ∧ (∀ (p : Prop) [Decidable p], (decide p = false) ↔ ¬p)) ∧ (∀ (α : Type u) [BEq α] [LawfulBEq α] (a b : α), (a != b) = true ↔ a ≠ b) ∧ (∀ (α : Sort v) (a b : α), (a ≠ b) = ¬(a = b)) ∧ (∀ b : Bool, ((!b) = true) = (b = false)) ∧ (∀ b : Bool, ((!b) = false) = (b = true)) ∧ (∀ (p : Prop) [Decidable p], ¬¬p ↔ p) :=
  ⟨Zx3, fun _ _ _ _ _ => bne_iff_ne, fun _ _ _ => rfl, Bool.not_eq_true', Bool.not_eq_false', fun _ _ => Decidable.not_not⟩
theorem Zx4.{u, v} : ((∀ (p : Prop) [Decidable p], (decide p = true) = p) ∧ (∀ (p : Prop) [Decidable p], (decide p = false) ↔ ¬p)) ∧ (∀ (α : Type u) [BEq α] [LawfulBEq α] (a b : α), (a != b) = true ↔ a ≠ b) ∧ (∀ (α : Sort v) (a b : α), (a ≠ b) = ¬(a = b)) ∧ (∀ b : Bool, ((!b) = true) = (b = false)) ∧ (∀ (p : Prop) [Decidable p], ¬¬p ↔ p) :=
  ⟨Zx3, fun _ _ _ _ _ => bne_iff_ne, fun _ _ _ => rfl, Bool.not_eq_true', fun _ _ => Decidable.not_not⟩
theorem Zx2.{u} : (∀ (α : Type u) (a : α) (l : List α), (a :: l).length = l.length + 1) ∧ (∀ (α : Type u), ([] : List α).length = 0) ∧ (∀ (α : Type u) (a b : List α), (a ++ b).length = a.length + b.length) ∧ (∀ (α : Type u) (l : List α), l.tail.length = l.length - 1) ∧ (∀ (α : Type u) (i : Nat) (l : List α), (l.drop i).length = l.length - i) :=
  ⟨fun _ _ _ => List.length_cons, fun _ => List.length_nil, fun _ _ _ => List.length_append, fun _ _ => List.length_tail, fun _ _ _ => List.length_drop⟩
theorem Yx7 : ((∀ (p : Prop) [Decidable p], (decide p = true) = p) ∧ (∀ (p : Prop) [Decidable p], (decide p = false) ↔ ¬p)) ∧ (∀ b : Bool, ((!b) = true) = (b = false)) ∧ (∀ (p : Prop) [Decidable p], ¬¬p ↔ p) :=
  ⟨Zx3, Bool.not_eq_true', fun _ _ => Decidable.not_not⟩
theorem Yx8 : (((∀ (p : Prop) [Decidable p], (decide p = true) = p) ∧ (∀ (p : Prop) [Decidable p], (decide p = false) ↔ ¬p)) ∧ (∀ b : Bool, ((!b) = true) = (b = false)) ∧ (∀ (p : Prop) [Decidable p], ¬¬p ↔ p)) ∧ (∀ b : Bool, ((!b) = false) = (b = true)) :=
  ⟨Yx7, Bool.not_eq_false'⟩
theorem Zx5.{u} : (∀ (α : Type u) (a b : α), (some a = some b) = (a = b)) ∧ ∀ (α : Type u) (a b : α) (l m : List α), (a :: l = b :: m) = (a = b ∧ l = m) := ⟨fun _ _ _ => Option.some.injEq _ _, fun _ _ _ _ _ => List.cons.injEq _ _ _ _⟩
theorem Zo {p : Prop} (h : p := by omega) : p := h
theorem Zm {p : Prop} (h : p := by dsimp only; omega) : p := h
theorem Ze {p : Prop} (h : p := by simp; omega) : p := h
theorem Za {p : Prop} (h : p := by assumption) : p := h
theorem Zd {p : Prop} (h : p := by decide) : p := h
theorem Zs {p : Prop} (h : p := by simp) : p := h
abbrev LN:=List Nat
namespace Go.Am
abbrev LP:=List (List P)
abbrev LC:=List C
abbrev P.i (x:Int):P:= .int .i64 x
abbrev C.i (x:Int):C:= .p (.int .i64 x)
abbrev C.s (x:List Nat):C:= .p (.str x)
abbrev C.l (n:Nat) (x:List (List P)):C:= .p (.sl n x)
end Go.Am
abbrev Ya:=@List.getElem?_eq_getElem
abbrev Yb:=@Bool.and_eq_true
abbrev Yc:=@Nat.le_refl
abbrev Yd:=@Nat.zero_le
abbrev Ye:=@Option.some.injEq
abbrev Yf:=@List.cons.injEq
abbrev Yg:=@List.take_of_length_le
abbrev Yh:=@List.length_map
abbrev Yi:=@List.getElem?_cons_zero
abbrev Yj:=@List.getElem?_cons_succ
abbrev Yk:=@List.mem_cons_of_mem
abbrev Yl:=@List.getElem_mem
abbrev Ym:=@List.take_add_one
abbrev Yn:=@List.getElem?_map
abbrev Yo:=@List.getElem?_append_right
abbrev Yp:=@List.map_cons
abbrev Yq:=@Nat.lt_of_lt_of_le
abbrev Yr:=@List.mem_cons_self
abbrev Ys:=@List.mem_append
abbrev Yt:=@Nat.lt_or_ge
abbrev Yu:=@List.append_assoc
abbrev Yv:=@List.mem_cons
abbrev Yw:=@Bool.false_eq_true
abbrev Yx:=@List.getElem?_append_left
abbrev Yy:=@Nat.le_trans
abbrev Yz:=@Nat.lt_succ_self
abbrev YA:=@List.mem_of_getElem?
abbrev YC:=@List.map_append
abbrev YD:=@List.map_congr_left
abbrev YE:=@List.getElem_of_mem
abbrev YF:=@List.length_append
abbrev YG:=@Option.map_eq_some_iff
abbrev YH:=@List.getElem?_take
abbrev YI:=@Nat.not_lt_zero
abbrev YJ:=@Nat.mul_le_mul_right
abbrev YK:=@List.all_eq_true
abbrev YL:=@List.map_map
abbrev YM:=@Prod.mk.injEq
abbrev YN:=@Option.map_some
abbrev YO:=@List.length_cons
abbrev YP:=@List.nil_append

end
section
namespace Go.Am
def Le (F F':ZaQ):Prop:= ∀f args os r,F f args os=some r->F' f args os=some r
theorem ZjV {F F':ZaQ} (h:Le F F') {f:Nat} {pass:Bool} {own:List Nat} {args:List A} {rest ds:List D} (hc:ZcU F f pass own args rest=some ds):ZcU F' f pass own args rest=some ds:=by
 unfold ZcU at hc⊢
 split at hc
 ·cases hc
 ·split at hc
  ·split at hc
   ·cases hc
   ·rename_i os' h4
    unfold ZsU at hc⊢
    split at hc
    ·rename_i rs os'' h5
     rw [h _ _ _ _ h5];exact hc
    ·cases hc
  ·cases hc
theorem Zr3 {F F':ZaQ} (h:Le F F') {k:K} {ds ds':List D} (hc:ZaI F k ds=some ds'):ZaI F' k ds=some ds':=by
 cases k with
 | call f pass own na=>
   simp only [ZaI,Zj7] at hc⊢
   split at hc
   · exact ZjV h hc
   · cases hc
 | callv pass own na=>
   simp only [ZaI] at hc⊢
   unfold Zju at hc⊢
   split at hc
   · split at hc
     · exact ZjV h hc
     · cases hc
   · split at hc
     · exact ZjV h hc
     · cases hc
   · cases hc
 | callU f κs=>
   simp only [ZaI] at hc⊢
   unfold ZIk ZKU at hc⊢
   split at hc
   · split at hc
     · split at hc
       · rename_i h5
         rw [h _ _ _ _ h5];exact hc
       · cases hc
     · cases hc
   · cases hc
 | _=>exact hc
theorem ZqQ {F F':ZaQ} (h:Le F F') {o:SOp} {e e':Env} (hc:doOp F o e=some e'):doOp F' o e=some e':=by
 unfold doOp at hc⊢
 split at hc
 ·cases hc
 ·rename_i ds hs
  rw [Zr3 h hs];exact hc
theorem ZmF {F F':ZaQ} (h:Le F F') {o:SOp} {e e':Env} (hc:ZaT F o e=some e'):ZaT F' o e=some e':=by
 unfold ZaT at hc⊢
 split at hc
 ·exact ZqQ h hc
 ·split at hc
  ·split at hc
   ·rename_i hb;rw [if_pos hb];exact ZqQ h hc
   ·rename_i hb;rw [if_neg hb];exact hc
  ·exact hc
  ·cases hc
theorem Zjh {F F':ZaQ} (h:Le F F'): ∀{os:List SOp} {e e':Env},Zdo F os e=some e'->Zdo F' os e=some e'
 | [],_,_,hc=>hc
 | o::os,e,e',hc=>by
   simp only [Zdo] at hc⊢
   split at hc
   · rename_i e1 h1
     rw [ZmF h h1];exact Zjh h hc
   · cases hc
theorem Zmn {S:Nat->Option Fn} {ex ex':SCode->Env->Option (X×Env)} (h: ∀c e r,ex c e=some r->ex' c e=some r):Le (Zja S ex) (Zja S ex'):=by
 intro f args os r hc
 unfold Zja at hc⊢
 split at hc
 ·split at hc
  ·rename_i hl
   rw [if_pos hl]
   split at hc
   ·rename_i e he;rw [h _ _ _ he];exact hc
   ·rename_i e he;rw [h _ _ _ he];exact hc
   ·cases hc
  ·cases hc
 ·exact hc
 ·split at hc
  ·rename_i hu
   rw [if_pos hu]
   unfold upBy at hc⊢
   split at hc
   ·split at hc
    ·rename_i hl
     rw [if_pos hl]
     split at hc
     ·rename_i e he;rw [h _ _ _ he];exact hc
     ·rename_i e he;rw [h _ _ _ he];exact hc
     ·cases hc
    ·cases hc
   ·cases hc
  ·cases hc
theorem ZuE {S:Nat->Option Fn}: ∀(n:Nat) (c:SCode) (e:Env) (r:X×Env),exec S n c e=some r->exec S (n+1) c e=some r:=by
 intro n
 induction n with
 | zero=>intro c e r h;simp [exec] at h
 | succ n ih=>
   intro c e r h
   cases c with
   | gh g c=>simp only [exec] at h⊢;exact ih _ _ _ h
   | hg c g=>
     rw [exec] at h⊢
     split at h
     · rename_i e' he;rw [ih _ _ _ he];exact h
     · rename_i q hq
       rw [ih _ _ _ h]
       obtain ⟨x,e'⟩:=r
       cases x with
       | normal=>exact absurd h (fun hh=>hq _ hh)
       | _=>rfl
   | skip=>exact h
   | region ops=>
     rw [exec] at h⊢
     split at h
     · rename_i e' he;rw [Zjh (Zmn ih) he];exact h
     · cases h
   | seq a b=>
     rw [exec] at h⊢
     split at h
     · rename_i e' he;rw [ih _ _ _ he];exact ih _ _ _ h
     · rename_i q hq
       rw [ih _ _ _ h]
       obtain ⟨x,e'⟩:=r
       cases x with
       | normal=>exact absurd h (fun hh=>hq _ hh)
       | _=>rfl
   | cond x a b=>
     simp only [exec] at h⊢
     split at h
     · exact ih _ _ _ h
     · cases h
   | block id b=>
     rw [exec] at h⊢
     split at h
     · rename_i i e' he;rw [ih _ _ _ he];exact h
     · rename_i q hq
       rw [ih _ _ _ h]
       obtain ⟨x,e'⟩:=r
       cases x with
       | exit i=>exact absurd h (fun hh=>hq _ _ hh)
       | _=>rfl
   | loop live b=>
     rw [exec] at h⊢
     split at h
     · rename_i e' he;rw [ih _ _ _ he];exact ih _ _ _ h
     · rename_i q hq
       rw [ih _ _ _ h]
       obtain ⟨x,e'⟩:=r
       cases x with
       | normal=>exact absurd h (fun hh=>hq _ hh)
       | _=>rfl
   | exit id=>exact h
   | ret=>exact h
theorem Zi1 {S:Nat->Option Fn} {n m:Nat} (hnm:n<=m) {c:SCode} {e:Env} {r:X×Env} (h:exec S n c e=some r):exec S m c e=some r:=by
 obtain ⟨k,rfl⟩:=Nat.exists_eq_add_of_le hnm
 induction k with
 | zero=>exact h
 | succ k ih=>exact ZuE _ _ _ _ (ih Zo)
theorem Zmt {S:Nat->Option Fn} {n m:Nat} (hnm:n<=m):Le (call S n) (call S m):=Zmn fun _ _ _ h=>Zi1 hnm h
end Go.Am
end
section
namespace Go.Am.Tx
abbrev v (k:Nat):Arg:= .k k
abbrev n (i:Int):Arg:= .c (.p (.int .i64 i))
abbrev s (l:List Nat):Arg:= .c (.p (.str l))
abbrev z (s:Nat):Arg:= .c (.tip s [])
abbrev b (t:Bool):Arg:= .c (.p (.bool t))
abbrev o (k:K) (i:List Arg) (d:Nat):SOp:=⟨k,i,[],[d],none,true⟩
abbrev og (k:K) (i:List Arg) (d j:Nat) (t:Bool):SOp:=⟨k,i,[],[d],some (j,t),true⟩
abbrev m (a d:Nat):SOp:=⟨.mov,[.k a],[],[d],none,true⟩
abbrev mt (a d:Nat):SOp:=⟨.mov,[.k a],[a],[d],none,true⟩
abbrev r (l:List SOp):SCode:= .region l
abbrev q (a b:SCode):SCode:= .seq a b
abbrev i (c:Nat) (a b:SCode):SCode:= .cond (.k c) a b
abbrev e:SCode:= .skip
abbrev f (k a d:Nat):SOp:=⟨.fieldAddr k,[.k a],[],[d],none,true⟩
abbrev fg (k a d j:Nat) (t:Bool):SOp:=⟨.fieldAddr k,[.k a],[],[d],some (j,t),true⟩
abbrev mv (a:Arg) (d:Nat):SOp:=⟨.mov,[a],[],[d],none,true⟩
abbrev mg (a:Arg) (d j:Nat) (t:Bool):SOp:=⟨.mov,[a],[],[d],some (j,t),true⟩
abbrev ld (κ a d:Nat):SOp:=⟨.loadB κ none,[.k a,.k κ],[],[d],none,true⟩
abbrev ln (κ n a d:Nat):SOp:=⟨.loadB κ (some n),[.k a,.k κ],[],[d],none,true⟩
abbrev lg (κ a d j:Nat) (t:Bool):SOp:=⟨.loadB κ none,[.k a,.k κ],[],[d],some (j,t),true⟩
abbrev lt (κ a d:Nat):SOp:=⟨.loadBT κ none,[.k a,.k κ],[κ],[d,κ],none,true⟩
abbrev st (κ n a:Nat) (x:Arg):SOp:=⟨.storeB κ n,[.k a,x,.k κ],[κ],[κ],none,false⟩
abbrev su (κ n a x:Nat):SOp:=⟨.storeB κ n,[.k a,.k x,.k κ],[κ,x],[κ],none,false⟩
abbrev ap (s a b d:Nat):SOp:=⟨.append s,[.k a,.k b],[a],[d],none,true⟩
abbrev bx (κ:Nat) (a:Arg) (d:Nat):SOp:=⟨.box κ,[a],[],[d,κ],none,true⟩
abbrev x (i a d:Nat):SOp:=⟨.extract i,[.k a],[],[d],none,true⟩
abbrev xt (i a d:Nat):SOp:=⟨.extract i,[.k a],[a],[d],none,true⟩
abbrev ix (s a:Nat) (b:Arg) (d:Nat):SOp:=⟨.indexAddr s,[.k a,b],[],[d],none,true⟩
abbrev bs (s:Nat) (l:List Arg) (d:Nat):SOp:=⟨.buildSlice s,l,[],[d],none,true⟩
abbrev le (a d:Nat):SOp:=⟨.len,[.k a],[],[d],none,true⟩
abbrev ca (f n:Nat) (l:List Arg) (d:Nat):SOp:=⟨.call f false [] n,l,[],[d],none,true⟩
abbrev nt (a d:Nat):SOp:=⟨.not,[.k a],[],[d],none,true⟩
abbrev ad:K:= .bin .add
abbrev sb:K:= .bin .sub
abbrev eq:K:= .bin .eql
abbrev ne:K:= .bin .neq
abbrev ls:K:= .bin .lss
abbrev gr:K:= .bin .gtr
abbrev ge:K:= .bin .geq
abbrev cs (l:List Nat):C:= .p (.str l)
abbrev ct (s:Nat):C:= .tip s []
abbrev k (id:Nat) (c:SCode):SCode:= .block id c
abbrev lo (l:List Nat) (c:SCode):SCode:= .loop l c
abbrev ex (id:Nat):SCode:= .exit id
abbrev al (κ:Nat) (z:List C) (d:Nat):SOp:=⟨.alloc κ z,[],[],[d,κ],none,true⟩
abbrev lp (a d:Nat):SOp:=⟨.load none,[.k a],[],[d],none,true⟩
abbrev ls2 (n a d:Nat):SOp:=⟨.load (some n),[.k a],[],[d],none,true⟩
abbrev pk (l:List Arg) (d:Nat):SOp:=⟨.pick,l,[],[d],none,true⟩
abbrev u (i:Int):Arg:= .c (.p (.int .u8 i))
abbrev bd (z:List C) (p:List (Nat×Nat)) (l:List Arg) (d:Nat):SOp:=⟨.build z p,l,[],[d],none,true⟩
end Go.Am.Tx
end
section
namespace Go.Am
def Ends (S:Nat->Option Fn) (c:SCode) (e:Env) (Q:X->Env->Prop):Prop:= ∃n x e',exec S n c e=some (x,e')/\Q x e'
def Gives (S:Nat->Option Fn) (f:Nat) (args:List A) (os:List (List C)) (Q:List A->List (List C)->Prop):Prop:= ∃n rs os',call S n f args os=some (rs,os')/\Q rs os'
def EndsOps (S:Nat->Option Fn) (ops:List SOp) (e:Env) (Q:Env->Prop):Prop:= ∃n e',Zdo (call S n) ops e=some e'/\Q e'
section
variable {S:Nat->Option Fn} {Q Q':X->Env->Prop} {e:Env}
theorem Ends.skip (h:Q .normal e):Ends S .skip e Q:=⟨1,.normal,e,rfl,h⟩
theorem Ends.exit {id:Nat} (h:Q (.exit id) e):Ends S (.exit id) e Q:=⟨1,.exit id,e,rfl,h⟩
theorem Ends.ret (h:Q .ret e):Ends S .ret e Q:=⟨1,.ret,e,rfl,h⟩
theorem Ends.region {ops:List SOp} (h:EndsOps S ops (e.kills (ops.flatMap fun o=>o.kind.creates)) (Q .normal)):Ends S (.region ops) e Q:=by
 obtain ⟨n,e',h1,h2⟩:=h
 exact ⟨n+1,.normal,e',by rw [exec];unfold call at h1;rw [h1],h2⟩
def after (Q:X->Env->Prop) (K:Env->Prop):X->Env->Prop
 | .normal,e=>K e
 | x,e=>Q x e
theorem Ends.seq {a b:SCode} (h:Ends S a e (after Q fun e'=>Ends S b e' Q)):Ends S (.seq a b) e Q:=by
 obtain ⟨n,x,e',h1,h2⟩:=h
 cases x with
 | normal=>
   obtain ⟨m,x2,e2,h3,h4⟩:=h2
   refine ⟨max n m+1,x2,e2,?_,h4⟩
   rw [exec,Zi1 (Nat.le_max_left n m) h1]
   exact Zi1 (Nat.le_max_right n m) h3
 | exit id=>exact ⟨n+1,.exit id,e',by rw [exec,h1],h2⟩
 | ret=>exact ⟨n+1,.ret,e',by rw [exec,h1],h2⟩
theorem Ends.cond {x:Arg} {a b:SCode} {t:Bool} (ht:Zbl e [] x= .a (.one (.p (.bool t)))) (h:Ends S (if t then a else b) e Q):Ends S (.cond x a b) e Q:=by
 obtain ⟨n,x',e',h1,h2⟩:=h
 exact ⟨n+1,x',e',by rw [exec,ht];exact h1,h2⟩
def inBlock (id:Nat) (Q:X->Env->Prop):X->Env->Prop
 | .exit i,e=>if i=id then Q .normal e else Q (.exit i) e
 | x,e=>Q x e
theorem Ends.block {id:Nat} {b:SCode} (h:Ends S b e (inBlock id Q)):Ends S (.block id b) e Q:=by
 obtain ⟨n,x,e',h1,h2⟩:=h
 cases x with
 | normal=>exact ⟨n+1,.normal,e',by rw [exec,h1],h2⟩
 | ret=>exact ⟨n+1,.ret,e',by rw [exec,h1],h2⟩
 | exit i=>
   simp only [inBlock] at h2
   split at h2
   · rename_i hi;exact ⟨n+1,.normal,e',by rw [exec,h1];simp [hi],h2⟩
   · rename_i hi;exact ⟨n+1,.exit i,e',by rw [exec,h1];simp [hi],h2⟩
theorem Ends.loop {live:List Nat} {b:SCode} {α:Type} (I:α->Env->Prop) (μ:α->Nat) {i:α} (h0:I i e)
   (hr: ∀i e,I i e->Ends S b (e.norm live) (after Q fun e'=> ∃j,μ j<μ i/\I j e')):Ends S (.loop live b) e Q:=by
 have key: ∀n i e,μ i=n->I i e->Ends S (.loop live b) e Q:=by
   intro n
   induction n using Nat.strongRecOn with
   | _ n ih=>
     intro i e hn hI
     obtain ⟨k,x,e',h1,h2⟩:=hr i e hI
     cases x with
     | normal=>
       obtain ⟨j,hj,hI'⟩:=h2
       obtain ⟨m,x2,e2,h3,h4⟩:=ih (μ j) Zo j e' rfl hI'
       refine ⟨max k m+1,x2,e2,?_,h4⟩
       rw [exec,Zi1 (Nat.le_max_left k m) h1]
       exact Zi1 (Nat.le_max_right k m) h3
     | exit id=>exact ⟨k+1,.exit id,e',by rw [exec,h1],h2⟩
     | ret=>exact ⟨k+1,.ret,e',by rw [exec,h1],h2⟩
 exact key _ i e rfl h0
theorem EndsOps.cons {o:SOp} {os:List SOp} {Q:Env->Prop} {n:Nat} {e1:Env} (h1:ZaT (call S n) o e=some e1) (h:EndsOps S os e1 Q):EndsOps S (o::os) e Q:=by
 obtain ⟨m,e',h2,h3⟩:=h
 refine ⟨max n m,e',?_,h3⟩
 rw [Zdo,ZmF (Zmt (Nat.le_max_left n m)) h1]
 exact Zjh (Zmt (Nat.le_max_right n m)) h2
end
end Go.Am
end
section
namespace Go.Am.Fe
open Go.Am.Tx
def ZgV:SFunc:=⟨2,[],[.tmp 4],
 (q (r [bx 10002 (v 0) 2,mv (n 0) 4])
 (q (r [mv (n 1) 5])
 (q (q (r [mv (n 0) 6])
 (k 0 (lo [1,2,5,6,9999,10002] (q (q (r [m 6 7,f 3 2 8,ld 10002 8 9,le 9 10,o ls [v 7,v 10] 11,m 11 12,mg (v 5) 13 12 true,mg (v 1) 14 12 true,og (.bin .leq) [v 13,v 14] 15 12 true,pk [v 12,v 15,b false] 16])
 (i 16 e (ex 0)))
 (q (k 1 (r [m 5 19,f 3 2 20,ld 10002 20 21,m 6 22,ix 4 21 (v 22) 23,ls2 4 23 24,m 1 25,ca ZcY 2 [v 24,v 25] 26,o ad [v 19,v 26] 27,m 27 5]))
 (r [m 6 17,o ad [v 17,n 1] 18,m 18 6]))))))
 (q (r [m 5 28,m 1 29,o ad [v 29,n 1] 30,o .min2 [v 28,v 30] 31,m 31 4])
 .ret))))⟩
def ZJI:SFunc:=⟨2,[],[.tmp 4],
 (q (r [bx 10002 (v 0) 2,mv (n 0) 4])
 (q (r [f 1 2 8,ld 10002 8 9,o .lenS [v 9] 10,o (.bin .quo) [v 10,n 16] 11,o ad [n 1,v 11] 12,m 12 5])
 (q (q (r [mv (n 0) 6])
 (k 0 (lo [1,2,5,6,9999,10002] (q (q (r [m 6 13,f 7 2 14,ld 10002 14 15,le 15 16,o ls [v 13,v 16] 17,m 17 18,mg (v 5) 19 18 true,mg (v 1) 20 18 true,og (.bin .leq) [v 19,v 20] 21 18 true,pk [v 18,v 21,b false] 22])
 (i 22 e (ex 0)))
 (q (k 1 (r [m 5 25,f 7 2 26,ld 10002 26 27,m 6 28,ix 4 27 (v 28) 29,ls2 4 29 30,m 1 31,ca ZcY 2 [v 30,v 31] 32,o ad [v 25,v 32] 33,m 33 5]))
 (r [m 6 23,o ad [v 23,n 1] 24,m 24 6]))))))
 (q (q (r [m 5 34,m 1 35,o (.bin .leq) [v 34,v 35] 36])
 (i 36 (r [m 5 37,f 3 2 38,ln 10002 4 38 39,m 1 40,ca ZcY 2 [v 39,v 40] 41,o ad [v 37,v 41] 42,o sb [v 42,n 1] 43,m 43 5]) e))
 (q (q (r [mv (n 0) 7])
 (k 2 (lo [1,2,5,7,9999,10002] (q (q (r [m 7 44,f 8 2 45,ld 10002 45 46,le 46 47,o ls [v 44,v 47] 48,m 48 49,mg (v 5) 50 49 true,mg (v 1) 51 49 true,og (.bin .leq) [v 50,v 51] 52 49 true,pk [v 49,v 52,b false] 53])
 (i 53 e (ex 2)))
 (q (k 3 (r [m 5 56,f 8 2 57,ld 10002 57 58,m 7 59,ix 10 58 (v 59) 60,ls2 10 60 61,m 1 62,ca ZHq 2 [v 61,v 62] 63,o ad [v 56,v 63] 64,m 64 5]))
 (r [m 7 54,o ad [v 54,n 1] 55,m 55 7]))))))
 (q (r [m 5 65,m 1 66,o ad [v 66,n 1] 67,o .min2 [v 65,v 67] 68,m 68 4])
 .ret))))))⟩
def ZJJ:SFunc:=⟨1,[false,true,false,false],[.tmp 2,.tmp 3,.tmp 4,.tmp 5],
 (q (r [bx 10001 (v 0) 1,mv (s []) 2,mv (z 1) 3,mv (b false) 4,mv (b false) 5])
 (q (r [mv (z 1) 6])
 (q (r [mv (b false) 7])
 (q (k 0 (lo [1,6,7,9999,10001] (q (q (r [f 0 1 10,ld 10001 10 11,o eq [v 11,n 75] 12,m 12 13,fg 8 1 14 13 true,lg 10001 14 15 13 true,og .len [v 15] 16 13 true,og eq [v 16,n 1] 17 13 true,pk [v 13,v 17,b false] 18])
 (i 18 e (ex 0)))
 (k 1 (q (r [mt 6 19,f 1 1 20,ld 10001 20 21,bs 1 [v 21] 22,ap 1 19 22 23,mt 23 6])
 (q (r [m 7 24,m 24 25,fg 2 1 26 25 false,lg 10001 26 27 25 false,og eq [v 27,n 1] 28 25 false,pk [v 25,b true,v 28] 29,m 29 7])
 (r [f 8 1 30,ld 10001 30 31,ix 10 31 (n 0) 32,ls2 10 32 33,su 10001 10 1 33])))))))
 (q (q (r [f 0 1 34,ld 10001 34 35,o ne [v 35,n 74] 36])
 (i 36 (q (r [mv (s []) 2,mv (z 1) 3,mv (b false) 4,mv (b false) 5])
 .ret) e))
 (q (r [mv (z 1) 8])
 (q (q (r [m 6 37,le 37 38,o sb [v 38,n 1] 39,m 39 9])
 (k 2 (lo [1,6,7,8,9,9999,10001] (q (q (r [m 9 40,o ge [v 40,n 0] 41])
 (i 41 e (ex 2)))
 (q (k 3 (r [mt 8 44,m 6 45,m 9 46,ix 1 45 (v 46) 47,lp 47 48,bs 1 [v 48] 49,ap 1 44 49 50,mt 50 8]))
 (r [m 9 42,o sb [v 42,n 1] 43,m 43 9]))))))
 (q (r [f 1 1 51,ld 10001 51 52,mt 8 53,m 7 54,m 52 2,mt 53 3,m 54 4,mv (b true) 5])
 .ret))))))))⟩
def ZIn:SFunc:=⟨1,[false,true,false,false],[.tmp 2,.tmp 3,.tmp 4,.tmp 5],
 (q (r [bx 10001 (v 0) 1,mv (s []) 2,mv (z 1) 3,mv (b false) 4,mv (b false) 5])
 (q (k 0 (lo [1,3,4,9999,10001] (q (q (r [f 0 1 6,ld 10001 6 7,o eq [v 7,n 75] 8,m 8 9,fg 8 1 10 9 true,lg 10001 10 11 9 true,og .len [v 11] 12 9 true,og eq [v 12,n 1] 13 9 true,pk [v 9,v 13,b false] 14])
 (i 14 e (ex 0)))
 (k 1 (q (r [f 1 1 15,ld 10001 15 16,bs 1 [v 16] 17,mt 3 18,ap 1 17 18 19,mt 19 3])
 (q (r [m 4 20,m 20 21,fg 2 1 22 21 false,lg 10001 22 23 21 false,og eq [v 23,n 1] 24 21 false,pk [v 21,b true,v 24] 25,m 25 4])
 (r [f 8 1 26,ld 10001 26 27,ix 10 27 (n 0) 28,ls2 10 28 29,su 10001 10 1 29])))))))
 (q (q (r [f 0 1 30,ld 10001 30 31,o ne [v 31,n 74] 32])
 (i 32 (q (r [mv (s []) 2,mv (z 1) 3,mv (b false) 4,mv (b false) 5])
 .ret) e))
 (q (r [f 1 1 33,ld 10001 33 34,mt 3 35,m 4 36,m 34 2,mt 35 3,m 36 4,mv (b true) 5])
 .ret))))⟩
def ZDE:SFunc:=⟨2,[],[.tmp 4],
 (q (r [mv (b false) 4])
 (q (q (r [m 0 6,le 6 7,m 1 8,le 8 9,o ne [v 7,v 9] 10])
 (i 10 (q (r [mv (b false) 4])
 .ret) e))
 (q (q (r [m 0 11,le 11 12,mv (n 0) 13])
 (k 0 (lo [0,1,12,13,9999] (q (r [o ls [v 13,v 12] 14])
 (q (i 14 e (ex 0))
 (q (k 1 (q (r [m 13 15,m 15 5])
 (q (r [m 0 16,m 5 17,ix 1 16 (v 17) 18,lp 18 19,m 1 20,m 5 21,ix 1 20 (v 21) 22,lp 22 23,o ne [v 19,v 23] 24])
 (i 24 (q (r [mv (b false) 4])
 .ret) e))))
 (r [o ad [v 13,n 1] 25,m 25 13])))))))
 (q (r [mv (b true) 4])
 .ret))))⟩
def ZHK:SFunc:=⟨2,[],[.tmp 4],
 (q (r [bx 10002 (v 0) 2,bx 10003 (v 1) 3,mv (b false) 4])
 (q (r [ln 10002 10 2 15,ca ZHu 1 [v 15] 16,mt 16 14,x 0 14 17,xt 1 14 18,x 2 14 19,x 3 14 20,m 17 5,mt 18 6,m 19 7,m 20 8])
 (q (r [ln 10003 10 3 22,ca ZHu 1 [v 22] 23,mt 23 21,x 0 21 24,xt 1 21 25,x 2 21 26,x 3 21 27,m 24 9,mt 25 10,m 26 11,m 27 12])
 (q (q (r [m 8 28,nt 28 29,m 29 30,mg (v 12) 31 30 false,og .not [v 31] 32 30 false,pk [v 30,b true,v 32] 33,m 33 34,mg (v 7) 35 34 false,pk [v 34,b true,v 35] 36,m 36 37,mg (v 11) 38 37 false,pk [v 37,b true,v 38] 39,m 39 40,mg (v 5) 41 40 false,mg (v 9) 42 40 false,og ne [v 41,v 42] 43 40 false,pk [v 40,b true,v 43] 44])
 (i 44 (q (r [mv (b false) 4])
 .ret) e))
 (q (r [m 6 45,le 45 46,m 10 47,le 47 48,o .min2 [v 46,v 48] 49,m 49 13])
 (q (r [mt 6 50,m 13 51,o (.slice 1 false true false) [v 50,v 51] 52,mt 10 53,m 13 54,o (.slice 1 false true false) [v 53,v 54] 55,ca Zmb 2 [v 52,v 55] 56,m 56 4])
 .ret))))))⟩
def ZHL:SFunc:=⟨2,[],[.tmp 4],
 (q (r [mv (b false) 4])
 (q (q (r [m 0 6,le 6 7,m 1 8,le 8 9,o ne [v 7,v 9] 10])
 (i 10 (q (r [mv (b false) 4])
 .ret) e))
 (q (q (r [mv (n 0) 5])
 (k 0 (lo [0,1,5,9999] (q (q (r [m 5 11,m 0 12,le 12 13,o ls [v 11,v 13] 14])
 (i 14 e (ex 0)))
 (q (k 1 (q (r [m 0 17,m 5 18,ix 1 17 (v 18) 19,lp 19 20,m 1 21,m 5 22,ix 1 21 (v 22) 23,lp 23 24,o ne [v 20,v 24] 25])
 (i 25 (q (r [mv (b false) 4])
 .ret) e)))
 (r [m 5 15,o ad [v 15,n 1] 16,m 16 5]))))))
 (q (r [mv (b true) 4])
 .ret))))⟩
def ZIm:SFunc:=⟨2,[],[.tmp 4],
 (q (r [mv (b false) 4])
 (q (r [m 0 6,le 6 7,m 1 8,le 8 9,o .min2 [v 7,v 9] 10,m 10 5])
 (q (r [mt 0 11,m 5 12,o (.slice 1 false true false) [v 11,v 12] 13,mt 1 14,m 5 15,o (.slice 1 false true false) [v 14,v 15] 16,ca ZHp 2 [v 13,v 16] 17,m 17 4])
 .ret)))⟩
def ZIo:SFunc:=⟨2,[],[.tmp 4],
 (q (r [bx 10002 (v 0) 2,bx 10003 (v 1) 3,mv (b false) 4])
 (q (r [ln 10002 10 2 14,ca ZHT 1 [v 14] 15,mt 15 13,x 0 13 16,xt 1 13 17,x 2 13 18,x 3 13 19,m 16 5,mt 17 6,m 18 7,m 19 8])
 (q (r [ln 10003 10 3 21,ca ZHT 1 [v 21] 22,mt 22 20,x 0 20 23,xt 1 20 24,x 2 20 25,x 3 20 26,m 23 9,mt 24 10,m 25 11,m 26 12])
 (q (r [m 8 27,m 27 28,mg (v 12) 29 28 true,pk [v 28,v 29,b false] 30,m 30 31,mg (v 7) 32 31 true,og .not [v 32] 33 31 true,pk [v 31,v 33,b false] 34,m 34 35,mg (v 11) 36 35 true,og .not [v 36] 37 35 true,pk [v 35,v 37,b false] 38,m 38 39,mg (v 5) 40 39 true,mg (v 9) 41 39 true,og eq [v 40,v 41] 42 39 true,pk [v 39,v 42,b false] 43,m 43 44,⟨.mov,[v 6],[6],[45],some (44,true),true⟩,⟨.mov,[v 10],[10],[46],some (44,true),true⟩,og (.call ZHR false [] 2) [v 45,v 46] 47 44 true,pk [v 44,v 47,b false] 48,m 48 4])
 .ret))))⟩
def ZHe:SFunc:=⟨2,[],[.tmp 4],
 (q (r [bx 10002 (v 0) 2,bx 10003 (v 1) 3,mv (b false) 4])
 (q (q (r [ln 10002 10 2 9,ca ZHq 2 [v 9,n 1001] 10,o gr [v 10,n 1000] 11,m 11 12,og (.loadB 10003 (some 10)) [v 3,v 10003] 13 12 false,og (.call ZHq false [] 2) [v 13,n 1001] 14 12 false,og gr [v 14,n 1000] 15 12 false,pk [v 12,b true,v 15] 16])
 (i 16 (q (r [ca ZHi 0 [] 17,m 17 4])
 .ret) e))
 (q (r [ln 10002 10 2 19,ca ZHT 1 [v 19] 20,mt 20 18,x 0 18 21,xt 1 18 22,x 2 18 23,x 3 18 24,m 21 5,mt 22 6,m 23 7,m 24 8])
 (q (r [ln 10002 10 2 25,ln 10003 10 3 26,ca ZG8 2 [v 25,v 26] 27,ln 10002 10 2 28,ln 10003 10 3 29,ca ZHQ 2 [v 28,v 29] 30,o (.binB .eql) [v 27,v 30] 31,m 31 32,og (.loadB 10002 (some 10)) [v 2,v 10002] 33 32 true,og (.loadB 10003 (some 10)) [v 3,v 10003] 34 32 true,og (.call ZG8 false [] 2) [v 33,v 34] 35 32 true,og (.loadB 10003 (some 10)) [v 3,v 10003] 36 32 true,og (.loadB 10002 (some 10)) [v 2,v 10002] 37 32 true,og (.call ZG8 false [] 2) [v 36,v 37] 38 32 true,og (.binB .eql) [v 35,v 38] 39 32 true,pk [v 32,v 39,b false] 40,m 40 41,og (.loadB 10002 (some 10)) [v 2,v 10002] 42 41 true,og (.loadB 10002 (some 10)) [v 2,v 10002] 43 41 true,og (.call ZG8 false [] 2) [v 42,v 43] 44 41 true,mg (v 8) 45 41 true,mg (v 45) 46 41 true,mg (v 7) 47 46 true,og .not [v 47] 48 46 true,og .pick [v 46,v 48,b false] 49 41 true,og (.binB .eql) [v 44,v 49] 50 41 true,pk [v 41,v 50,b false] 51,m 51 52,og (.call ZHi false [] 0) [] 53 52 true,pk [v 52,v 53,b false] 54,m 54 4])
 .ret))))⟩
structure Has (S:Nat->Option Fn):Prop where
 Zrs:S ZcY=some (.code ZgV)
 ZPt:S ZHq=some (.code ZJI)
 ZP0:S ZHT=some (.code ZJJ)
 ZNH:S ZHu=some (.code ZIn)
 ZHy:S Zmb=some (.code ZDE)
 ZL1:S ZG8=some (.code ZHK)
 ZLW:S ZHp=some (.code ZHL)
 ZNC:S ZHR=some (.code ZIm)
 ZNx:S ZHQ=some (.code ZIo)
 ZIz:S ZG7=some (.code ZHe)
end Go.Am.Fe
end
