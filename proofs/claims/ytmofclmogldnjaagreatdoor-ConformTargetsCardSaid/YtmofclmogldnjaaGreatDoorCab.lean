/- Part. -/
import GoSem.Core.Code
import GoSem.Core.View
set_option maxRecDepth 999999
set_option maxHeartbeats 0
set_option linter.all false
def qB:=@Option.some.injEq
def qE:=@Nat.eq_of_beq_eq_true
def qX:=@List.length_nil
def jJ:=@Bool.eq_false_iff
def jS:=@List.length_append
def jT:=@Nat.le_max_left
def j0:=@Bool.not_eq_true'
def kK:=@Nat.le_max_right
def kY:=@Nat.beq_refl
def yZ:=@List.length_cons
def xL:=@Decidable.not_not
section
namespace Go.Am
inductive P where
 | int (k:IntKind) (n:Int)
 | bool (b:Bool)
 | str (s:List Nat)
 | sl (s:Nat) (rows:List (List P))
 deriving Inhabited
structure R where
 own:Bool
 k:Nat
 off:Nat
 deriving DecidableEq,Inhabited
inductive C where
 | p (x:P)
 | tip (s:Nat) (rows:List (List P))
 | ref (r:R)
 | view (row:List P) (off:Nat)
 | clo (f:Nat) (first caps:List R)
 | nilp
 | uniq (s:Nat) (rows:List (List P))
 | own (r:R) (s n:Nat)
 | junk
 | hdr (n:Nat)
 | map (r:R) (es:List (P×P))
 | mptr (r:R)
 deriving Inhabited
inductive A where
 | one (c:C)
 | agg (cs:List C)
 deriving Inhabited
inductive D where
 | undef
 | a (x:A)
 | tup (xs:List A)
 | objs (os:List (List C))
 deriving Inhabited
abbrev Env:=List (Nat×D)
def Env.get:Env->Nat->D
 | [],_=> .undef
 | (k',d)::r,k=>if k'==k then d else Env.get r k
def Env.set (e:Env) (k:Nat) (d:D):Env:=(k,d)::e
def Env.sets (e:Env):List Nat->List D->Option Env
 | [],[]=>some e
 | k::ks,d::ds=>(e.set k d).sets ks ds
 | _,_=>none
def Env.norm (e:Env) (live:List Nat):Env:=live.map fun k=>(k,e.get k)
def ZeA:Nat:=68719476736
def A.cells:A->List C
 | .one c=>[c]
 | .agg cs=>cs
def C.plain:C->C
 | .tip s r=> .p (.sl s r)
 | .uniq _ rows=> .hdr rows.length
 | .map r _=> .mptr r
 | c=>c
def A.plain:A->A
 | .one c=> .one c.plain
 | .agg cs=> .agg (cs.map C.plain)
def D.plain:D->D
 | .a x=> .a x.plain
 | .tup xs=> .tup (xs.map A.plain)
 | d=>d
def C.toP:C->Option P
 | .p x=>some x
 | .tip s r=>some (.sl s r)
 | _=>none
def toPs:List C->Option (List P)
 | []=>some []
 | c::r=>match c.toP,toPs r with
   | some x,some xs=>some (x::xs)
   | _,_=>none
def C.rows:C->Option (Nat×List (List P))
 | .p (.sl s r)=>some (s,r)
 | .tip s r=>some (s,r)
 | _=>none
def C.ment (κ:Nat):C->Bool
 | .ref r=>r.own && r.k==κ
 | .clo _ x y=>x.any (fun r=>r.own && r.k==κ)||y.any (fun r=>r.own && r.k==κ)
 | .own r _ _=>r.own && r.k==κ
 | .map r _=>r.own && r.k==κ
 | .mptr r=>r.own && r.k==κ
 | _=>false
def A.ment (κ:Nat) (x:A):Bool:=x.cells.any (C.ment κ)
def D.ment (κ:Nat):D->Bool
 | .undef=>false
 | .a x=>x.ment κ
 | .tup xs=>xs.any (A.ment κ)
 | .objs os=>os.any (fun cs=>cs.any (C.ment κ))
def Env.kill (κ:Nat):Env->Env
 | []=>[]
 | (k,d)::r=>(k,if k==κ||d.ment κ then .undef else d)::Env.kill κ r
def Env.kills:List Nat->Env->Env
 | [],e=>e
 | κ::ks,e=>Env.kills ks (e.kill κ)
inductive Arg where
 | k (key:Nat)
 | c (c:C)
 deriving Inhabited
inductive K where
 | mov
 | pick
 | alloc (κ:Nat) (z:List C)
 | box (κ:Nat)
 | build (z:List C) (offs:List (Nat×Nat))
 | load (n:Option Nat)
 | loadB (κ:Nat) (n:Option Nat)
 | loadBT (κ:Nat) (n:Option Nat)
 | loadO (n:Option Nat)
 | loadOT (n:Option Nat)
 | storeB (κ n:Nat)
 | storeO (n:Nat)
 | nilCheck
 | fieldAddr (off:Nat)
 | indexAddr (s:Nat)
 | indexS
 | bin (op:BinOp)
 | binB (op:BinOp)
 | neqS
 | not
 | neg
 | conv (k:IntKind)
 | convBS
 | buildSlice (s:Nat)
 | append (s:Nat)
 | len
 | lenS
 | min2
 | max2
 | slice (s:Nat) (lo hi mx:Bool)
 | sliceS (lo hi:Bool)
 | extract (i:Nat)
 | makeFunc (f:Nat) (first:Nat)
 | makeSlice (s:Nat)
 | makeSliceZ (s:Nat) (z:List P)
 | sliceU (s:Nat)
 | appendU (s:Nat)
 | makeMap (κ:Nat)
 | lookup (kk:Nat) (z:P)
 | update (kk:Nat)
 | fail
 | call (f:Nat) (pass:Bool) (own:List Nat) (na:Nat)
 | callv (pass:Bool) (own:List Nat) (na:Nat)
 deriving Inhabited
def K.creates:K->Option Nat
 | .alloc κ _=>some κ
 | .box κ=>some κ
 | .makeMap κ=>some κ
 | _=>none
structure SOp where
 kind:K
 ins:List Arg
 takes:List Nat
 outs:List Nat
 guard:Option (Nat×Bool)
 dst:Bool
 deriving Inhabited
inductive Gh where
 | thaw (k i κ s:Nat)
 | shut (k i κ s:Nat)
 | pub (k i:Nat)
 deriving Inhabited
inductive SCode where
 | gh (g:Gh) (c:SCode)
 | hg (c:SCode) (g:Gh)
 | skip
 | region (ops:List SOp)
 | seq (a b:SCode)
 | cond (c:Arg) (a b:SCode)
 | block (id:Nat) (c:SCode)
 | loop (live:List Nat) (c:SCode)
 | exit (id:Nat)
 | ret
 deriving Inhabited
inductive Res where
 | tmp (k:Nat)
 | cell (t κ:Nat) (n:Option Nat)
 deriving Inhabited
structure SFunc where
 nargs:Nat
 pl:List Bool
 res:List Res
 code:SCode
 deriving Inhabited
def OBJS:Nat:=9999
def Zu0:Nat:=9998
def BOX:Nat:=10000
def C.held:C->Bool
 | .tip _ _=>true
 | .uniq _ _=>true
 | .map _ _=>true
 | _=>false
def cut {α:Type} (l:List α) (off n:Nat):Option (List α):=
 if off+n<=l.length then some ((l.drop off).take n) else none
def put (l:List C) (off:Nat) (xs:List C):Option (List C):=
 if off+xs.length<=l.length then some (l.take off++xs++l.drop (off+xs.length)) else none
def ZsS (n:Option Nat) (cs:List C):Option A:=
 match n,cs with
 | none,[c]=>some (.one c)
 | none,_=>none
 | some _,cs=>some (.agg cs)
def Zfl:Option Nat->Nat
 | none=>1
 | some n=>n
def bytesLess:List Nat->List Nat->Bool
 | _,[]=>false
 | [],_::_=>true
 | a::x,b::y=>Nat.blt a b||(Nat.beq a b && bytesLess x y)
def eqS:List Nat->List Nat->Bool
 | [],[]=>true
 | a::x,b::y=>Nat.beq a b && eqS x y
 | _,_=>false
def ZfP (op:BinOp) (k:IntKind) (x y:Int):Option P:=
 match op with
 | .add=>some (.int k (k.wrap (x+y)))
 | .sub=>some (.int k (k.wrap (x-y)))
 | .mul=>some (.int k (k.wrap (x*y)))
 | .quo=>if y=0 then none else some (.int k (k.wrap (x.tdiv y)))
 | .rem=>if y=0 then none else some (.int k (x.tmod y))
 | .and=>some (.int k (k.wrap (BitVec.ofInt k.bits x &&& BitVec.ofInt k.bits y).toNat))
 | .or=>some (.int k (k.wrap (BitVec.ofInt k.bits x|||BitVec.ofInt k.bits y).toNat))
 | .eql=>some (.bool (x==y))
 | .neq=>some (.bool (x !=y))
 | .lss=>some (.bool (x<y))
 | .leq=>some (.bool (x<=y))
 | .gtr=>some (.bool (x>y))
 | .geq=>some (.bool (x>=y))
 | _=>none
def Zl4 (op:BinOp) (x y:List Nat):Option P:=
 match op with
 | .add=>if x.length+y.length<ZeA then some (.str (x++y)) else none
 | .eql=>some (.bool (eqS x y))
 | .neq=>some (.bool (!eqS x y))
 | .lss=>some (.bool (bytesLess x y))
 | .leq=>some (.bool (bytesLess x y||eqS x y))
 | .gtr=>some (.bool (!(bytesLess x y||eqS x y)))
 | .geq=>some (.bool (!bytesLess x y))
 | _=>none
def pBin (op:BinOp):P->P->Option P
 | .int k x,.int k' y=>if k=k' then ZfP op k x y else none
 | .str x,.str y=>Zl4 op x y
 | _,_=>none
def one (x:P):D:= .a (.one (.p x))
def Zgu:List D->Option (List (List P))
 | []=>some []
 | .a x::r=>match toPs x.cells,Zgu r with
   | some row,some rows=>some (row::rows)
   | _,_=>none
 | _=>none
def Ze4 (z:List C):List (Nat×Nat)->List D->Option (List C)
 | [],[]=>some z
 | (o,n)::os,.a x::r=>if x.cells.length=n then (match put z o x.cells with
   | some z'=>Ze4 z' os r
   | none=>none) else none
 | _,_=>none
def ZhC:List (List P)->Option (List Nat)
 | []=>some []
 | [.int .u8 n]::r=>if 0<=n/\n<256 then (match ZhC r with
   | some s=>some (n.toNat::s)
   | none=>none) else none
 | _=>none
def Zme:List D->Option (Nat×List D)
 | .a (.one (.p (.int .i64 n)))::r=>if 0<=n then some (n.toNat,r) else none
 | _=>none
def ZbX (lo hi:Bool) (len:Nat) (ds:List D):Option (Nat×Nat×List D):=
 match (if lo then Zme ds else some (0,ds)) with
 | none=>none
 | some (l,r)=>
   match (if hi then Zme r else some (len,r)) with
   | none=>none
   | some (h,r')=>if l<=h/\h<=len then some (l,h,r') else none
def R.down (m:Option Nat) (own:List Nat) (r:R):Option R:=
 match r.own with
 | false=>if r.k<m.getD 0 then some r else none
 | true=>match own.idxOf? r.k with
   | some i=>some ⟨false,m.getD 0+i,r.off⟩
   | none=>none
def R.up (m:Option Nat) (own:List Nat) (r:R):Option R:=
 match r.own with
 | true=>none
 | false=>if r.k<m.getD 0 then some r else (own[r.k-m.getD 0]?).map fun κ=>⟨true,κ,r.off⟩
def C.mapR (φ:R->Option R):C->Option C
 | .ref r=>(φ r).map .ref
 | .own r s n=>match φ r with
   | some r'=>some (.own r' s n)
   | none=>some (.hdr n)
 | .mptr r=>match φ r with
   | some r'=>some (.mptr r')
   | none=>some .junk
 | .map r es=>match φ r with
   | some r'=>some (.map r' es)
   | none=>some .junk
 | .clo f first caps=>match first.mapM φ,caps.mapM φ with
   | some x,some y=>some (.clo f x y)
   | _,_=>none
 | c=>some c
def Zl9 (φ:R->Option R):List C->Option (List C)
 | []=>some []
 | c::r=>match c.mapR φ,Zl9 φ r with
   | some x,some xs=>some (x::xs)
   | _,_=>none
def A.mapR (φ:R->Option R):A->Option A
 | .one c=>(c.mapR φ).map .one
 | .agg cs=>(Zl9 φ cs).map .agg
def ZlP (φ:R->Option R):List A->Option (List A)
 | []=>some []
 | c::r=>match c.mapR φ,ZlP φ r with
   | some x,some xs=>some (x::xs)
   | _,_=>none
def Zmc (φ:R->Option R):List (List C)->Option (List (List C))
 | []=>some []
 | c::r=>match Zl9 φ c,Zmc φ r with
   | some x,some xs=>some (x::xs)
   | _,_=>none
def asOf:List D->Option (List A)
 | []=>some []
 | .a x::r=>(asOf r).map (x:: ·)
 | _=>none
def Zdf:List D->Option (List (List C))
 | []=>some []
 | .a (.agg cs)::r=>(Zdf r).map (cs:: ·)
 | _=>none
abbrev ZaQ:=Nat->List A->List (List C)->Option (List A×List (List C))
def resD:List A->D
 | [x]=> .a x
 | xs=> .tup xs
def ZcK:Bool->List D->Option (List (List C)×List D)
 | false,r=>some ([],r)
 | true,.objs os::r=>some (os,r)
 | true,_=>none
def ZfY (pass:Bool) (own:List Nat) (n k:Nat) (rs:List A) (os:List (List C)):Option (List D):=
 if os.length=k then
  match ZlP (R.up (some n) own) rs,Zmc (R.up (some n) own) os with
  | some rs',some os₂=>some (resD rs'::((if pass then [.objs (os₂.take n)] else [])++(os₂.drop n).map fun cs=> .a (.agg cs)))
  | _,_=>none
 else none
def ZsU (F:ZaQ) (f:Nat) (pass:Bool) (own:List Nat) (n:Nat) (args:List A) (os:List (List C)):Option (List D):=
 match F f args os with
 | some (rs,os')=>ZfY pass own n os.length rs os'
 | none=>none
def C.lone:C->C
 | .uniq _ rows=> .hdr rows.length
 | .map r _=> .mptr r
 | c=>c
def A.lone:A->A
 | .one c=> .one c.lone
 | .agg cs=> .agg (cs.map C.lone)
def ZcU (F:ZaQ) (f:Nat) (pass:Bool) (own:List Nat) (args:List A) (rest:List D):Option (List D):=
 match ZcK pass rest with
 | none=>none
 | some (os,bs)=>
   match Zdf bs,ZlP (R.down (some os.length) own) (args.map A.lone) with
   | some cs,some xs=>
     match Zmc (R.down (some os.length) own) ((os++cs).map fun l=>l.map C.lone) with
     | none=>none
     | some os'=>ZsU F f pass own os.length xs os'
   | _,_=>none
def ZbK (n:Option Nat) (cs:List C) (off:Nat):Option A:=
 match cut cs off (Zfl n) with
 | some xs=>ZsS n xs
 | none=>none
def ZbQ (n:Option Nat) (cs:List C) (off:Nat):List C:=
 cs.take off++((cs.drop off).take (Zfl n)).map C.plain++cs.drop (off+Zfl n)
def ZrX:List D->Option (List D)
 | [x]=>some [x]
 | _=>none
def ZqZ:List D->Option (List D)
 | [.a (.one (.p (.bool b))),x,y]=>some [if b then x else y]
 | _=>none
def ZnH (κ:Nat) (z:List C):List D->Option (List D)
 | []=>some [.a (.one (.ref ⟨true,κ,0⟩)),.a (.agg z)]
 | _=>none
def Ztb (κ:Nat):List D->Option (List D)
 | [.a x]=>some [.a (.one (.ref ⟨true,κ,0⟩)),.a (.agg x.cells)]
 | _=>none
def Zi4 (z:List C) (offs:List (Nat×Nat)) (xs:List D):Option (List D):=
 match Ze4 z offs xs with
 | some cs=>some [.a (.agg cs)]
 | none=>none
def Zof (n:Option Nat):List D->Option (List D)
 | [.a (.one (.view row off))]=>match cut row off (Zfl n) with
   | some xs=>match ZsS n (xs.map .p) with
     | some x=>some [.a x]
     | none=>none
   | none=>none
 | _=>none
def ZkR (κ:Nat) (n:Option Nat):List D->Option (List D)
 | [.a (.one (.ref ⟨true,κ',off⟩)),.a (.agg cs)]=>if κ'==κ then (match ZbK n cs off with
   | some x=>some [.a x.plain]
   | none=>none) else none
 | _=>none
def ZiZ (κ:Nat) (n:Option Nat):List D->Option (List D)
 | [.a (.one (.ref ⟨true,κ',off⟩)),.a (.agg cs)]=>if κ'==κ then (match ZbK n cs off with
   | some x=>some [.a x,.a (.agg (ZbQ n cs off))]
   | none=>none) else none
 | _=>none
def Zk6 (n:Option Nat):List D->Option (List D)
 | [.a (.one (.ref ⟨false,k,off⟩)),.objs os]=>match os[k]? with
   | some cs=>match ZbK n cs off with
     | some x=>some [.a x.plain]
     | none=>none
   | none=>none
 | _=>none
def ZiJ (κ n:Nat):List D->Option (List D)
 | [.a (.one (.ref ⟨true,κ',off⟩)),.a x,.a (.agg cs)]=>if κ'==κ && x.cells.length==n then (match put cs off x.cells with
   | some cs'=>some [.a (.agg cs')]
   | none=>none) else none
 | _=>none
def Zit (n:Nat):List D->Option (List D)
 | [.a (.one (.ref ⟨false,k,off⟩)),.a x,.objs os]=>if x.cells.length==n then (match os[k]? with
   | some cs=>match put cs off x.cells with
     | some cs'=>some [.objs (os.set k cs')]
     | none=>none
   | none=>none) else none
 | _=>none
def Zhj:List D->Option (List D)
 | [.a (.one (.ref r))]=>some [.a (.one (.ref r))]
 | [.a (.one (.view row off))]=>some [.a (.one (.view row off))]
 | _=>none
def Zgl (o:Nat):List D->Option (List D)
 | [.a (.one (.ref r))]=>some [.a (.one (.ref ⟨r.own,r.k,r.off+o⟩))]
 | [.a (.one (.view row off))]=>some [.a (.one (.view row (off+o)))]
 | _=>none
def ZeU (s:Nat):List D->Option (List D)
 | [.a (.one (.own r s' m)),.a (.one (.p (.int .i64 n)))]=>if s'=s/\0<=n/\n<m then some [.a (.one (.ref ⟨r.own,r.k,r.off+n.toNat*s⟩))] else none
 | [.a (.one c),.a (.one (.p (.int .i64 n)))]=>match c.rows with
   | some (s',rows)=>if s'=s/\0<=n then (match rows[n.toNat]? with
     | some row=>some [.a (.one (.view row 0))]
     | none=>none) else none
   | none=>none
 | _=>none
def ZiQ:List D->Option (List D)
 | [.a (.one (.p (.str t))),.a (.one (.p (.int .i64 n)))]=>if 0<=n then (match t[n.toNat]? with
   | some b=>some [one (.int .u8 b)]
   | none=>none) else none
 | _=>none
def ZrW (op:BinOp):List D->Option (List D)
 | [.a (.one (.p x)),.a (.one (.p y))]=>match pBin op x y with
   | some z=>some [one z]
   | none=>none
 | _=>none
def Zqu (op:BinOp):List D->Option (List D)
 | [.a (.one (.p (.bool x))),.a (.one (.p (.bool y)))]=>match op with
   | .eql=>some [one (.bool (x==y))]
   | .neq=>some [one (.bool (x !=y))]
   | _=>none
 | _=>none
def Zuy:List D->Option (List D)
 | [.a (.one (.p (.bool b)))]=>some [one (.bool (!b))]
 | _=>none
def ZuC:List D->Option (List D)
 | [.a (.one (.p (.int k n)))]=>some [one (.int k (k.wrap (0-n)))]
 | _=>none
def ZqP (k:IntKind):List D->Option (List D)
 | [.a (.one (.p (.int _ n)))]=>some [one (.int k (k.wrap n))]
 | _=>none
def ZiX:List D->Option (List D)
 | [.a (.one c)]=>match c.rows with
   | some (1,rows)=>match ZhC rows with
     | some t=>some [one (.str t)]
     | none=>none
   | _=>none
 | _=>none
def ZdT (s:Nat) (xs:List D):Option (List D):=
 match Zgu xs with
 | some rows=>if rows.all (fun r=>r.length==s) then some [.a (.one (.tip s rows))] else none
 | none=>none
def ZiL (s:Nat):List D->Option (List D)
 | [.a (.one (.uniq s' rows)),.a (.one c)]=>match c.rows with
   | some (s'',more)=>if s'=s/\s''=s/\rows.length+more.length<ZeA then some [.a (.one (.uniq s (rows++more)))] else none
   | none=>none
 | _=>none
def Zg6 (s:Nat):List D->Option (List D)
 | [.a (.one (.tip s' rows)),.a (.one c)]=>match c.rows with
   | some (s'',more)=>if s'=s/\s''=s/\rows.length+more.length<ZeA then some [.a (.one (.tip s (rows++more)))] else none
   | none=>none
 | _=>none
def ZqI:List D->Option (List D)
 | [.a (.one (.p (.str t)))]=>some [one (.int .i64 t.length)]
 | _=>none
def ZtS:List D->Option (List D)
 | [.a (.one (.own _ _ n))]=>some [one (.int .i64 n)]
 | [.a (.one (.hdr n))]=>some [one (.int .i64 n)]
 | [.a (.one c)]=>match c.rows with
   | some (_,rows)=>some [one (.int .i64 rows.length)]
   | none=>none
 | _=>none
def Zst:List D->Option (List D)
 | [.a (.one (.p (.int k x))),.a (.one (.p (.int k' y)))]=>if k=k' then some [one (.int k (if y<x then y else x))] else none
 | _=>none
def Zsx:List D->Option (List D)
 | [.a (.one (.p (.int k x))),.a (.one (.p (.int k' y)))]=>if k=k' then some [one (.int k (if y>x then y else x))] else none
 | _=>none
def Zh5 (s:Nat) (lo hi mx:Bool):List D->Option (List D)
 | .a (.one c)::r=>match c.rows with
   | some (s',rows)=>if s'=s then (match ZbX lo hi rows.length r with
     | some (l,h,[])=>if mx then none else some [one (.sl s ((rows.take h).drop l))]
     | some (l,h,[.a (.one (.p (.int .i64 n)))])=>if mx/\(h:Int)<=n/\n<=rows.length then some [one (.sl s ((rows.take h).drop l))] else none
     | _=>none) else none
   | none=>none
 | _=>none
def Zko (s:Nat):List D->Option (List D)
 | [.a (.one (.uniq s' rows)),.a (.one (.p (.int .i64 h)))]=>if s'=s/\0<=h/\h<=rows.length then some [.a (.one (.uniq s (rows.take h.toNat)))] else none
 | _=>none
def Zku (lo hi:Bool):List D->Option (List D)
 | .a (.one (.p (.str t)))::r=>match ZbX lo hi t.length r with
   | some (l,h,[])=>some [one (.str ((t.take h).drop l))]
   | _=>none
 | _=>none
def ZfI (i:Nat):List D->Option (List D)
 | [.tup xs]=>match xs[i]? with
   | some x=>some [.a x]
   | none=>none
 | _=>none
def Zfq:List D->Option (List R)
 | []=>some []
 | .a (.one (.ref r))::rest=>match Zfq rest with
   | some rs=>some (r::rs)
   | none=>none
 | _=>none
def Zhf (f first:Nat) (xs:List D):Option (List D):=
 match Zfq xs with
 | some rs=>some [.a (.one (.clo f (rs.take first) (rs.drop first)))]
 | none=>none
def Zgn (s:Nat):List D->Option (List D)
 | [.a (.one (.p (.int .i64 0))),.a (.one (.p (.int .i64 n)))]=>if 0<=n/\n<ZeA then some [.a (.one (.tip s []))] else none
 | _=>none
def Ze6 (s:Nat) (z:List P):List D->Option (List D)
 | [.a (.one (.p (.int .i64 n))),.a (.one (.p (.int .i64 m)))]=>if n=m/\0<=n/\n<ZeA/\z.length=s then some [.a (.one (.uniq s (List.replicate n.toNat z)))] else none
 | _=>none
def ZuN:P->Nat
 | .str _=>0
 | .int _ _=>1
 | .bool _=>2
 | .sl _ _=>3
def peqK:P->P->Option Bool
 | .str a,.str b=>some (eqS a b)
 | .int k x,.int k' y=>if k=k' then some (x==y) else none
 | .bool a,.bool b=>some (a==b)
 | _,_=>none
def Zxz:List (P×P)->P->Nat->Option (Option (Nat×P))
 | [],_,_=>some none
 | (k',x)::r,k,i=>match peqK k k' with
   | some true=>some (some (i,x))
   | some false=>Zxz r k (i+1)
   | none=>none
def Zj7 (F:ZaQ) (f:Nat) (pass:Bool) (own:List Nat) (na:Nat) (xs:List D):Option (List D):=
 match asOf (xs.take na) with
 | some args=>ZcU F f pass own args (xs.drop na)
 | none=>none
def Zju (F:ZaQ) (pass:Bool) (own:List Nat) (na:Nat):List D->Option (List D)
 | .a (.one (.clo f first caps))::xs=>match asOf (xs.take na) with
   | some args=>ZcU F f pass own (first.map (fun r=> .one (.ref r))++args++caps.map fun r=> .one (.ref r)) (xs.drop na)
   | none=>none
 | _=>none
def ZaI (F:ZaQ):K->List D->Option (List D)
 | .mov=>ZrX
 | .pick=>ZqZ
 | .alloc κ z=>ZnH κ z
 | .box κ=>Ztb κ
 | .build z offs=>Zi4 z offs
 | .load n=>Zof n
 | .loadB κ n=>ZkR κ n
 | .loadBT κ n=>ZiZ κ n
 | .loadO n=>Zk6 n
 | .loadOT _=>fun _=>none
 | .storeB κ n=>ZiJ κ n
 | .storeO n=>Zit n
 | .nilCheck=>Zhj
 | .fieldAddr o=>Zgl o
 | .indexAddr s=>ZeU s
 | .indexS=>ZiQ
 | .bin op=>ZrW op
 | .binB op=>Zqu op
 | .neqS=>fun _=>none
 | .not=>Zuy
 | .neg=>ZuC
 | .conv k=>ZqP k
 | .convBS=>ZiX
 | .buildSlice s=>ZdT s
 | .append s=>Zg6 s
 | .len=>ZtS
 | .lenS=>ZqI
 | .min2=>Zst
 | .max2=>Zsx
 | .slice s lo hi mx=>Zh5 s lo hi mx
 | .sliceS lo hi=>Zku lo hi
 | .extract i=>ZfI i
 | .makeFunc f first=>Zhf f first
 | .makeSlice s=>Zgn s
 | .makeSliceZ s z=>Ze6 s z
 | .sliceU s=>Zko s
 | .appendU s=>ZiL s
 | .makeMap _=>fun _=>none
 | .lookup _ _=>fun _=>none
 | .update _=>fun _=>none
 | .fail=>fun _=>none
 | .call f pass own na=>Zj7 F f pass own na
 | .callv pass own na=>Zju F pass own na
def Zbl (e:Env) (takes:List Nat):Arg->D
 | .k n=>if takes.elem n then e.get n else (e.get n).plain
 | .c c=> .a (.one c)
def ZaA (e:Env):List Nat->Env
 | []=>e
 | k::ks=>ZaA (e.set k (e.get k).plain) ks
def doOp (F:ZaQ) (o:SOp) (e:Env):Option Env:=
 match ZaI F o.kind (o.ins.map (Zbl e o.takes)) with
 | none=>none
 | some ds=>(ZaA e o.takes).sets o.outs ds
def ZdW (o:SOp) (e:Env):Env:=
 match o.dst,o.outs with
 | true,k::_=>e.set k (.tup [])
 | _,_=>e
def ZaT (F:ZaQ) (o:SOp) (e:Env):Option Env:=
 match o.guard with
 | none=>doOp F o e
 | some (g,want)=>match e.get g with
   | .a (.one (.p (.bool b)))=>if b==want then doOp F o e else some (ZdW o e)
   | .tup []=>some (ZdW o e)
   | _=>none
def Zdo (F:ZaQ):List SOp->Env->Option Env
 | [],e=>some e
 | o::os,e=>match ZaT F o e with
   | some e'=>Zdo F os e'
   | none=>none
inductive X where
 | normal
 | exit (id:Nat)
 | ret
 deriving DecidableEq,Inhabited
def enter:Nat->List A->List (Nat×D)
 | _,[]=>[]
 | k,x::xs=>(k,.a x)::enter (k+1) xs
def Res.get (e:Env):Res->Option A
 | .tmp k=>match e.get k with| .a x=>some x|_=>none
 | .cell t κ n=>match e.get t,e.get κ with
   | .a (.one (.ref ⟨true,κ',0⟩)),.a (.agg cs)=>if κ'==κ then ZbK n cs 0 else none
   | _,_=>none
def ZpM (e:Env):List Res->Option (List A)
 | []=>some []
 | r::rs=>match r.get e,ZpM e rs with
   | some x,some xs=>some (x::xs)
   | _,_=>none
def C.clean:C->Bool
 | .ref r=> !r.own
 | .own r _ _=> !r.own
 | .mptr r=> !r.own
 | .map r _=> !r.own
 | .clo _ first caps=>first.all (fun r=> !r.own) && caps.all (fun r=> !r.own)
 | _=>true
def A.clean (x:A):Bool:=x.cells.all C.clean
inductive Fn where
 | code (f:SFunc)
 | prim (g:List A->List (List C)->Option (List A×List (List C)))
def Zks:List Bool->List A->List A
 | b::bs,x::xs=>(if b then x.plain else x)::Zks bs xs
 | _,xs=>xs
def ZrS (f:SFunc) (e:Env):Option (List A×List (List C)):=
 match ZpM e f.res,e.get OBJS with
 | some rs,.objs os=>if rs.all A.clean && os.all (fun cs=>cs.all C.clean) then some (Zks f.pl rs,os) else none
 | _,_=>none
def Zja (S:Nat->Option Fn) (ex:SCode->Env->Option (X×Env)):ZaQ:=fun f args os=>
 match S f with
 | some (.code F)=>
   if args.length=F.nargs then
     match ex F.code (enter 0 args++[(OBJS,.objs os)]) with
     | some (.normal,e)=>ZrS F e
     | some (.ret,e)=>ZrS F e
     | _=>none
   else none
 | some (.prim g)=>g args os
 | none=>none
def A.setCell:A->Nat->C->A
 | .one _,_,c=> .one c
 | .agg cs,i,c=> .agg (cs.set i c)
def Zo0 (s:Nat):Nat->List P->List (List P)
 | 0,_=>[]
 | n+1,l=>l.take s::Zo0 s n (l.drop s)
def ZrT (k:Nat):Bool:=Nat.blt k Zu0||Nat.ble BOX k
def Zpk (k i κ s:Nat) (e:Env):D->Env
 | .a x=>match x.cells[i]? with
   | some (.uniq s' (r::rows))=>if s'==s && Nat.blt 0 s then (e.set k (.a (x.setCell i (.own ⟨true,κ,0⟩ s (rows.length+1))))).set κ (.a (.agg ((r::rows).flatten.map .p))) else e
   | _=>e
 | _=>e
def Zqs (k i κ s:Nat) (e:Env):D->D->Env
 | .a x,.a (.agg cs)=>match x.cells[i]? with
   | some (.own ⟨true,κ',0⟩ s' n)=>if κ'==κ && s'==s && Nat.ble (n*s) cs.length then (match toPs (cs.take (n*s)) with
     | some ps=>(e.set κ .undef).set k (.a (x.setCell i (.uniq s (Zo0 s n ps))))
     | none=>e) else e
   | _=>e
 | _,_=>e
def pubG (k i:Nat) (e:Env):D->Env
 | .a x=>match x.cells[i]? with
   | some (.uniq s rows)=>e.set k (.a (x.setCell i (.tip s rows)))
   | _=>e
 | _=>e
def doGh:Gh->Env->Env
 | .thaw k i κ s,e=>if ZrT k && Nat.ble BOX κ && k !=κ then Zpk k i κ s (e.kill κ) ((e.kill κ).get k) else e
 | .shut k i κ s,e=>if ZrT k && Nat.ble BOX κ && k !=κ then Zqs k i κ s e (e.get k) (e.get κ) else e
 | .pub k i,e=>if ZrT k then pubG k i e (e.get k) else e
def exec (S:Nat->Option Fn):Nat->SCode->Env->Option (X×Env)
 | 0,_,_=>none
 | n+1,c,e=>match c with
   | .gh g c=>exec S n c (doGh g e)
   | .hg c g=>match exec S n c e with
     | some (.normal,e')=>some (.normal,doGh g e')
     | r=>r
   | .skip=>some (.normal,e)
   | .region ops=>match Zdo (Zja S (exec S n)) ops (e.kills (ops.filterMap fun o=>o.kind.creates)) with
     | some e'=>some (.normal,e')
     | none=>none
   | .seq a b=>match exec S n a e with
     | some (.normal,e')=>exec S n b e'
     | r=>r
   | .cond x a b=>match Zbl e [] x with
     | .a (.one (.p (.bool t)))=>exec S n (if t then a else b) e
     | _=>none
   | .block id b=>match exec S n b e with
     | some (.exit i,e')=>if i==id then some (.normal,e') else some (.exit i,e')
     | r=>r
   | .loop live b=>match exec S n b (e.norm live) with
     | some (.normal,e')=>exec S n (.loop live b) e'
     | r=>r
   | .exit id=>some (.exit id,e)
   | .ret=>some (.ret,e)
def call (S:Nat->Option Fn) (n:Nat):ZaQ:=Zja S (exec S n)
def K.isCall:K->Bool
 | .call .. =>true
 | .callv .. =>true
 | _=>false
end Go.Am
theorem Zx3 : (∀ (p : Prop) [Decidable p], (decide p = true) = p) ∧ (∀ (p : Prop) [Decidable p], (decide p = false) ↔ ¬p) := ⟨fun _ _ => decide_eq_true_eq, fun _ _ => decide_eq_false_iff_not⟩
theorem Zx1.{u, v} : ((∀ (p : Prop) [Decidable p], (decide p = true) = p) ∧ (∀ (p : Prop) [Decidable p], (decide p = false) ↔ ¬p)) ∧ (∀ (α : Type u) [BEq α] [LawfulBEq α] (a b : α), (a != b) = true ↔ a ≠ b) ∧ (∀ (α : Sort v) (a b : α), (a ≠ b) = ¬(a = b)) ∧ (∀ b : Bool, ((!b) = true) = (b = false)) ∧ (∀ b : Bool, ((!b) = false) = (b = true)) ∧ (∀ (p : Prop) [Decidable p], ¬¬p ↔ p) :=
  ⟨Zx3, fun _ _ _ _ _ => bne_iff_ne, fun _ _ _ => rfl, j0, Bool.not_eq_false', fun _ _ => xL⟩
theorem Zx4.{u, v} : ((∀ (p : Prop) [Decidable p], (decide p = true) = p) ∧ (∀ (p : Prop) [Decidable p], (decide p = false) ↔ ¬p)) ∧ (∀ (α : Type u) [BEq α] [LawfulBEq α] (a b : α), (a != b) = true ↔ a ≠ b) ∧ (∀ (α : Sort v) (a b : α), (a ≠ b) = ¬(a = b)) ∧ (∀ b : Bool, ((!b) = true) = (b = false)) ∧ (∀ (p : Prop) [Decidable p], ¬¬p ↔ p) :=
  ⟨Zx3, fun _ _ _ _ _ => bne_iff_ne, fun _ _ _ => rfl, j0, fun _ _ => xL⟩
theorem Zx2.{u} : (∀ (α : Type u) (a : α) (l : List α), (a :: l).length = l.length + 1) ∧ (∀ (α : Type u), ([] : List α).length = 0) ∧ (∀ (α : Type u) (a b : List α), (a ++ b).length = a.length + b.length) ∧ (∀ (α : Type u) (l : List α), l.tail.length = l.length - 1) ∧ (∀ (α : Type u) (i : Nat) (l : List α), (l.drop i).length = l.length - i) :=
  ⟨fun _ _ _ => yZ, fun _ => qX, fun _ _ _ => jS, fun _ _ => List.length_tail, fun _ _ _ => List.length_drop⟩
theorem Yx7 : ((∀ (p : Prop) [Decidable p], (decide p = true) = p) ∧ (∀ (p : Prop) [Decidable p], (decide p = false) ↔ ¬p)) ∧ (∀ b : Bool, ((!b) = true) = (b = false)) ∧ (∀ (p : Prop) [Decidable p], ¬¬p ↔ p) :=
  ⟨Zx3, j0, fun _ _ => xL⟩
theorem Yx8 : (((∀ (p : Prop) [Decidable p], (decide p = true) = p) ∧ (∀ (p : Prop) [Decidable p], (decide p = false) ↔ ¬p)) ∧ (∀ b : Bool, ((!b) = true) = (b = false)) ∧ (∀ (p : Prop) [Decidable p], ¬¬p ↔ p)) ∧ (∀ b : Bool, ((!b) = false) = (b = true)) :=
  ⟨Yx7, Bool.not_eq_false'⟩
theorem Zx5.{u} : (∀ (α : Type u) (a b : α), (some a = some b) = (a = b)) ∧ ∀ (α : Type u) (a b : α) (l m : List α), (a :: l = b :: m) = (a = b ∧ l = m) := ⟨fun _ _ _ => qB _ _, fun _ _ _ _ _ => List.cons.injEq _ _ _ _⟩
theorem Zo {p : Prop} (h : p := by omega) : p := h
theorem Zm {p : Prop} (h : p := by dsimp only; omega) : p := h
theorem Ze {p : Prop} (h : p := by simp; omega) : p := h
theorem Za {p : Prop} (h : p := by assumption) : p := h
theorem Zd {p : Prop} (h : p := by decide) : p := h
theorem Zs {p : Prop} (h : p := by simp) : p := h
abbrev LN:=List Nat
namespace Go.Am
abbrev LP:=List (List P)
abbrev LC:=List C
abbrev P.i (x:Int):P:= .int .i64 x
abbrev C.i (x:Int):C:= .p (.int .i64 x)
abbrev C.s (x:List Nat):C:= .p (.str x)
abbrev C.l (n:Nat) (x:List (List P)):C:= .p (.sl n x)
end Go.Am
abbrev Ya:=@List.getElem?_eq_getElem
abbrev Yb:=@Bool.and_eq_true
abbrev Yc:=@Nat.le_refl
abbrev Yd:=@Nat.zero_le
abbrev Ye:=@Option.some.injEq
abbrev Yf:=@List.cons.injEq
abbrev Yg:=@List.take_of_length_le
abbrev Yh:=@List.length_map
abbrev Yi:=@List.getElem?_cons_zero
abbrev Yj:=@List.getElem?_cons_succ
abbrev Yk:=@List.mem_cons_of_mem
abbrev Yl:=@List.getElem_mem
abbrev Ym:=@List.take_add_one
abbrev Yn:=@List.getElem?_map
abbrev Yo:=@List.getElem?_append_right
abbrev Yp:=@List.map_cons
abbrev Yq:=@Nat.lt_of_lt_of_le
abbrev Yr:=@List.mem_cons_self
abbrev Ys:=@List.mem_append
abbrev Yt:=@Nat.lt_or_ge
abbrev Yu:=@List.append_assoc
abbrev Yv:=@List.mem_cons
abbrev Yw:=@Bool.false_eq_true
abbrev Yx:=@List.getElem?_append_left
abbrev Yy:=@Nat.le_trans
abbrev Yz:=@Nat.lt_succ_self
abbrev YA:=@List.mem_of_getElem?
abbrev YC:=@List.map_append
abbrev YD:=@List.map_congr_left
abbrev YE:=@List.getElem_of_mem
abbrev YF:=@List.length_append
abbrev YG:=@Option.map_eq_some_iff
abbrev YH:=@List.getElem?_take
abbrev YI:=@Nat.not_lt_zero
abbrev YJ:=@Nat.mul_le_mul_right
abbrev YK:=@List.all_eq_true
abbrev YL:=@List.map_map
abbrev YM:=@Prod.mk.injEq
abbrev YN:=@Option.map_some
abbrev YO:=@List.length_cons
abbrev YP:=@List.nil_append

end
section
namespace Go.Am
def Le (F F':ZaQ):Prop:= ∀f args os r,F f args os=some r->F' f args os=some r
def ZjV {F F':ZaQ} (h:Le F F') {f:Nat} {pass:Bool} {own:List Nat} {args:List A} {rest ds:List D} (hc:ZcU F f pass own args rest=some ds):ZcU F' f pass own args rest=some ds:=by
 unfold ZcU at hc⊢;split at hc
 ·cases hc
 ·split at hc
  ·split at hc
   ·cases hc
   ·rename_i os' h4;unfold ZsU at hc⊢;split at hc
    ·rename_i rs os'' h5;rw [h _ _ _ _ h5];exact hc
    ·cases hc
  ·cases hc
def Zr3 {F F':ZaQ} (h:Le F F') {k:K} {ds ds':List D} (hc:ZaI F k ds=some ds'):ZaI F' k ds=some ds':=by
 cases k with
 | call f pass own na=>
   simp only [ZaI,Zj7] at hc⊢;split at hc
   · exact ZjV h hc
   · cases hc
 | callv pass own na=>
   simp only [ZaI] at hc⊢;unfold Zju at hc⊢;split at hc
   · split at hc
     · exact ZjV h hc
     · cases hc
   · cases hc
 | _=>exact hc
def ZqQ {F F':ZaQ} (h:Le F F') {o:SOp} {e e':Env} (hc:doOp F o e=some e'):doOp F' o e=some e':=by
 unfold doOp at hc⊢;split at hc
 ·cases hc
 ·rename_i ds hs;rw [Zr3 h hs];exact hc
def ZmF {F F':ZaQ} (h:Le F F') {o:SOp} {e e':Env} (hc:ZaT F o e=some e'):ZaT F' o e=some e':=by
 unfold ZaT at hc⊢;split at hc
 ·exact ZqQ h hc
 ·split at hc
  ·split at hc
   ·rename_i hb;rw [if_pos hb];exact ZqQ h hc
   ·rename_i hb;rw [if_neg hb];exact hc
  ·exact hc
  ·cases hc
def Zjh {F F':ZaQ} (h:Le F F'): ∀{os:List SOp} {e e':Env},Zdo F os e=some e'->Zdo F' os e=some e'
 | [],_,_,hc=>hc
 | o::os,e,e',hc=>by
   simp only [Zdo] at hc⊢;split at hc
   · rename_i e1 h1;rw [ZmF h h1];exact Zjh h hc
   · cases hc
def Zmn {S:Nat->Option Fn} {ex ex':SCode->Env->Option (X×Env)} (h: ∀c e r,ex c e=some r->ex' c e=some r):Le (Zja S ex) (Zja S ex'):=by
 intro f args os r hc;unfold Zja at hc⊢;split at hc
 ·split at hc
  ·rename_i hl;rw [if_pos hl];split at hc
   ·rename_i e he;rw [h _ _ _ he];exact hc
   ·rename_i e he;rw [h _ _ _ he];exact hc
   ·cases hc
  ·cases hc
 ·exact hc
 ·cases hc
def ZuE {S:Nat->Option Fn}: ∀(n:Nat) (c:SCode) (e:Env) (r:X×Env),exec S n c e=some r->exec S (n+1) c e=some r:=by
 intro n
 induction n with
 | zero=>intro c e r h;simp [exec] at h
 | succ n ih=>
   intro c e r h;cases c with
   | gh g c=>simp only [exec] at h⊢;exact ih _ _ _ h
   | hg c g=>
     rw [exec] at h⊢;split at h
     · rename_i e' he;rw [ih _ _ _ he];exact h
     · rename_i q hq;rw [ih _ _ _ h];obtain ⟨x,e'⟩:=r;cases x with
       | normal=>exact absurd h (fun hh=>hq _ hh)
       | _=>rfl
   | skip=>exact h
   | region ops=>
     rw [exec] at h⊢;split at h
     · rename_i e' he;rw [Zjh (Zmn ih) he];exact h
     · cases h
   | seq a b=>
     rw [exec] at h⊢;split at h
     · rename_i e' he;rw [ih _ _ _ he];exact ih _ _ _ h
     · rename_i q hq;rw [ih _ _ _ h];obtain ⟨x,e'⟩:=r;cases x with
       | normal=>exact absurd h (fun hh=>hq _ hh)
       | _=>rfl
   | cond x a b=>
     simp only [exec] at h⊢;split at h
     · exact ih _ _ _ h
     · cases h
   | block id b=>
     rw [exec] at h⊢;split at h
     · rename_i i e' he;rw [ih _ _ _ he];exact h
     · rename_i q hq;rw [ih _ _ _ h];obtain ⟨x,e'⟩:=r;cases x with
       | exit i=>exact absurd h (fun hh=>hq _ _ hh)
       | _=>rfl
   | loop live b=>
     rw [exec] at h⊢;split at h
     · rename_i e' he;rw [ih _ _ _ he];exact ih _ _ _ h
     · rename_i q hq;rw [ih _ _ _ h];obtain ⟨x,e'⟩:=r;cases x with
       | normal=>exact absurd h (fun hh=>hq _ hh)
       | _=>rfl
   | exit id=>exact h
   | ret=>exact h
def Zi1 {S:Nat->Option Fn} {n m:Nat} (hnm:n<=m) {c:SCode} {e:Env} {r:X×Env} (h:exec S n c e=some r):exec S m c e=some r:=by
 obtain ⟨k,rfl⟩:=Nat.exists_eq_add_of_le hnm
 induction k with
 | zero=>exact h
 | succ k ih=>exact ZuE _ _ _ _ (ih Zo)
def Zmt {S:Nat->Option Fn} {n m:Nat} (hnm:n<=m):Le (call S n) (call S m):=Zmn fun _ _ _ h=>Zi1 hnm h
end Go.Am
end
section
namespace Go.Am.Tx
abbrev v (k:Nat):Arg:= .k k
abbrev n (i:Int):Arg:= .c (.p (.int .i64 i))
abbrev s (l:List Nat):Arg:= .c (.p (.str l))
abbrev z (s:Nat):Arg:= .c (.tip s [])
abbrev b (t:Bool):Arg:= .c (.p (.bool t))
abbrev o (k:K) (i:List Arg) (d:Nat):SOp:=⟨k,i,[],[d],none,true⟩
abbrev og (k:K) (i:List Arg) (d j:Nat) (t:Bool):SOp:=⟨k,i,[],[d],some (j,t),true⟩
abbrev m (a d:Nat):SOp:=⟨.mov,[.k a],[],[d],none,true⟩
abbrev mt (a d:Nat):SOp:=⟨.mov,[.k a],[a],[d],none,true⟩
abbrev r (l:List SOp):SCode:= .region l
abbrev q (a b:SCode):SCode:= .seq a b
abbrev i (c:Nat) (a b:SCode):SCode:= .cond (.k c) a b
abbrev e:SCode:= .skip
abbrev f (k a d:Nat):SOp:=⟨.fieldAddr k,[.k a],[],[d],none,true⟩
abbrev fg (k a d j:Nat) (t:Bool):SOp:=⟨.fieldAddr k,[.k a],[],[d],some (j,t),true⟩
abbrev mv (a:Arg) (d:Nat):SOp:=⟨.mov,[a],[],[d],none,true⟩
abbrev mg (a:Arg) (d j:Nat) (t:Bool):SOp:=⟨.mov,[a],[],[d],some (j,t),true⟩
abbrev ld (κ a d:Nat):SOp:=⟨.loadB κ none,[.k a,.k κ],[],[d],none,true⟩
abbrev ln (κ n a d:Nat):SOp:=⟨.loadB κ (some n),[.k a,.k κ],[],[d],none,true⟩
abbrev lg (κ a d j:Nat) (t:Bool):SOp:=⟨.loadB κ none,[.k a,.k κ],[],[d],some (j,t),true⟩
abbrev lt (κ a d:Nat):SOp:=⟨.loadBT κ none,[.k a,.k κ],[κ],[d,κ],none,true⟩
abbrev st (κ n a:Nat) (x:Arg):SOp:=⟨.storeB κ n,[.k a,x,.k κ],[κ],[κ],none,false⟩
abbrev su (κ n a x:Nat):SOp:=⟨.storeB κ n,[.k a,.k x,.k κ],[κ,x],[κ],none,false⟩
abbrev ap (s a b d:Nat):SOp:=⟨.append s,[.k a,.k b],[a],[d],none,true⟩
abbrev bx (κ:Nat) (a:Arg) (d:Nat):SOp:=⟨.box κ,[a],[],[d,κ],none,true⟩
abbrev x (i a d:Nat):SOp:=⟨.extract i,[.k a],[],[d],none,true⟩
abbrev xt (i a d:Nat):SOp:=⟨.extract i,[.k a],[a],[d],none,true⟩
abbrev ix (s a:Nat) (b:Arg) (d:Nat):SOp:=⟨.indexAddr s,[.k a,b],[],[d],none,true⟩
abbrev bs (s:Nat) (l:List Arg) (d:Nat):SOp:=⟨.buildSlice s,l,[],[d],none,true⟩
abbrev le (a d:Nat):SOp:=⟨.len,[.k a],[],[d],none,true⟩
abbrev ca (f n:Nat) (l:List Arg) (d:Nat):SOp:=⟨.call f false [] n,l,[],[d],none,true⟩
abbrev cp (f n:Nat) (l:List Arg) (d:Nat):SOp:=⟨.call f true [] n,l,[9999],[d,9999],none,true⟩
abbrev nt (a d:Nat):SOp:=⟨.not,[.k a],[],[d],none,true⟩
abbrev ad:K:= .bin .add
abbrev sb:K:= .bin .sub
abbrev eq:K:= .bin .eql
abbrev ne:K:= .bin .neq
abbrev ls:K:= .bin .lss
abbrev gr:K:= .bin .gtr
abbrev ge:K:= .bin .geq
abbrev ci (i:Int):C:= .p (.int .i64 i)
abbrev cs (l:List Nat):C:= .p (.str l)
abbrev cb (t:Bool):C:= .p (.bool t)
abbrev ct (s:Nat):C:= .tip s []
abbrev k (id:Nat) (c:SCode):SCode:= .block id c
abbrev lo (l:List Nat) (c:SCode):SCode:= .loop l c
abbrev ex (id:Nat):SCode:= .exit id
abbrev al (κ:Nat) (z:List C) (d:Nat):SOp:=⟨.alloc κ z,[],[],[d,κ],none,true⟩
abbrev cm (f n:Nat) (l:List Arg) (t d:Nat):SOp:=⟨.call f false [] n,l,[t],[d],none,true⟩
abbrev cv (n:Nat) (l:List Arg) (d:Nat):SOp:=⟨.callv true [] n,l,[9999],[d,9999],none,true⟩
abbrev lp (a d:Nat):SOp:=⟨.load none,[.k a],[],[d],none,true⟩
abbrev ls2 (n a d:Nat):SOp:=⟨.load (some n),[.k a],[],[d],none,true⟩
abbrev pk (l:List Arg) (d:Nat):SOp:=⟨.pick,l,[],[d],none,true⟩
abbrev u (i:Int):Arg:= .c (.p (.int .u8 i))
abbrev zN:List C:=[ci 0,cs [],ci 0,ci 0,cs [],ci 0,ct 4,ct 4,ct 10,ci 0]
abbrev zF:List C:=[cs [],ct 1,ct 10,ct 6,ci 0,cs [],ci 0,ct 4,ci 0,cs [],ci 0,ct 4,ci 0,cs [],ci 0,ci 0,cs [],ci 0,ct 4,ct 4,ct 10,ci 0]
abbrev zO:List C:=[cs [],ci 0,ct 1,cb false,cb false,ct 6,ct 3,ci 0,cs [],ci 0,ci 0,cs [],ci 0,ct 4,ct 4,ct 10,ci 0]
abbrev zI:List C:=[cs [],ci 0,cs [],ci 0,ct 4,cb false]
abbrev zC:List C:=[cs [],ci 0,cs [],ci 0,ct 4,ct 1,ct 10,ct 4,ct 1]
abbrev zR:List C:=[ci 0,ci 0,cs [],ci 0,ct 4,cs [],ci 0,cs [],ci 0,ct 4]
abbrev zP:List C:=[cs [],ci 0,ci 0,cs [],ci 0,ct 4]
abbrev zM:List C:=[cs [],ct 6,ci 0,cs [],ci 0,ct 4,ci 0,cs [],ci 0,ct 4]
abbrev zT:List C:=[ci 0,cs [],ci 0,ct 4]
abbrev bd (z:List C) (p:List (Nat×Nat)) (l:List Arg) (d:Nat):SOp:=⟨.build z p,l,[],[d],none,true⟩
def zD:Nat->List C
 | 0=>zN
 | 1=>zT
 | 2=>[ci 0,ci 0]
 | 3=>[cs [],ct 2,ct 10]
 | 4=>zO
 | 5=>[ct 17,ct 3,ct 9,ct 22]
 | 6=>[ct 6,ci 0,cs [],ci 0,ct 4,ci 0,cs [],ci 0,ct 4]
 | 7=>zF
 | 8=>[ci 0,cs [],ci 0,ci 0]
 | 9=>[cs [],ci 0,cb false]
 | 10=>zP
 | 11=>[ci 0,ct 4,ct 3]
 | 12=>[ct 1,ci 0,cs [],ci 0,ct 4]
 | 13=>[cs [],ct 1]
 | 14=>[cs [],ct 4,cb false]
 | 15=>[ct 1,ct 1,ct 1,ct 1,ct 1,ct 1]
 | 16=>zM
 | 17=>zC
 | 18=>zR
 | _=>[]
end Go.Am.Tx
end
section
namespace Go.Am
def Ends (S:Nat->Option Fn) (c:SCode) (e:Env) (Q:X->Env->Prop):Prop:= ∃n x e',exec S n c e=some (x,e')/\Q x e'
def Gives (S:Nat->Option Fn) (f:Nat) (args:List A) (os:List (List C)) (Q:List A->List (List C)->Prop):Prop:= ∃n rs os',call S n f args os=some (rs,os')/\Q rs os'
def EndsOps (S:Nat->Option Fn) (ops:List SOp) (e:Env) (Q:Env->Prop):Prop:= ∃n e',Zdo (call S n) ops e=some e'/\Q e'
section
variable {S:Nat->Option Fn} {Q Q':X->Env->Prop} {e:Env}
def Ends.mono {c:SCode} (h:Ends S c e Q) (hq: ∀x e,Q x e->Q' x e):Ends S c e Q':=let ⟨n,x,e',h1,h2⟩:=h;⟨n,x,e',h1,hq _ _ h2⟩
def Ends.skip (h:Q .normal e):Ends S .skip e Q:=⟨1,.normal,e,rfl,h⟩
def Ends.exit {id:Nat} (h:Q (.exit id) e):Ends S (.exit id) e Q:=⟨1,.exit id,e,rfl,h⟩
def Ends.ret (h:Q .ret e):Ends S .ret e Q:=⟨1,.ret,e,rfl,h⟩
def Ends.region {ops:List SOp} (h:EndsOps S ops (e.kills (ops.filterMap fun o=>o.kind.creates)) (Q .normal)):Ends S (.region ops) e Q:=by
 obtain ⟨n,e',h1,h2⟩:=h;exact ⟨n+1,.normal,e',by rw [exec];unfold call at h1;rw [h1],h2⟩
def after (Q:X->Env->Prop) (K:Env->Prop):X->Env->Prop
 | .normal,e=>K e
 | x,e=>Q x e
def Ends.seq {a b:SCode} (h:Ends S a e (after Q fun e'=>Ends S b e' Q)):Ends S (.seq a b) e Q:=by
 obtain ⟨n,x,e',h1,h2⟩:=h;cases x with
 | normal=>
   obtain ⟨m,x2,e2,h3,h4⟩:=h2;refine ⟨max n m+1,x2,e2,?_,h4⟩;rw [exec,Zi1 (jT n m) h1];exact Zi1 (kK n m) h3
 | exit id=>exact ⟨n+1,.exit id,e',by rw [exec,h1],h2⟩
 | ret=>exact ⟨n+1,.ret,e',by rw [exec,h1],h2⟩
def Ends.cond {x:Arg} {a b:SCode} {t:Bool} (ht:Zbl e [] x= .a (.one (.p (.bool t)))) (h:Ends S (if t then a else b) e Q):Ends S (.cond x a b) e Q:=by
 obtain ⟨n,x',e',h1,h2⟩:=h;exact ⟨n+1,x',e',by rw [exec,ht];exact h1,h2⟩
def inBlock (id:Nat) (Q:X->Env->Prop):X->Env->Prop
 | .exit i,e=>if i=id then Q .normal e else Q (.exit i) e
 | x,e=>Q x e
def Ends.block {id:Nat} {b:SCode} (h:Ends S b e (inBlock id Q)):Ends S (.block id b) e Q:=by
 obtain ⟨n,x,e',h1,h2⟩:=h;cases x with
 | normal=>exact ⟨n+1,.normal,e',by rw [exec,h1],h2⟩
 | ret=>exact ⟨n+1,.ret,e',by rw [exec,h1],h2⟩
 | exit i=>
   simp only [inBlock] at h2;split at h2
   · rename_i hi;exact ⟨n+1,.normal,e',by rw [exec,h1];simp [hi],h2⟩
   · rename_i hi;exact ⟨n+1,.exit i,e',by rw [exec,h1];simp [hi],h2⟩
def Ends.loop {live:List Nat} {b:SCode} {α:Type} (I:α->Env->Prop) (μ:α->Nat) {i:α} (h0:I i e)
   (hr: ∀i e,I i e->Ends S b (e.norm live) (after Q fun e'=> ∃j,μ j<μ i/\I j e')):Ends S (.loop live b) e Q:=by
 have key: ∀n i e,μ i=n->I i e->Ends S (.loop live b) e Q:=by
   intro n
   induction n using Nat.strongRecOn with
   | _ n ih=>
     intro i e hn hI;obtain ⟨k,x,e',h1,h2⟩:=hr i e hI;cases x with
     | normal=>
       obtain ⟨j,hj,hI'⟩:=h2;obtain ⟨m,x2,e2,h3,h4⟩:=ih (μ j) Zo j e' rfl hI';refine ⟨max k m+1,x2,e2,?_,h4⟩;rw [exec,Zi1 (jT k m) h1];exact Zi1 (kK k m) h3
     | exit id=>exact ⟨k+1,.exit id,e',by rw [exec,h1],h2⟩
     | ret=>exact ⟨k+1,.ret,e',by rw [exec,h1],h2⟩
 exact key _ i e rfl h0
def EndsOps.nil {Q:Env->Prop} (h:Q e):EndsOps S [] e Q:=⟨0,e,rfl,h⟩
def EndsOps.cons {o:SOp} {os:List SOp} {Q:Env->Prop} {n:Nat} {e1:Env} (h1:ZaT (call S n) o e=some e1) (h:EndsOps S os e1 Q):EndsOps S (o::os) e Q:=by
 obtain ⟨m,e',h2,h3⟩:=h;refine ⟨max n m,e',?_,h3⟩;rw [Zdo,ZmF (Zmt (jT n m)) h1];exact Zjh (Zmt (kK n m)) h2
end
end Go.Am
end
section
namespace Go.Am
abbrev RR:=Option (List A×List (List C))
noncomputable def gtF (e:Env) (k:Nat):D:=List.rec (motive:=fun _=>D) .undef (fun p _ ih=>Bool.rec ih p.2 (Nat.beq p.1 k)) e
def Zoe (k:Nat): ∀e:Env,gtF e k=e.get k
 | []=>rfl
 | (k',d)::r=>by
   show Bool.rec (motive:=fun _=>D) (gtF r k) d (Nat.beq k' k)=_;rw [Zoe k r];simp only [Env.get];by_cases h:k'=k
   · subst h;simp
   · have:Nat.beq k' k=false:=by
       rw [jJ];exact fun hh=>h (qE hh)
     simp [this,h]
noncomputable def plF (d:D):D:=D.rec (motive:=fun _=>D) .undef (fun x=>A.rec (motive:=fun _=>D) (fun c=> .a (.one c.plain)) (fun cs=> .a (.agg (cs.map C.plain))) x) (fun xs=> .tup (xs.map A.plain)) (fun os=> .objs os) d
def Zv3 (d:D):plF d=d.plain:=by
 cases d with
 | a x=>cases x<;>rfl
 | _=>rfl
noncomputable def arF (e:Env) (tk:List Nat) (a:Arg):D:=Arg.rec (motive:=fun _=>D) (fun n=>List.rec (motive:=fun _=>D) (plF (gtF e n)) (fun _ _ _=>if tk.elem n then gtF e n else plF (gtF e n)) tk) (fun c=> .a (.one c)) a
def Zxg (e:Env) (tk:List Nat) (a:Arg):arF e tk a=Zbl e tk a:=by
 cases a with
 | c c=>rfl
 | k n=>
   simp only [arF,Zbl];cases tk with
   | nil=>simp [Zv3,Zoe]
   | cons t l=>simp only [Zv3,Zoe]
noncomputable def inF (e:Env) (tk:List Nat) (as:List Arg):List D:=List.rec (motive:=fun _=>List D) [] (fun a _ ih=>arF e tk a::ih) as
def Zyv (e:Env) (tk:List Nat): ∀as:List Arg,inF e tk as=as.map (Zbl e tk)
 | []=>rfl
 | a::l=>by
   show arF e tk a::inF e tk l=_;rw [Zyv e tk l,Zxg];rfl
noncomputable def paF (tk:List Nat) (e:Env):Env:=List.rec (motive:=fun _=>Env->Env) (fun e=>e) (fun k _ ih e=>ih ((k,plF (gtF e k))::e)) tk e
def ZyZ: ∀(tk:List Nat) (e:Env),paF tk e=ZaA e tk
 | [],e=>rfl
 | k::l,e=>by
   show paF l ((k,plF (gtF e k))::e)=_;rw [ZyZ l,Zv3,Zoe];rfl
noncomputable def fcF (d:D) (k:D->RR):RR:=D.rec (motive:=fun _=>RR) (k .undef) (fun x=>A.rec (motive:=fun _=>RR) (fun c=>k (.a (.one c))) (fun cs=>k (.a (.agg cs))) x) (fun xs=>k (.tup xs)) (fun os=>k (.objs os)) d
def Zxf (d:D) (k:D->RR):fcF d k=k d:=by
 cases d with
 | a x=>cases x<;>rfl
 | _=>rfl
noncomputable def seF (outs:List Nat) (ds:List D) (e:Env) (k:Env->RR):RR:=List.rec (motive:=fun _=>List D->Env->RR)
 (fun ds e=>List.rec (motive:=fun _=>RR) (k e) (fun _ _ _=>none) ds)
 (fun j _ ih ds e=>List.rec (motive:=fun _=>RR) none (fun d l _=>fcF d fun d=>ih l ((j,d)::e)) ds) outs ds e
theorem ZxF (k:Env->RR): ∀(outs:List Nat) (ds:List D) (e:Env),seF outs ds e k=match e.sets outs ds with|some e'=>k e'|none=>none
 | [],[],e=>rfl
 | [],_::_,e=>rfl
 | _::_,[],e=>rfl
 | j::l,d::ds,e=>by
   show fcF d (fun d=>seF l ds ((j,d)::e) k)=_;rw [Zxf,ZxF k l];rfl
noncomputable def semF (k:K):ZaQ->List D->Option (List D):=
 K.rec (motive:=fun _=>ZaQ->List D->Option (List D))
  (fun F=>ZrX)
  (fun F=>ZqZ)
  (fun κ z F=>ZnH κ z)
  (fun κ F=>Ztb κ)
  (fun z offs F=>Zi4 z offs)
  (fun n F=>Zof n)
  (fun κ n F=>ZkR κ n)
  (fun κ n F=>ZiZ κ n)
  (fun n F=>Zk6 n)
  (fun n F=>fun _=>none)
  (fun κ n F=>ZiJ κ n)
  (fun n F=>Zit n)
  (fun F=>Zhj)
  (fun o F=>Zgl o)
  (fun s F=>ZeU s)
  (fun F=>ZiQ)
  (fun op F=>ZrW op)
  (fun op F=>Zqu op)
  (fun F=>fun _=>none)
  (fun F=>Zuy)
  (fun F=>ZuC)
  (fun k F=>ZqP k)
  (fun F=>ZiX)
  (fun s F=>ZdT s)
  (fun s F=>Zg6 s)
  (fun F=>ZtS)
  (fun F=>ZqI)
  (fun F=>Zst)
  (fun F=>Zsx)
  (fun s lo hi mx F=>Zh5 s lo hi mx)
  (fun lo hi F=>Zku lo hi)
  (fun i F=>ZfI i)
  (fun f first F=>Zhf f first)
  (fun s F=>Zgn s)
  (fun s z F=>Ze6 s z)
  (fun s F=>Zko s)
  (fun s F=>ZiL s)
  (fun κ F=>fun _=>none)
  (fun kk z F=>fun _=>none)
  (fun kk F=>fun _=>none)
  (fun F=>fun _=>none)
  (fun f pass own na F=>Zj7 F f pass own na)
  (fun pass own na F=>Zju F pass own na) k
def Zzr (k:K) (F:ZaQ):semF k F=ZaI F k:=by cases k<;>rfl
noncomputable def ZB2 (k:K):Bool:=K.rec (motive:=fun _=>Bool) true false (fun _ _=>false) (fun _=>false) (fun _ _=>false) (fun _=>false) (fun _ _=>false) (fun _ _=>false) (fun _=>false) (fun _=>false) (fun _ _=>false) (fun _=>false) false (fun _=>false) (fun _=>false) false (fun _=>false) (fun _=>false) false false false (fun _=>false) false (fun _=>false) (fun _=>false) false false false false (fun _ _ _ _=>false) (fun _ _=>false) (fun _=>false) (fun _ _=>false) (fun _=>false) (fun _ _=>false) (fun _=>false) (fun _=>false) (fun _=>false) (fun _ _=>false) (fun _=>false) false (fun _ _ _ _=>false) (fun _ _ _=>false) k
def ZwE {k:K} (h:ZB2 k=true):k= .mov:=by cases k<;>first|rfl|cases h
noncomputable def geF (F:ZaQ) (kind:K) (ins:List Arg) (tk outs:List Nat) (e:Env) (k:Env->RR):RR:=
 Option.rec (motive:=fun _=>RR) none (fun ds=>seF outs ds (paF tk e) k) (semF kind F (inF e tk ins))
noncomputable def nilF {α:Type} (l:List α):Bool:=List.rec (motive:=fun _=>Bool) true (fun _ _ _=>false) l
noncomputable def oneF {α:Type} (l:List α):Bool:=List.rec (motive:=fun _=>Bool) false (fun _ l _=>nilF l) l
def ZvC {α:Type} {l:List α} (h:nilF l=true):l=[]:=by cases l with|nil=>rfl|cons=>cases h
def Zvh {α:Type} {l:List α} (h:oneF l=true): ∃a,l=[a]:=by
 cases l with
 | nil=>cases h
 | cons a l=>exact ⟨a,by rw [ZvC (l:=l) h]⟩
noncomputable def shF (ins:List Arg) (tk outs:List Nat) (k:K):Bool:=
 Bool.rec false (Bool.rec false (Bool.rec false (oneF outs) (oneF ins)) (nilF tk)) (ZB2 k)
noncomputable def hdF {α:Type} (z:α) (l:List α):α:=List.rec (motive:=fun _=>α) z (fun a _ _=>a) l
def ZAW {ins:List Arg} {tk outs:List Nat} {k:K} (h:shF ins tk outs k=true):k= .mov/\tk=[]/\(∃a,ins=[a])/\ ∃j,outs=[j]:=by
 unfold shF at h;cases h1:ZB2 k<;>cases h2:nilF tk<;>cases h3:oneF ins<;>rw [h1] at h<;>try cases h
 all_goals rw [h2] at h;try cases h
 all_goals rw [h3] at h;try cases h
 exact ⟨ZwE h1,ZvC h2,Zvh h3,Zvh h⟩
noncomputable def doF (F:ZaQ) (kind:K) (ins:List Arg) (tk outs:List Nat) (e:Env) (k:Env->RR):RR:=
 Bool.rec (motive:=fun _=>RR) (geF F kind ins tk outs e k) (fcF (arF e [] (hdF (.k 0) ins)) fun d=>k ((hdF 0 outs,d)::e)) (shF ins tk outs kind)
def Sub (S:Nat->Option Fn) (F:ZaQ):Prop:= ∀f args os r,F f args os=some r-> ∃m,call S m f args os=some r
variable {S:Nat->Option Fn} {F:ZaQ}
def ZlL (h:Sub S F) {f:Nat} {pass:Bool} {own:List Nat} {args:List A} {rest ds:List D} (hc:ZcU F f pass own args rest=some ds): ∃m,ZcU (call S m) f pass own args rest=some ds:=by
 unfold ZcU at hc⊢;split at hc
 ·cases hc
 ·split at hc
  ·split at hc
   ·cases hc
   ·unfold ZsU at hc⊢;split at hc
    ·rename_i h5;obtain ⟨m,hm⟩:=h _ _ _ _ h5;exact ⟨m,by rw [hm];exact hc⟩
    ·cases hc
  ·cases hc
def Zvg (h:Sub S F) {k:K} {ds ds':List D} (hc:ZaI F k ds=some ds'): ∃m,ZaI (call S m) k ds=some ds':=by
 cases k with
 | call f pass own na=>
   simp only [ZaI,Zj7] at hc⊢;split at hc
   · exact ZlL h hc
   · cases hc
 | callv pass own na=>
   simp only [ZaI] at hc⊢;unfold Zju at hc⊢;split at hc
   · split at hc
     · exact ZlL h hc
     · cases hc
   · cases hc
 | _=>exact ⟨0,hc⟩
def ZuH (h:Sub S F) {o:SOp} {e:Env} {k:Env->RR} {r:List A×List (List C)} (hc:geF F o.kind o.ins o.takes o.outs e k=some r): ∃m e',doOp (call S m) o e=some e'/\k e'=some r:=by
 unfold geF at hc;rw [Zyv,Zzr] at hc;cases ho:ZaI F o.kind (o.ins.map (Zbl e o.takes)) with
 | none=>rw [ho] at hc;cases hc
 | some ds=>
   rw [ho] at hc;obtain ⟨m,hm⟩:=Zvg h ho;have hc:seF o.outs ds (paF o.takes e) k=some r:=hc;rw [ZyZ,ZxF] at hc;split at hc
   · rename_i e' he;exact ⟨m,e',by rw [doOp,hm];exact he,hc⟩
   · cases hc
def Znm (h:Sub S F) {kind:K} {ins:List Arg} {tk outs:List Nat} {g:Option (Nat×Bool)} {b:Bool} {e:Env} {k:Env->RR} {r:List A×List (List C)} (hc:doF F kind ins tk outs e k=some r): ∃m e',doOp (call S m) ⟨kind,ins,tk,outs,g,b⟩ e=some e'/\k e'=some r:=by
 have hg:geF F kind ins tk outs e k=some r-> ∃m e',doOp (call S m) ⟨kind,ins,tk,outs,g,b⟩ e=some e'/\k e'=some r:=ZuH (o:=⟨kind,ins,tk,outs,g,b⟩) h;unfold doF at hc;cases hm:shF ins tk outs kind with
 | false=>rw [hm] at hc;exact hg hc
 | true=>
   rw [hm] at hc;obtain ⟨rfl,rfl,⟨a,rfl⟩,j,rfl⟩:=ZAW hm;have hc:fcF (arF e [] a) (fun d=>k ((j,d)::e))=some r:=hc;rw [Zxf,Zxg] at hc;exact ⟨0,_,rfl,hc⟩
noncomputable def gdF (d:D) (want:Bool) (yes no:RR):RR:=match d with
 | .a (.one (.p (.bool b)))=>Bool.rec (Bool.rec yes no want) (Bool.rec no yes want) b
 | .tup []=>no
 | _=>none
noncomputable def stF (F:ZaQ) (o:SOp) (e:Env) (k:Env->RR):RR:=
 SOp.rec (motive:=fun _=>RR) (fun kind ins tk outs guard dst=>
  Option.rec (motive:=fun _=>RR) (doF F kind ins tk outs e k)
   (fun gw=>gdF (gtF e gw.1) gw.2 (doF F kind ins tk outs e k) (k (ZdW ⟨kind,ins,tk,outs,guard,dst⟩ e))) guard) o
def ZtR (h:Sub S F) {o:SOp} {e:Env} {k:Env->RR} {r:List A×List (List C)} (hc:stF F o e k=some r): ∃m e',ZaT (call S m) o e=some e'/\k e'=some r:=by
 obtain ⟨kind,ins,tk,outs,guard,dst⟩:=o;cases guard with
 | none=>exact Znm (g:=none) (b:=dst) h hc
 | some gw=>
   obtain ⟨g,want⟩:=gw;have hc:gdF (gtF e g) want (doF F kind ins tk outs e k) (k (ZdW ⟨kind,ins,tk,outs,some (g,want),dst⟩ e))=some r:=hc;rw [Zoe] at hc;unfold gdF at hc;simp only [ZaT];split at hc
   · rename_i b hb
     try rw [hb]
     cases b<;>cases want
     · exact Znm (g:=some (g,false)) (b:=dst) h hc
     · exact ⟨0,_,rfl,hc⟩
     · exact ⟨0,_,rfl,hc⟩
     · exact Znm (g:=some (g,true)) (b:=dst) h hc
   · rename_i hb
     try rw [hb]
     exact ⟨0,_,rfl,hc⟩
   · cases hc
noncomputable def opF (F:ZaQ) (ops:List SOp) (e:Env) (k:Env->RR):RR:=
 List.rec (motive:=fun _=>Env->RR) k (fun o _ ih e=>stF F o e ih) ops e
def ZqF (h:Sub S F) {k:Env->RR} {r:List A×List (List C)}: ∀{ops:List SOp} {e:Env},opF F ops e k=some r->EndsOps S ops e fun e'=>k e'=some r
 | [],e,hc=>EndsOps.nil hc
 | o::ops,e,hc=>by
   have hc:stF F o e (fun e=>opF F ops e k)=some r:=hc;obtain ⟨m,e',h1,h2⟩:=ZtR h hc;exact EndsOps.cons h1 (ZqF h h2)
noncomputable def noF (e:Env) (live:List Nat) (k:Env->RR):RR:=List.rec (motive:=fun _=>(Env->RR)->RR) (fun k=>k []) (fun j _ ih k=>fcF (gtF e j) fun d=>ih fun l=>k ((j,d)::l)) live k
def ZyY (e:Env): ∀(live:List Nat) (k:Env->RR),noF e live k=k (e.norm live)
 | [],_=>rfl
 | j::l,k=>by
   show fcF (gtF e j) (fun d=>noF e l fun l=>k ((j,d)::l))=_;rw [Zxf,Zoe,ZyY e l];rfl
noncomputable def rgF (e:Env) (x:Res):Option A:=match x with
 | .tmp k=>match gtF e k with| .a x=>some x|_=>none
 | .cell t κ n=>match gtF e t,gtF e κ with
   | .a (.one (.ref ⟨true,κ',0⟩)),.a (.agg cs)=>if κ'==κ then ZbK n cs 0 else none
   | _,_=>none
def ZAD (e:Env) (x:Res):rgF e x=x.get e:=by cases x<;>simp only [rgF,Res.get,Zoe]<;>rfl
noncomputable def rsF (e:Env):List Res->Option (List A)
 | []=>some []
 | r::rs=>match rgF e r,rsF e rs with
   | some x,some xs=>some (x::xs)
   | _,_=>none
def Zx7 (e:Env): ∀l:List Res,rsF e l=ZpM e l
 | []=>rfl
 | r::l=>by simp only [rsF,ZpM,ZAD,Zx7 e l]<;>rfl
noncomputable def lvF (f:SFunc) (e:Env):RR:=match rsF e f.res,gtF e OBJS with
 | some rs,.objs os=>if rs.all A.clean && os.all (fun cs=>cs.all C.clean) then some (Zks f.pl rs,os) else none
 | _,_=>none
def Zy0 (f:SFunc) (e:Env):lvF f e=ZrS f e:=by simp only [lvF,ZrS,Zx7,Zoe]<;>rfl
abbrev Ex:=SCode->Env->(Env->RR)->(Nat->Env->RR)->(Env->RR)->RR
noncomputable def caF (S:Nat->Option Fn) (ex:Ex):ZaQ:=fun f args os=>
 match S f with
 | some (.code F)=>Bool.rec none (ex F.code (enter 0 args++[(OBJS,.objs os)]) (lvF F) (fun _ _=>none) (lvF F)) (Nat.beq args.length F.nargs)
 | some (.prim g)=>g args os
 | none=>none
noncomputable def cdF (d:D) (yes no:RR):RR:=match d with
 | .a (.one (.p (.bool b)))=>Bool.rec no yes b
 | _=>none
noncomputable def exF (S:Nat->Option Fn) (n:Nat):Ex:=
 Nat.rec (motive:=fun _=>Ex) (fun _ _ _ _ _=>none)
  (fun _ ih c=>SCode.rec (motive:=fun _=>Env->(Env->RR)->(Nat->Env->RR)->(Env->RR)->RR)
   (fun g _ ic e kn kx kr=>ic (doGh g e) kn kx kr)
   (fun _ g ic e kn kx kr=>ic e (fun e'=>kn (doGh g e')) kx kr)
   (fun e kn _ _=>kn e)
   (fun ops e kn _ _=>opF (caF S ih) ops (e.kills (ops.filterMap fun o=>o.kind.creates)) kn)
   (fun _ _ ia ib e kn kx kr=>ia e (fun e'=>ib e' kn kx kr) kx kr)
   (fun x _ _ ia ib e kn kx kr=>cdF (arF e [] x) (ia e kn kx kr) (ib e kn kx kr))
   (fun id _ ib e kn kx kr=>ib e kn (fun i e'=>Bool.rec (kx i e') (kn e') (Nat.beq i id)) kr)
   (fun live b ib e kn kx kr=>noF e live fun e=>ib e (fun e'=>ih (.loop live b) e' kn kx kr) kx kr)
   (fun id e _ kx _=>kx id e)
   (fun e _ _ kr=>kr e) c) n
def ZCx (kn:Env->RR) (kx:Nat->Env->RR) (kr:Env->RR):X->Env->RR
 | .normal,e=>kn e
 | .exit i,e=>kx i e
 | .ret,e=>kr e
def ZvE {ex:Ex} (h: ∀c e kn kx kr r,ex c e kn kx kr=some r->Ends S c e fun x e'=>ZCx kn kx kr x e'=some r):Sub S (caF S ex):=by
 intro f args os r hc;unfold caF at hc;split at hc
 · rename_i F hF;cases hl:Nat.beq args.length F.nargs with
   | false=>rw [hl] at hc;cases hc
   | true=>
     rw [hl] at hc;have hl:=qE hl;obtain ⟨n,x,e',h1,h2⟩:=h _ _ _ _ _ _ hc;refine ⟨n,?_⟩;unfold call Zja;rw [hF];simp only [hl,if_true,h1];cases x with
     | normal=>exact (Zy0 F e').symm.trans h2
     | ret=>exact (Zy0 F e').symm.trans h2
     | exit i=>cases h2
 · rename_i g hg;exact ⟨0,by unfold call Zja;rw [hg];exact hc⟩
 · cases hc
def Zvb: ∀(n:Nat) (c:SCode) (e:Env) (kn:Env->RR) (kx:Nat->Env->RR) (kr:Env->RR) (r:List A×List (List C)),exF S n c e kn kx kr=some r->Ends S c e fun x e'=>ZCx kn kx kr x e'=some r:=by
 intro n
 induction n with
 | zero=>intro c e kn kx kr r h;cases h
 | succ n ih=>
   intro c
   induction c with
   | gh g c ic=>
     intro e kn kx kr r h;obtain ⟨m,x,e',h1,h2⟩:=ic _ _ _ _ _ (show exF S (n+1) c (doGh g e) kn kx kr=some r from h);exact ⟨m+1,x,e',by rw [exec];exact h1,h2⟩
   | hg c g ic=>
     intro e kn kx kr r h;obtain ⟨m,x,e',h1,h2⟩:=ic _ _ _ _ _ (show exF S (n+1) c e (fun e'=>kn (doGh g e')) kx kr=some r from h);cases x with
     | normal=>exact ⟨m+1,.normal,doGh g e',by rw [exec,h1],h2⟩
     | exit i=>exact ⟨m+1,.exit i,e',by rw [exec,h1],h2⟩
     | ret=>exact ⟨m+1,.ret,e',by rw [exec,h1],h2⟩
   | skip=>intro e kn kx kr r h;exact Ends.skip h
   | region ops=>intro e kn kx kr r h;exact Ends.region (ZqF (ZvE ih) h)
   | seq a b ia ib=>
     intro e kn kx kr r h;refine Ends.seq ((ia _ _ _ _ _ (show exF S (n+1) a e (fun e'=>exF S (n+1) b e' kn kx kr) kx kr=some r from h)).mono ?_);intro x e' h2;cases x with
     | normal=>exact ib _ _ _ _ _ h2
     | exit i=>exact h2
     | ret=>exact h2
   | cond x a b ia ib=>
     intro e kn kx kr r h;have h:cdF (arF e [] x) (exF S (n+1) a e kn kx kr) (exF S (n+1) b e kn kx kr)=some r:=h;rw [Zxg] at h;unfold cdF at h;split at h
     · rename_i t ht;refine Ends.cond ht ?_;cases t
       · exact ib _ _ _ _ _ h
       · exact ia _ _ _ _ _ h
     · cases h
   | block id b ib=>
     intro e kn kx kr r h;refine Ends.block ((ib _ _ _ _ _ (show exF S (n+1) b e kn (fun i e'=>Bool.rec (kx i e') (kn e') (Nat.beq i id)) kr=some r from h)).mono ?_);intro x e' h2;cases x with
     | normal=>exact h2
     | ret=>exact h2
     | exit i=>
       simp only [inBlock];split
       · rename_i hi;subst hi;have h2:Bool.rec (kx i e') (kn e') (Nat.beq i i)=some r:=h2;rw [kY] at h2;exact h2
       · rename_i hi;have h2:Bool.rec (kx i e') (kn e') (Nat.beq i id)=some r:=h2;have:Nat.beq i id=false:=by rw [jJ];exact fun hh=>hi (qE hh)
         rw [this] at h2;exact h2
   | loop live b ib=>
     intro e kn kx kr r h;have h:noF e live (fun e=>exF S (n+1) b e (fun e'=>exF S n (.loop live b) e' kn kx kr) kx kr)=some r:=h;rw [ZyY] at h;obtain ⟨m,x,e',h1,h2⟩:=ib _ _ _ _ _ h;cases x with
     | exit i=>exact ⟨m+1,.exit i,e',by rw [exec,h1],h2⟩
     | ret=>exact ⟨m+1,.ret,e',by rw [exec,h1],h2⟩
     | normal=>
       obtain ⟨m2,x2,e2,h3,h4⟩:=ih _ _ _ _ _ _ h2;refine ⟨max m m2+1,x2,e2,?_,h4⟩;rw [exec,Zi1 (jT m m2) h1];exact Zi1 (kK m m2) h3
   | exit id=>intro e kn kx kr r h;exact Ends.exit h
   | ret=>intro e kn kx kr r h;exact Ends.ret h
noncomputable def fast (S:Nat->Option Fn) (n:Nat):ZaQ:=caF S (exF S n)
def Zcp {n f:Nat} {args:List A} {os:List (List C)} {r:List A×List (List C)} (h:fast S n f args os=some r): ∃m,call S m f args os=some r:=
 ZvE (Zvb n) f args os r h
end Go.Am
end
section
namespace Go.Am.Fe
abbrev Zkq:Nat:=174
abbrev Zeu:Nat:=102
abbrev Zge:Nat:=175
abbrev Ze0:Nat:=176
abbrev Zkn:Nat:=246
abbrev Zct:Nat:=72
abbrev Zif:Nat:=177
abbrev Zhm:Nat:=103
abbrev Zkw:Nat:=104
abbrev Zhi:Nat:=178
abbrev Zkm:Nat:=179
abbrev Zkl:Nat:=180
abbrev Zg8:Nat:=181
abbrev Zf9:Nat:=182
abbrev ZmT:Nat:=105
abbrev Zij:Nat:=63
abbrev Zal:Nat:=66
abbrev Zar:Nat:=187
abbrev ZcH:Nat:=183
abbrev Zaj:Nat:=106
abbrev Zbp:Nat:=247
abbrev Zak:Nat:=184
abbrev Zad:Nat:=186
abbrev Zb8:Nat:=191
abbrev Zbn:Nat:=185
abbrev Zbw:Nat:=190
abbrev Zcd:Nat:=248
abbrev ZaJ:Nat:=188
abbrev Zg9:Nat:=399
abbrev Zet:Nat:=401
abbrev Zby:Nat:=416
abbrev ZdN:Nat:=419
abbrev Zbu:Nat:=415
abbrev Zb9:Nat:=193
abbrev ZcC:Nat:=417
abbrev ZdL:Nat:=418
abbrev ZdJ:Nat:=414
abbrev ZcE:Nat:=411
abbrev Za3:Nat:=400
abbrev ZbZ:Nat:=372
abbrev Zas:Nat:=334
abbrev Zde:Nat:=332
abbrev ZaF:Nat:=333
abbrev ZaO:Nat:=373
abbrev Zc5:Nat:=335
abbrev Zki:Nat:=374
abbrev ZcL:Nat:=336
abbrev Zbg:Nat:=293
abbrev Zbq:Nat:=249
abbrev Zax:Nat:=189
abbrev Zcc:Nat:=107
abbrev ZdQ:Nat:=108
abbrev Zcu:Nat:=192
abbrev Zbm:Nat:=111
abbrev Zcj:Nat:=109
abbrev ZcM:Nat:=110
abbrev ZbF:Nat:=64
abbrev ZhI:Nat:=65
abbrev Zg3:Nat:=112
abbrev Zhn:Nat:=113
abbrev Zen:Nat:=67
abbrev ZgA:Nat:=28
abbrev Zgc:Nat:=194
abbrev Zjl:Nat:=114
abbrev ZdD:Nat:=11
abbrev ZbG:Nat:=40
abbrev Zhb:Nat:=257
abbrev ZgL:Nat:=199
abbrev ZmO:Nat:=116
abbrev Zkt:Nat:=68
abbrev Zat:Nat:=69
abbrev Zeq:Nat:=70
abbrev ZcW:Nat:=71
abbrev ZbM:Nat:=117
abbrev Zhg:Nat:=200
abbrev Zb2:Nat:=201
abbrev ZfN:Nat:=202
abbrev ZiA:Nat:=118
abbrev Zix:Nat:=73
abbrev ZqH:Nat:=30
abbrev Zg4:Nat:=80
abbrev Zha:Nat:=31
abbrev Zcf:Nat:=119
abbrev ZdO:Nat:=258
abbrev ZdZ:Nat:=39
abbrev Zbv:Nat:=85
abbrev ZbE:Nat:=203
abbrev ZcY:Nat:=33
abbrev Zhd:Nat:=204
abbrev Zdk:Nat:=259
abbrev ZbW:Nat:=205
abbrev ZaS:Nat:=122
abbrev Zcy:Nat:=132
abbrev Zcq:Nat:=120
abbrev ZcB:Nat:=74
abbrev ZbS:Nat:=126
abbrev Zca:Nat:=121
abbrev ZgY:Nat:=206
abbrev ZcQ:Nat:=123
abbrev ZcP:Nat:=75
abbrev Zc0:Nat:=125
abbrev ZeZ:Nat:=207
abbrev Zio:Nat:=124
abbrev Zgj:Nat:=76
abbrev Zim:Nat:=208
abbrev Zdr:Nat:=209
abbrev Zbi:Nat:=127
abbrev Zco:Nat:=210
abbrev Zkx:Nat:=128
abbrev ZdM:Nat:=129
abbrev Zgh:Nat:=130
abbrev Zil:Nat:=131
abbrev Zdh:Nat:=77
abbrev ZgG:Nat:=133
abbrev Zhk:Nat:=79
abbrev ZcA:Nat:=78
abbrev Zkg:Nat:=29
abbrev Zgf:Nat:=12
abbrev Za6:Nat:=252
abbrev ZjU:Nat:=296
abbrev Zd1:Nat:=253
abbrev ZeS:Nat:=300
abbrev ZeY:Nat:=255
abbrev ZfV:Nat:=297
abbrev ZfO:Nat:=298
abbrev Zgx:Nat:=375
abbrev ZdU:Nat:=377
abbrev ZgZ:Nat:=403
abbrev ZdE:Nat:=402
abbrev ZcZ:Nat:=378
abbrev ZaC:Nat:=338
abbrev ZcX:Nat:=379
abbrev Zfa:Nat:=339
abbrev Za1:Nat:=299
abbrev ZdX:Nat:=254
abbrev Zhp:Nat:=256
abbrev Zbk:Nat:=197
abbrev Znh:Nat:=115
abbrev Zfh:Nat:=265
abbrev Ze1:Nat:=376
abbrev ZJv:Nat:=6
abbrev ZJJ:Nat:=8
abbrev Zfr:Nat:=42
abbrev ZH1:Nat:=143
abbrev ZfG:Nat:=216
abbrev ZlD:Nat:=217
abbrev ZiO:Nat:=145
abbrev ZHT:Nat:=144
abbrev ZHW:Nat:=146
abbrev ZeB:Nat:=218
abbrev Zdi:Nat:=220
abbrev ZdC:Nat:=149
abbrev ZgE:Nat:=219
abbrev Ziw:Nat:=148
abbrev ZHV:Nat:=147
abbrev ZH6:Nat:=84
abbrev ZIU:Nat:=34
abbrev ZJw:Nat:=36
abbrev Zbx:Nat:=35
abbrev ZKt:Nat:=9
abbrev ZHu:Nat:=38
abbrev ZLR:Nat:=10
abbrev ZKN:Nat:=3
abbrev ZHf:Nat:=13
abbrev ZHm:Nat:=43
abbrev ZcI:Nat:=158
abbrev Zdb:Nat:=156
abbrev ZgP:Nat:=228
abbrev Zii:Nat:=159
abbrev Zin:Nat:=157
abbrev ZkQ:Nat:=88
abbrev ZHa:Nat:=44
abbrev ZHk:Nat:=15
abbrev ZIc:Nat:=16
abbrev ZHv:Nat:=45
abbrev ZHd:Nat:=17
abbrev ZG3:Nat:=89
abbrev ZG2:Nat:=46
abbrev ZHq:Nat:=47
abbrev ZHc:Nat:=18
abbrev ZHE:Nat:=19
abbrev ZHb:Nat:=4
abbrev ZJB:Nat:=7
abbrev ZHL:Nat:=14
abbrev ZHe:Nat:=37
end Go.Am.Fe
end
