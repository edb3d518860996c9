/- Part. -/
import Derived.Test.YtnnimjficnjbdaaGreatDoorOak
import Derived.Lib.Builder
import Derived.Laws.IdiomStrings
import Derived.Lib.UnsafeStr
import GoSem.Core.World
set_option maxRecDepth 999999
set_option maxHeartbeats 0
set_option linter.all false
section
namespace Go.Cm
open Go.Am (ZfP Zl4 eqS bytesLess)
inductive V where
 | int (k:IntKind) (n:Int)
 | bool (b:Bool)
 | str (s:List Nat)
 | nilp
 | ptr (b o:Nat)
 | nils
 | sl (b o s len lo:Nat) (ex:Bool)
 | emp
 | nilm
 | map (b:Nat)
 | nilf
 | nili
 | yld (b:Nat)
 | dat (s:Nat) (rows:List (List Go.Am.P))
 | dp (cs:List Go.Am.P)
 | fn (f:Nat) (first caps:List V)
 | agg (vs:List V)
 | tup (vs:List V)
 deriving Inhabited
inductive T (α:Type) where
 | nil
 | node (l:T α) (v:Option α) (r:T α)
def T.get {α:Type}:T α->Nat->Option α
 | .nil,_=>none
 | .node l v r,k=>cond (Nat.beq k 0) v (cond (Nat.beq (Nat.mod k 2) 1) (l.get (Nat.div k 2)) (r.get (Nat.sub (Nat.div k 2) 1)))
def T.put {α:Type}:Nat->T α->Nat->α->T α
 | 0,t,_,_=>t
 | n+1,.nil,k,x=>cond (Nat.beq k 0) (.node .nil (some x) .nil) (cond (Nat.beq (Nat.mod k 2) 1) (.node (T.put n .nil (Nat.div k 2) x) none .nil) (.node .nil none (T.put n .nil (Nat.sub (Nat.div k 2) 1) x)))
 | n+1,.node l v r,k,x=>cond (Nat.beq k 0) (.node l (some x) r) (cond (Nat.beq (Nat.mod k 2) 1) (.node (T.put n l (Nat.div k 2) x) v r) (.node l v (T.put n r (Nat.sub (Nat.div k 2) 1) x)))
structure En where
 k:V
 x:V
 born:Nat
 deriving Inhabited
inductive X where
 | normal
 | exit (id:Nat)
 | ret
 deriving DecidableEq,Inhabited
inductive O where
 | cells (cs:List V) (grp ver:Nat) (kid:Bool)
 | map (es:List En) (clock:Nat)
 | siter (s:List Nat) (pos:Nat)
 | miter (m:Option Nat) (since:Nat) (seen:List Nat) (stepped:Nat)
 | mapU (ps:List (V×V))
 | loop (st:LoopState) (pend:Option X) (e:T V) (nt:Nat) (ps:List Nat) (assign body:Code)
 deriving Inhabited
structure H where
 next:Nat
 obs:T O
 mins:T Nat
 tys:T (Nat×Nat)
def T.set {α:Type} (t:T α) (k:Nat) (x:α):T α:=T.put (k+1) t k x
def ZRK (t:T (Nat×Nat)) (b:Nat):Option (Nat×Nat)->T (Nat×Nat)
 | some x=>t.set b x
 | none=>t
def H.new (h:H) (o:O) (ty:Option (Nat×Nat):=none):H:=⟨h.next+1,h.obs.set h.next o,h.mins,ZRK h.tys h.next ty⟩
def H.newCells (h:H) (cs:List V) (ty:Option (Nat×Nat):=none):H:=h.new (.cells cs h.next 0 false) ty
def H.low (h:H) (grp:Nat):Nat:=(h.mins.get grp).getD 0
def H.rd (h:H) (b:Nat):Option (List V):=match h.obs.get b with
 | some (.cells cs grp ver _)=>if h.low grp<=ver then some cs else none
 | _=>none
def putC (cs:List V) (o:Nat) (xs:List V):Option (List V):=if o+xs.length<=cs.length then some (cs.take o++xs++cs.drop (o+xs.length)) else none
def cutC (cs:List V) (o n:Nat):Option (List V):=if o+n<=cs.length then some ((cs.drop o).take n) else none
def V.one:V->Bool
 | .agg _=>false
 | .tup _=>false
 | _=>true
def H.wr (h:H) (b o:Nat) (xs:List V):Option H:=match h.obs.get b with
 | some (.cells cs grp ver false)=>if h.low grp<=ver/\xs.all V.one=true then (match putC cs o xs with
   | some cs'=>some ⟨h.next,h.obs.set b (.cells cs' grp ver false),if h.low grp==ver then h.mins else h.mins.set grp ver,h.tys⟩
   | none=>none) else none
 | _=>none
def H.setObj (h:H) (b:Nat) (o:O):H:=⟨h.next,h.obs.set b o,h.mins,h.tys⟩
def V.cells:V->List V
 | .agg vs=>vs
 | v=>[v]
mutual
def ofConst:Value->Option V
  | .int k n=>some (.int k n)
  | .bool b=>some (.bool b)
  | .string s=>some (.str (s.data.toList.map UInt8.toNat))
  | .pointer none=>some .nilp
  | .slice none 0 0=>some .nils
  | .map none=>some .nilm
  | .nilFunc=>some .nilf
  | .nilIface=>some .nili
  | .func (.func f) a b=>if a.size==0 && b.size==0 then some (.fn f [] []) else none
  | .agg ⟨vs⟩=>(ofConsts vs).map .agg
  | .tuple ⟨vs⟩=>(ofConsts vs).map .tup
  | _=>none
def ofConsts:List Value->Option (List V)
  | []=>some []
  | v::r=>match ofConst v,ofConsts r with
    | some x,some xs=>some (x::xs)
    | _,_=>none
end
abbrev Env:=T V
def ev (e:Env):Operand->Option V
 | .tmp t=>e.get t
 | .const v=>ofConst v
 | .func f=>some (.fn f [] [])
 | .global _=>none
def evs (e:Env):List Operand->Option (List V)
 | []=>some []
 | x::r=>match ev e x,evs e r with
   | some v,some vs=>some (v::vs)
   | _,_=>none
section
variable (P:Program)
def szOf (t:TypeId):Option Nat:=(P.info? t).map (·.size)
def ZL3 (t:TypeId):Option V:=match P.info? t with
 | some i=>match i.zero with
   | some v=>ofConst v
   | none=>none
 | none=>none
def aggT (t:TypeId):Option Bool:=match P.underlying t with
 | some (.struct _)=>some true
 | some (.array _ _)=>some true
 | some _=>some false
 | none=>none
def ZLP (t:TypeId) (cs:List V) (o:Nat):Option V:=match aggT P t,szOf P t with
 | some true,some n=>(cutC cs o n).map .agg
 | some false,some _=>cs[o]?
 | _,_=>none
def eqF (eq:TypeId→V→V→Option Bool) (a b:List V):List Field→Option Bool
  | []=>some true
  | f :: r => if f.name == "_" then eqF eq a b r else match ZLP P f.type a f.offset, ZLP P f.type b f.offset with
    | some x,some y=>match eq f.type x y with
      | some true=>eqF eq a b r
      | some false=>some false
      | none=>none
    | _,_=>none
def eqT:Nat->TypeId->V->V->Option Bool
 | 0,_,_,_=>none
 | n+1,t,x,y=>match P.underlying t,x,y with
   | some .bool,.bool a,.bool b=>some (a==b)
   | some (.int _),.int k a,.int k' b=>if k=k' then some (a==b) else none
   | some .string,.str a,.str b=>some (eqS a b)
   | some (.pointer _),.nilp,.nilp=>some true
   | some (.pointer _),.nilp,.ptr _ _=>some false
   | some (.pointer _),.ptr _ _,.nilp=>some false
   | some (.pointer te),.ptr b o,.ptr b' o'=>if Nat.beq b b' && Nat.beq o o' && (P.info? te).isSome then some true else none
   | some (.slice _),.nils,.nils=>some true
   | some (.slice _),.nils,.sl .. =>some false
   | some (.slice _),.sl ..,.nils=>some false
   | some (.slice _),.nils,.emp=>some false
   | some (.slice _),.emp,.nils=>some false
   | some (.slice _),.nils,.dat _ (_::_)=>some false
   | some (.slice _),.dat _ (_::_),.nils=>some false
   | some (.map _ _),.nilm,.nilm=>some true
   | some (.map _ _),.nilm,.map _=>some false
   | some (.map _ _),.map _,.nilm=>some false
   | some (.func _ _ _),.nilf,.nilf=>some true
   | some (.func _ _ _),.nilf,.fn .. =>some false
   | some (.func _ _ _),.fn ..,.nilf=>some false
   | some (.struct fs),.agg a,.agg b=>if P.stoodInHeld t then none else eqF P (eqT n) a b fs.toList
   | _,_,_=>none
def DEEP:Nat:=40
def ZQr:V->V->Bool
 | .int k a,.int k' b=>k==k' && a==b
 | .bool a,.bool b=>a==b
 | .str a,.str b=>eqS a b
 | _,_=>false
def ZNE:List V->List V->Bool
 | [],[]=>true
 | x::a,y::b=>ZQr x y && ZNE a b
 | _,_=>false
def ZQL:V->V->Bool
 | .agg a,.agg b=>ZNE a b
 | x,y=>ZQr x y
def ckF (ck:TypeId→V→Bool) (a:List V):List Field→Bool
  | []=>true
  | f :: r => if f.name = "_" then ckF ck a r else match ZLP P f.type a f.offset with
    | some x=>ck f.type x && ckF ck a r
    | none=>false
def ckT:Nat->TypeId->V->Bool
 | 0,_,_=>false
 | n+1,t,x=>match P.underlying t,x with
   | some (.struct fs),.agg a=>ckF P (ckT n) a fs.toList
   | some (.int _),_=>true
   | some .string,_=>true
   | some .bool,_=>true
   | some (.pointer _),_=>true
   | _,_=>false
def vAgg (t:TypeId):V->Bool
 | .agg _=>P.eqGuardType P.depth t
 | .nili=>true
 | _=>false
def binV (op:BinOp) (t:TypeId) (x y:V):Option V:=match x,y with
 | .int k x,.int k' y=>match op with
   | .shl=>if 0<=y then some (.int k (k.wrap (x*2 ^ min y.toNat k.bits))) else none
   | .shr=>if 0<=y then some (.int k (x / 2 ^ min y.toNat k.bits)) else none
   | _=>if k=k' then (match ZfP op k x y with
     | some (.int k n)=>some (.int k n)
     | some (.bool b)=>some (.bool b)
     | _=>none) else none
 | .str x,.str y=>match Zl4 op x y with
   | some (.str s)=>some (.str s)
   | some (.bool b)=>some (.bool b)
   | _=>none
 | x,y=>if vAgg P t x then none else match op with
   | .eql=>(eqT P DEEP t x y).map .bool
   | .neq=>(eqT P DEEP t x y).map fun b=> .bool (!b)
   | _=>none
def addr:V->Option (Nat×Nat)
 | .ptr b o=>some (b,o)
 | _=>none
def ZL6:V->Option Nat
 | .int _ n=>if 0<=n then some n.toNat else none
 | _=>none
def ZLU (el:TypeId):Option (Nat×List V):=match P.info? el,ZL3 P el with
 | some i,some z=>if z.cells.length=i.size/\0<i.size/\i.bytes<=65536 then some (i.size,z.cells) else none
 | _,_=>none
def ZNi (place:Nat->Option (Nat×Nat)) (cs:List V):List (Nat×V)->Option (List V)
 | []=>some cs
 | (i,v)::r=>match place i with
   | some (o,n)=>if v.cells.length==n then (match putC cs o v.cells with
     | some cs'=>ZNi place cs' r
     | none=>none) else none
   | none=>none
def ZJO (e:Env):List (Nat×Operand)->Option (List (Nat×V))
 | []=>some []
 | (i,x)::r=>match ev e x,ZJO e r with
   | some v,some vs=>some ((i,v)::vs)
   | _,_=>none
def ZOa (fs:Array Field) (i:Nat):Option (Nat×Nat):=match fs[i]? with
 | some f=>(szOf P f.type).map fun n=>(f.offset,n)
 | none=>none
def vOfP:Go.Am.P->V
 | .int k n=> .int k n
 | .bool b=> .bool b
 | .str s=> .str s
 | .sl s rows=> .dat s rows
def ZQv (h:H) (t:TypeId) (a:V):Option V:=match a with
 | .ptr b o=>match h.rd b with
   | some cs=>ZLP P t cs o
   | none=>none
 | .dp cs=>ZLP P t (cs.map vOfP) 0
 | _=>none
def ZJ5 (h:H) (t:TypeId) (a v:V):Option H:=match a with
 | .ptr b o=>if szOf P t==some v.cells.length then h.wr b o v.cells else none
 | _=>none
def cellsOf (h:H) (s:Nat):V->Option (Nat×List V)
 | .nils=>some (0,[])
 | .emp=>some (0,[])
 | .sl b o s' len _ _=>if s'=s then (match h.rd b with
   | some cs=>(cutC cs o (len*s)).map fun xs=>(len,xs)
   | none=>none) else none
 | .str t=>if s=1 then some (t.length,t.map fun (c:Nat)=>V.int .u8 c) else none
 | .dat s' rows=>if s'=s then some (rows.length,(rows.flatten).map vOfP) else none
 | _=>none
def ROOM:Nat:=1000000
def ZOt (h:H) (el b o:Nat):Option (Nat×Nat):=match h.tys.get b with
 | some (t,_)=>if t=el/\o=0 then some (el,0) else none
 | none=>none
def ZQF (h:H) (el s:Nat) (b o len n:Nat) (ex:Bool) (new:List V):Option (V×H):=
 if len+n<=ROOM then (match h.obs.get b with
   | some (.cells cs grp ver kid)=>if h.low grp<=ver then (match cutC cs o (len*s) with
     | none=>none
     | some old=>
       if ex then some (.sl h.next 0 s (len+n) (len+n) false,h.newCells (old++new) (some (el,0)))
       else if kid=false/\o+len*s=cs.length/\new.all V.one=true then
         some (.sl h.next 0 s (len+n) (len+n) false,(h.setObj b (.cells cs grp ver true)).new (.cells (old++new) grp (ver+1) false) (ZOt h el b o))
       else none) else none
   | _=>none) else none
def ZLE (h:H) (el s:Nat) (a x:V):Option (V×H):=
 match cellsOf h s x with
 | none=>none
 | some (n,new)=>
   match a with
   | .nils=>if n=0 then some (.nils,h) else if n<=ROOM then some (.sl h.next 0 s n n false,h.newCells new (some (el,0))) else none
   | .sl b o s' len lo ex=>if s'=s then
     (if len+n<=lo then (if n=0 then some (.sl b o s len lo ex,h) else
       match h.wr b (o+len*s) new with
       | some h'=>some (.sl b o s (len+n) lo ex,h')
       | none=>none)
     else ZQF h el s b o len n ex new) else none
   | _=>none
def ZNf (t:TypeId) (k:V):List En->Nat->Option (Option (Nat×V))
 | [],_=>some none
 | e::r,i=>match eqT P DEEP t k e.k with
   | some true=>some (some (i,e.x))
   | some false=>ZNf t k r (i+1)
   | none=>none
def ZMC (t:TypeId) (k:V) (es:List En):Option (Option (Nat×V)):=if ckT P DEEP t k then ZNf P t k es 0 else none
def ZSc (h:H):V->Option (List En×Nat)
 | .nilm=>some ([],0)
 | .map b=>match h.obs.get b with
   | some (.map es c)=>some (es,c)
   | _=>none
 | _=>none
def ZNj (t:TypeId) (k:V):List (V×V)->Option (Option V)
 | []=>some none
 | p::r=>match eqT P DEEP t k p.1,ZNj t k r with
   | some true,some none=>some (some p.2)
   | some false,o=>o
   | _,_=>none
def ZQn (h:H) (t:TypeId) (m k:V):Option (Option V):=match m with
 | .nilm=>(ZMC P t k []).map fun r=>r.map (·.2)
 | .map b=>match h.obs.get b with
   | some (.map es _)=>(ZMC P t k es).map fun r=>r.map (·.2)
   | some (.mapU ps)=>if ckT P DEEP t k then ZNj P t k ps else none
   | _=>none
 | _=>none
def lenM (h:H) (m:V):Option Nat:=match m with
 | .nilm=>some 0
 | .map b=>match h.obs.get b with
   | some (.map es _)=>some es.length
   | some (.mapU ps)=>some ps.length
   | _=>none
 | _=>none
def sliceBounds (len cap:Nat) (lo hi mx:Option V):Option (Nat×Nat×Nat):=
 match (match mx with|some v=>ZL6 v|none=>some cap) with
 | none=>none
 | some m=>match (match hi with|some v=>ZL6 v|none=>some len) with
   | none=>none
   | some h=>match (match lo with|some v=>ZL6 v|none=>some 0) with
     | none=>none
     | some l=>if l<=h/\h<=m/\m<=cap then some (l,h,m) else none
def optV (e:Env):Option Operand->Option (Option V)
 | none=>some none
 | some x=>(ev e x).map some
def ZPm (t:TypeId) (x:V) (lo hi mx:Option V):Option V:=
 if mx.isSome && hi.isNone then none else
 match P.underlying t,x with
 | some .string,.str s=>if mx.isSome then none else match sliceBounds s.length s.length lo hi none with
   | some (l,h,_)=>some (.str ((s.take h).drop l))
   | none=>none
 | some (.slice el),.nils=>match szOf P el,sliceBounds 0 0 lo hi mx with
   | some _,some _=>some .nils
   | _,_=>none
 | some (.slice el),.sl b o s len cl ex=>if szOf P el==some s then (match sliceBounds len cl lo hi mx with
   | some (l,hh,m)=>some (if m=l then (if mx.isSome||ex then .sl b o s 0 0 true else .emp) else .sl b (o+l*s) s (hh-l) (m-l) (mx.isSome||ex))
   | none=>none) else none
 | _,_=>none
def ZhC:List V->Option (List Nat)
 | []=>some []
 | .int .u8 n::r=>if 0<=n/\n<256 then (ZhC r).map fun l=>n.toNat::l else none
 | _=>none
def ZOy (h:H) (x:V):Option V:=match x with
 | .nils=>some (.str [])
 | .emp=>some (.str [])
 | .sl b o s len _ _=>if s=1 then (match h.rd b with
   | some cs=>(match cutC cs o len with
     | some xs=>(ZhC xs).map .str
     | none=>none)
   | none=>none) else none
 | _=>none
def isU8 (P:Program) (t:TypeId):Bool:=match P.underlying t with
 | some (.int .u8)=>true
 | _=>false
def ZMP (h:H) (t b o:Nat):Bool:=match h.rd b,P.info? t with
 | some cs,some j=>Nat.blt o cs.length && !(Nat.beq j.size 0)
 | _,_=>false
def ZKw (h:H) (u b o:Nat):Bool:=match h.tys.get b,P.info? u with
 | some (e,n),some _=> !(Nat.beq n 0) && liesAt P P.depth e (n / P.cellsOf e) o u 1
 | _,_=>false
def ZRw (h:H) (src dst:TypeId) (x:V):Option V:=
 match P.underlying src,P.underlying dst,x with
 | some (.int _),some (.int k),.int _ n=>some (.int k (k.wrap n))
 | some .string,some .string,.str s=>some (.str s)
 | some (.pointer t),some .unsafePointer,.ptr b o=>if ZMP P h t b o then some (.ptr b o) else none
 | some .unsafePointer,some (.pointer u),.ptr b o=>if ZKw P h u b o then some (.ptr b o) else none
 | some (.slice el),some .string,x=>if isU8 P el then ZOy h x else none
 | _,_,_=>none
def minV (lt:Bool):V->V->Option V
 | .int k x,.int k' y=>if k=k' then some (.int k (if lt then (if y<x then y else x) else (if y>x then y else x))) else none
 | _,_=>none
def tick (e:En) (k x:V):En:=⟨k,x,e.born⟩
def ZL7 (h:H) (t:TypeId) (b:Nat) (k x:V):Option H:=match P.underlying t,h.obs.get b with
 | some (.map kt _),some (.map es c)=>match ZMC P kt k es with
   | some (some (i,_))=>match es[i]? with
     | some e=>if ZQL e.k k then some (h.setObj b (.map (es.set i (tick e k x)) c)) else none
     | none=>none
   | some none=>some (h.setObj b (.map (es++[⟨k,x,c⟩]) (c+1)))
   | none=>none
 | _,_=>none
def ZQu (h:H) (b:Nat) (isS:Bool):Option (V×H):=match h.obs.get b with
 | some (.miter none _ _ _)=>if isS then none else some (.tup [.bool false],h)
 | some (.miter (some m) since seen stepped)=>if isS then none else match h.obs.get m with
   | some (.map es clock)=>
     if !seen.isEmpty && !es.isEmpty && es.all (fun e=>stepped<=e.born) then none else
     let left:=es.filter fun e=> !seen.contains e.born
     let old:=left.filter fun e=>e.born<since
     let new:=left.filter fun e=>since<=e.born
     match old,new with
     | [],[]=>some (.tup [.bool false],h)
     | [e],[]=>some (.tup [.bool true,e.k,e.x],h.setObj b (.miter (some m) since (seen++[e.born]) clock))
     | _,_=>none
   | _=>none
 | _=>none
def ZOZ (h:H) (b:Nat):Option V:=match h.obs.get b with
 | some (.miter (some m) _ seen stepped)=>(match h.obs.get m,seen.getLast? with
   | some (.map es clock),some st=>if clock==stepped then (es.find? fun e=>e.born==st).map fun e=> .tup [e.k,e.x] else none
   | _,_=>none)
 | _=>none
abbrev ZaQ:=Nat->List V->H->Option (V×H)
def YB:Nat:=1000000000
def ZQZ (F:ZaQ) (f:V) (args:List V) (h:H):Option (V×H):=match f with
 | .fn f first caps=>cond (Nat.blt f YB) (F f (first++args++caps) h) none
 | .yld l=>F (YB+l) args h
 | _=>none
def lenV (h:H) (t:TypeId) (x:V):Option V:=match P.underlying t,x with
 | some .string,.str s=>some (.int .i64 s.length)
 | some (.array n _),_=>some (.int .i64 n)
 | some (.slice _),.nils=>some (.int .i64 0)
 | some (.slice _),.emp=>some (.int .i64 0)
 | some (.slice _),.sl _ _ _ n _ _=>some (.int .i64 n)
 | some (.slice _),.dat _ rows=>some (.int .i64 rows.length)
 | some (.map _ _),x=>(lenM h x).map fun n=> .int .i64 n
 | _,_=>none
def ZNI (h:H) (t:TypeId) (x:V):Option H:=match P.underlying t,x with
 | some _,.nilm=>some h
 | some _,.nils=>some h
 | some (.map _ _),.map b=>(match h.obs.get b with
   | some (.map _ c)=>some (h.setObj b (.map [] c))
   | _=>none)
 | some (.slice el),.sl b o s n _ _=>(match ZLU P el with
   | some (s',z)=>if s'=s/\n≠0 then h.wr b o ((List.replicate n z).flatten) else none
   | none=>none)
 | _,_=>none
def ZQd (h:H) (t:TypeId) (d x:V):Option (V×H):=match P.underlying t with
 | some (.slice el)=>(match szOf P el with
   | some s=>(match d,cellsOf h s x with
     | .sl b o s' len _ _,some (n,cs)=>if s'=s then (if min n len=0 then some (.int .i64 0,h) else match h.wr b o (cs.take (min n len*s)) with
       | some h'=>some (.int .i64 (min n len),h')
       | none=>none) else none
     | .nils,some _=>some (.int .i64 0,h)
     | _,_=>none)
   | none=>none)
 | _=>none
def ZLC (h:H) (t:TypeId) (m k:V):Option H:=match m with
 | .map b=>match P.underlying t,h.obs.get b with
   | some (.map kt _),some (.map es c)=>match ZMC P kt k es with
     | some (some (i,_))=>some (h.setObj b (.map (es.eraseIdx i) c))
     | some none=>some h
     | none=>none
   | _,_=>none
 | _=>none
def ZPN:TypeDesc->Bool
 | .slice _=>true
 | .string=>true
 | _=>false
def appV (h:H) (t t2:TypeId) (a x:V):Option (V×H):=match P.underlying t,P.underlying t2 with
 | some (.slice el),some d=>if ZPN d then (match ZLU P el with
   | some (s,_)=>ZLE h el s a x
   | none=>none) else none
 | _,_=>none
def ZIV:V->Option V
 | .nils=>some .nilp
 | .sl b o _ _ lo _=>if Nat.beq lo 0 then none else some (.ptr b o)
 | _=>none
def H.kill (h:H) (grp ver:Nat):H:=⟨h.next,h.obs,h.mins.set grp (ver+1),h.tys⟩
def ZIb (h:H) (pt:TypeId) (p n:V):Option (V×H):=match P.underlying pt,p,n with
 | some (.pointer _),.nilp,.int .i64 n=>if n=0 then some (.str [],h) else none
 | some (.pointer el),.ptr b o,.int .i64 n=>if n=0 then some (.str [],h) else match h.obs.get b,h.tys.get b with
   | some (.cells cs grp ver false),some (e,_)=>if h.low grp<=ver/\e=el/\P.cellsOf e=1/\0<n/\n<1000000000/\o=0 then (match cutC cs 0 n.toNat with
     | some xs=>(ZhC xs).map fun l=>(.str l,h.kill grp ver)
     | none=>none) else none
   | _,_=>none
 | _,_,_=>none
def ZJQ (b:Builtin) (t:TypeId) (x:V) (h:H):Option (V×H):=match b with
 | .len=>(lenV P h t x).map fun v=>(v,h)
 | .clear=>(ZNI P h t x).map fun h=>(.tup [],h)
 | .unsafeSliceData=>(ZIV x).map fun v=>(v,h)
 | _=>none
def ZJV (b:Builtin) (t:TypeId) (ts:List TypeId) (x y:V) (h:H):Option (V×H):=match b with
 | .append=>match ts with
   | t2::_=>appV P h t t2 x y
   | []=>none
 | .copy=>ZQd P h t x y
 | .delete=>(ZLC P h t x y).map fun h=>(.tup [],h)
 | .min=>(minV true x y).map fun v=>(v,h)
 | .max=>(minV false x y).map fun v=>(v,h)
 | .unsafeString=>match ts with
   | [_]=>ZIb P h t x y
   | _=>none
 | _=>none
def ZHZ (b:Builtin) (ts:List TypeId) (args:List V) (h:H):Option (V×H):=match ts,args with
 | t::_,[x]=>ZJQ P b t x h
 | t::r,[x,y]=>ZJV P b t r x y h
 | _,_=>none
def mkV (e:Env):Op->Option ((Nat->O)×(Nat->V)×Option (Nat×Nat))
 | .alloc el=>(ZL3 P el).map fun z=>(fun i=> .cells z.cells i 0 false,fun i=> .ptr i 0,some (el,z.cells.length))
 | .box _ x=>(ev e x).map fun v=>(fun i=> .cells v.cells i 0 false,fun i=> .ptr i 0,none)
 | .buildSlice t len ps=>match P.underlying t,ZJO e ps.toList with
   | some (.slice el),some vs=>match ZLU P el with
     | some (n,z)=>if len*n<=4096 then (match ZNi (fun i=>some (i*n,n)) ((List.replicate len z).flatten) vs with
       | some cs=>some (fun i=> .cells cs i 0 false,fun i=> .sl i 0 n len len true,none)
       | none=>none) else none
     | none=>none
   | _,_=>none
 | .makeMap t r=>match P.underlying t,optV e r with
   | some (.map _ _),some none=>some (fun _=> .map [] 0,fun i=> .map i,none)
   | some (.map _ _),some (some (.int _ _))=>some (fun _=> .map [] 0,fun i=> .map i,none)
   | _,_=>none
 | .makeSlice t l c=>match P.underlying t,(ev e l).bind ZL6,(ev e c).bind ZL6 with
   | some (.slice el),some l,some c=>match ZLU P el with
     | some (n,z)=>if l<=c/\c<=4096 then some (fun i=> .cells ((List.replicate c z).flatten) i 0 false,fun i=> .sl i 0 n l c true,none) else none
     | none=>none
   | _,_,_=>none
 | _=>none
def mkR (h:H) (m:Option ((Nat->O)×(Nat->V)×Option (Nat×Nat))):Option (Option V×H):=m.map fun m=>(some (m.2.1 h.next),h.new (m.1 h.next) m.2.2)
def opV (F:ZaQ) (e:Env) (h:H):Op->Option (Option V×H)
 | .move x=>(ev e x).map fun v=>(some v,h)
 | .assign x=>(ev e x).map fun v=>(some v,h)
 | .pick c a b=>match ev e c with
   | some (.bool t)=>match ev e a,ev e b with
     | some x,some y=>some (some (if t then x else y),h)
     | _,_=>none
   | _=>none
 | .alloc el=>mkR h (mkV P e (.alloc el))
 | .box t x=>mkR h (mkV P e (.box t x))
 | .build t ps=>match ZL3 P t,P.underlying t,ZJO e ps.toList with
   | some z,some (.struct fs),some vs=>if fs.all (fun f=>(P.info? f.type).isSome) then (ZNi (ZOa P fs) z.cells vs).map fun cs=>(some (.agg cs),h) else none
   | some z,some (.array _ el),some vs=>match szOf P el with
     | some n=>(ZNi (fun i=>some (i*n,n)) z.cells vs).map fun cs=>(some (.agg cs),h)
     | none=>none
   | _,_,_=>none
 | .buildSlice t len ps=>mkR h (mkV P e (.buildSlice t len ps))
 | .load t a=>match ev e a with
   | some v=>(ZQv P h t v).map fun v=>(some v,h)
   | none=>none
 | .store t a x=>match ev e a,ev e x with
   | some a,some v=>(ZJ5 P h t a v).map fun h=>(none,h)
   | _,_=>none
 | .nilCheck x=>match ev e x with
   | some (.ptr b o)=>some (some (.ptr b o),h)
   | some (.fn f x y)=>some (some (.fn f x y),h)
   | some (.yld b)=>some (some (.yld b),h)
   | some (.dp cs)=>some (some (.dp cs),h)
   | _=>none
 | .binOp op t x y _=>match ev e x,ev e y with
   | some a,some b=>(binV P op t a b).map fun v=>(some v,h)
   | _,_=>none
 | .unOp op _ x=>match op,ev e x with
   | .not,some (.bool b)=>some (some (.bool !b),h)
   | .neg,some (.int k n)=>some (some (.int k (k.wrap (0-n))),h)
   | _,_=>none
 | .convert s d x=>match ev e x with
   | some v=>(ZRw P h s d v).map fun r=>(some r,h)
   | none=>none
 | .makeFunc (.func f) a b=>match evs e a.toList,evs e b.toList with
   | some x,some y=>some (some (.fn f x y),h)
   | _,_=>none
 | .makeMap t r=>mkR h (mkV P e (.makeMap t r))
 | .makeSlice t l c=>mkR h (mkV P e (.makeSlice t l c))
 | .slice t x lo hi mx=>match ev e x,optV e lo,optV e hi,optV e mx with
   | some v,some lo,some hi,some mx=>(ZPm P t v lo hi mx).map fun v=>(some v,h)
   | _,_,_,_=>none
 | .fieldAddr t x f=>match ev e x,Go.Am.Zo2 P t f with
   | some (.ptr b o),some off=>some (some (.ptr b (o+off)),h)
   | some (.dp cs),some off=>some (some (.dp (cs.drop off)),h)
   | _,_=>none
 | .field t x f=>match ev e x,P.underlying t with
   | some (.agg cs),some (.struct fs)=>match fs[f]? with
     | some fd=>(ZLP P fd.type cs fd.offset).map fun v=>(some v,h)
     | none=>none
   | _,_=>none
 | .indexAddr t x i=>match P.underlying t,ev e x,(ev e i).bind ZL6 with
   | some (.array n el),some (.ptr b o),some i=>match szOf P el with
     | some s=>if i<n then some (some (.ptr b (o+i*s)),h) else none
     | none=>none
   | some (.slice el),some (.sl b o s len _ _),some i=>if szOf P el==some s && decide (i<len) then some (some (.ptr b (o+i*s)),h) else none
   | some (.slice el),some (.dat s rows),some i=>if szOf P el==some s then (rows[i]?).map fun r=>(some (.dp r),h) else none
   | _,_,_=>none
 | .index t x i=>match P.underlying t,ev e x,(ev e i).bind ZL6 with
   | some (.array n el),some (.agg cs),some i=>match szOf P el with
     | some s=>if i<n then (ZLP P el cs (i*s)).map fun v=>(some v,h) else none
     | none=>none
   | some .string,some (.str s),some i=>(s[i]?).map fun (c:Nat)=>(some (V.int .u8 c),h)
   | _,_,_=>none
 | .lookup t x i ok=>match P.underlying t,ev e x,ev e i with
   | some (.map kt el),some m,some k=>match ZQn P h kt m k,ZL3 P el with
     | some (some v),_=>some (some (if ok then .tup [v,.bool true] else v),h)
     | some none,some z=>some (some (if ok then .tup [z,.bool false] else z),h)
     | _,_=>none
   | _,_,_=>none
 | .mapUpdate t m k x=>match ev e m,ev e k,ev e x with
   | some (.map b),some k,some v=>(ZL7 P h t b k v).map fun h=>(none,h)
   | _,_,_=>none
 | .insert t m k x=>match ev e m,ev e k,ev e x with
   | some (.map b),some k,some v=>(ZL7 P h t b k v).map fun h=>(none,h)
   | _,_,_=>none
 | .range t x=>match P.underlying t,ev e x with
   | some .string,some (.str s)=>some (some (.ptr h.next 0),h.new (.siter s 0))
   | some (.map _ _),some .nilm=>some (some (.ptr h.next 0),h.new (.miter none 0 [] 0))
   | some (.map _ _),some (.map b)=>match h.obs.get b with
     | some (.map _ c)=>some (some (.ptr h.next 0),h.new (.miter (some b) c [] c))
     | _=>none
   | _,_=>none
 | .next it isS=>match ev e it with
   | some (.ptr b 0)=>(ZQu h b isS).map fun r=>(some r.1,r.2)
   | _=>none
 | .entry it=>match ev e it with
   | some (.ptr b 0)=>(ZOZ h b).map fun v=>(some v,h)
   | _=>none
 | .extract t i=>match ev e t with
   | some (.tup vs)=>(vs[i]?).map fun v=>(some v,h)
   | _=>none
 | .call c=>match c.callee,evs e c.args.toList with
   | .value f,some args=>match ev e f with
     | some f=>(ZQZ F f args h).map fun r=>(some r.1,r.2)
     | none=>none
   | .builtin b,some args=>(ZHZ P b c.argTypes.toList args h).map fun r=>(some r.1,r.2)
   | _,_=>none
 | _=>none
end
def goes (ops:Array Oper) (o:Oper) (e:Env):Option Bool:=match o.guard with
 | none=>some true
 | some (j,want)=>match ops[j]? with
   | some oj=>match oj.dst with
     | some t=>match e.get t with
       | some (.bool b)=>some (b==want)
       | some (.tup [])=>some false
       | _=>none
     | none=>none
   | none=>none
def putE (nt:Nat) (e:Env) (d:Option Tmp) (v:Option V):Option Env:=match d with
 | some t=>if t<nt then some (e.set t (v.getD (.tup []))) else none
 | none=>some e
section
variable (P:Program)
def ZJX (F:ZaQ) (nt:Nat) (ops:Array Oper) (o:Oper) (e:Env) (h:H):Option (Env×H):=match goes ops o e with
 | some true=>match opV P F e h o.op with
   | some (v,h')=>(putE nt e o.dst v).map fun e=>(e,h')
   | none=>none
 | some false=>(putE nt e o.dst none).map fun e=>(e,h)
 | none=>none
def runV (F:ZaQ) (nt:Nat) (ops:Array Oper):List Oper->Env->H->Option (Env×H)
 | [],e,h=>some (e,h)
 | o::r,e,h=>match ZJX P F nt ops o e h with
   | some (e',h')=>runV F nt ops r e' h'
   | none=>none
mutual
def eqP:Go.Am.P->Go.Am.P->Bool
 | .int k a,.int k' b=>decide (k=k') && decide (a=b)
 | .bool a,.bool b=>a==b
 | .str a,.str b=>eqS a b
 | .sl s r,.sl s' r'=>Nat.beq s s' && eqPss r r'
 | _,_=>false
def eqPs:List Go.Am.P->List Go.Am.P->Bool
 | [],[]=>true
 | x::a,y::b=>eqP x y && eqPs a b
 | _,_=>false
def eqPss:List (List Go.Am.P)->List (List Go.Am.P)->Bool
 | [],[]=>true
 | x::a,y::b=>eqPs x y && eqPss a b
 | _,_=>false
end
mutual
def eqV:V->V->Bool
 | .int k a,.int k' b=>decide (k=k') && decide (a=b)
 | .bool a,.bool b=>a==b
 | .str a,.str b=>eqS a b
 | .nilp,.nilp=>true
 | .ptr a b,.ptr a' b'=>Nat.beq a a' && Nat.beq b b'
 | .nils,.nils=>true
 | .sl a b c d e x,.sl a' b' c' d' e' x'=>Nat.beq a a' && Nat.beq b b' && Nat.beq c c' && Nat.beq d d' && Nat.beq e e' && (x==x')
 | .emp,.emp=>true
 | .nilm,.nilm=>true
 | .map a,.map a'=>Nat.beq a a'
 | .nilf,.nilf=>true
 | .nili,.nili=>true
 | .yld a,.yld a'=>Nat.beq a a'
 | .dat s r,.dat s' r'=>Nat.beq s s' && eqPss r r'
 | .dp r,.dp r'=>eqPs r r'
 | .fn f a b,.fn f' a' b'=>Nat.beq f f' && eqVs a a' && eqVs b b'
 | .agg a,.agg b=>eqVs a b
 | .tup a,.tup b=>eqVs a b
 | _,_=>false
def eqVs:List V->List V->Bool
 | [],[]=>true
 | x::a,y::b=>eqV x y && eqVs a b
 | _,_=>false
end
def eqOV:V->Option V->Bool
 | x,some y=>eqV x y
 | _,none=>false
def eqOb:Option O->O->Bool
 | some (.cells cs g v k),.cells cs' g' v' k'=>eqVs cs cs' && Nat.beq g g' && Nat.beq v v' && (k==k')
 | some (.map [] c),.map [] c'=>Nat.beq c c'
 | _,_=>false
def eqTy:Option (Nat×Nat)->Option (Nat×Nat)->Bool
 | none,none=>true
 | some (a,b),some (c,d)=>Nat.beq a c && Nat.beq b d
 | _,_=>false
def ZIi:Op->Nat
 | .move _=>0
 | .assign _=>0
 | .pick .. =>0
 | .build .. =>0
 | .nilCheck _=>0
 | .binOp .. =>0
 | .unOp .. =>0
 | .makeFunc .. =>0
 | .slice .. =>0
 | .fieldAddr .. =>0
 | .field .. =>0
 | .indexAddr .. =>0
 | .index .. =>0
 | .extract .. =>0
 | .load .. =>1
 | .convert .. =>1
 | .lookup .. =>1
 | .entry _=>1
 | .alloc _=>2
 | .box .. =>2
 | .buildSlice .. =>2
 | .makeMap .. =>2
 | .makeSlice .. =>2
 | .call c=>match c.callee with
   | .builtin .len=>1
   | .builtin .min=>1
   | .builtin .max=>1
   | .builtin .unsafeSliceData=>1
   | _=>3
 | _=>3
def ZHj:Op->List Operand
 | .move x=>[x]
 | .assign x=>[x]
 | .pick c a b=>[c,a,b]
 | .box _ x=>[x]
 | .build _ ps=>ps.toList.map (·.2)
 | .buildSlice _ _ ps=>ps.toList.map (·.2)
 | .load _ a=>[a]
 | .store _ a x=>[a,x]
 | .nilCheck x=>[x]
 | .binOp _ _ x y _=>[x,y]
 | .unOp _ _ x=>[x]
 | .convert _ _ x=>[x]
 | .makeFunc _ a b=>a.toList++b.toList
 | .makeMap _ r=>r.toList
 | .makeSlice _ l c=>[l,c]
 | .slice _ x lo hi mx=>x::(lo.toList++(hi.toList++mx.toList))
 | .fieldAddr _ x _=>[x]
 | .field _ x _=>[x]
 | .indexAddr _ x i=>[x,i]
 | .index _ x i=>[x,i]
 | .lookup _ x i _=>[x,i]
 | .mapUpdate _ m k x=>[m,k,x]
 | .insert _ m k x=>[m,k,x]
 | .range _ x=>[x]
 | .next it _=>[it]
 | .entry it=>[it]
 | .extract t _=>[t]
 | .call c=>(match c.callee with| .value f=>[f]|_=>[])++c.args.toList
 | _=>[]
def ZIA:List Operand->List Nat
 | []=>[]
 | .tmp t::r=>t::ZIA r
 | _::r=>ZIA r
section
variable (ops:Array Oper)
def gtmp (o:Oper):List Nat:=match o.guard with
 | some (j,_)=>(match ops[j]? with
   | some oj=>oj.dst.toList
   | none=>[])
 | none=>[]
def ZHX (o:Oper):List Nat:=gtmp ops o++ZIA (ZHj o.op)
def ZQG (A:List Nat) (m:Nat) (e:Edge):Nat:=if Region.binds .any e then m|||((1<<<e.on)|||A.getD e.on 0) else m
def ancO (A:List Nat) (o:Oper):Nat:=o.after.toList.foldl (ZQG A) 0
def ancs:List Oper->List Nat->List Nat
 | [],A=>A
 | o::r,A=>ancs r (A++[ancO A o])
def anc (i:Nat):Nat:=(ancs ops.toList []).getD i 0
def isE (i:Nat):Bool:=match ops[i]? with
 | some o=>ZIi o.op==3
 | none=>false
def effs:List Nat:=(List.range ops.size).filter (isE ops)
def loOf (i:Nat):Nat:=((effs ops).filter fun k=>(anc ops i).testBit k).length
def hiOf (i:Nat):Nat:=((effs ops).filter fun k=> !(anc ops k).testBit i).length
def ZRq:List Nat->Nat->List Nat
 | [],s=>(List.range ops.size).filter fun i=> !isE ops i && loOf ops i==s
 | k::r,s=>((List.range ops.size).filter fun i=> !isE ops i && loOf ops i==s)++k::ZRq r (s+1)
def sch:List Nat:=ZRq ops (effs ops) 0
def ZPf:List Nat->Nat->Option Nat
 | [],m=>some m
 | i::r,m=>if !m.testBit i && (anc ops i &&& m==anc ops i) then ZPf r (m|||(1<<<i)) else none
def ZHc (i:Nat):Option Nat:=(ops[i]?).bind (·.dst)
def ZK5 (i:Nat):Bool:=match ops[i]? with
 | some o=>(List.range ops.size).all fun j=>j==i||(match ZHc ops j with
   | some t=> !(ZHX ops o).elem t||(anc ops i).testBit j||(anc ops j).testBit i
   | none=>true)
 | none=>false
def ZOj (i:Nat):Bool:=match ops[i]? with
 | some o=>o.after.toList.all (fun e=> !Region.binds .any e||Nat.blt e.on i) && anc ops i==ancO (ancs ops.toList []) o
 | none=>false
def ZOB:Bool:=(List.range ops.size).all (fun i=>ZOj ops i && ZK5 ops i && (List.range i).all fun j=>(ZHc ops i).isNone||ZHc ops i !=ZHc ops j) &&
 (List.range (effs ops).length).all (fun k=>(List.range k).all fun j=>(anc ops ((effs ops).getD k 0)).testBit ((effs ops).getD j 0)) &&
 ZPf ops (sch ops) 0==some (2 ^ ops.size-1) && (sch ops).all (fun i=>Nat.blt i ops.size) && (sch ops).filter (isE ops)==effs ops
variable (P:Program)
abbrev Snap:=Nat×Env×H
def runS (F:ZaQ) (nt:Nat):List Nat->Env->H->Option (List Snap×Env×H)
 | [],e,h=>some ([],e,h)
 | i::r,e,h=>match ops[i]? with
   | some o=>(match ZJX P F nt ops o e h with
     | some (e1,h1)=>(match runS F nt r e1 h1 with
       | some (s,e',h')=>some ((i,e,h)::s,e',h')
       | none=>none)
     | none=>none)
   | none=>none
def ZG9:List Snap->H->List H
 | [],h'=>[h']
 | x::s,h'=>if isE ops x.1 then x.2.2::ZG9 s h' else ZG9 s h'
def ZJ9 (F:ZaQ) (Hs:List H) (e':Env) (x:Snap):Bool:=match ops[x.1]? with
 | some o=>(match goes ops o x.2.1 with
   | some true=>if ZIi o.op==1 then (List.range' (loOf ops x.1) (hiOf ops x.1+1-loOf ops x.1)).all (fun j=>match Hs[j]? with
       | some hj=>(match opV P F x.2.1 hj o.op with
         | some (ov,_)=>(match o.dst with
           | some t=>eqOV (ov.getD (.tup [])) (e'.get t)
           | none=>true)
         | none=>false)
       | none=>false)
     else if ZIi o.op==2 then (match mkV P x.2.1 o.op with
       | some (c,_,ty)=>(List.range' (loOf ops x.1) (hiOf ops x.1+1-loOf ops x.1)).all (fun j=>match Hs[j]? with
         | some hj=>Nat.blt x.2.2.next hj.next && eqTy (hj.tys.get x.2.2.next) ty && eqOb (hj.obs.get x.2.2.next) (c x.2.2.next)
         | none=>false)
       | none=>false)
     else true
   | _=>true)
 | none=>false
def runD (F:ZaQ) (nt:Nat) (e:Env) (h:H):Option (Env×H):=if ZOB ops && P.follows .mixedOrders then (match runS ops P F nt (sch ops) e h with
 | some (s,e',h')=>if s.all (ZJ9 ops P F (ZG9 ops s h') e') then some (e',h') else none
 | none=>none) else none
end
def ZLm (m t:Nat) (o:Oper):Bool:=match o.op with
 | .insert t' (.tmp m') _ _=>Nat.beq m' m && Nat.beq t' t && o.guard.isNone && o.dst.isNone
 | _=>false
def ZPg (o:Oper):Option (Nat×Nat):=match o.op,o.dst,o.guard with
 | .makeMap t none,some m,none=>some (m,t)
 | .makeMap t (some (.const (.int _ _))),some m,none=>some (m,t)
 | _,_,_=>none
def dull (o:Oper):Oper:={o with op:= .makeFunc (.func 0) #[] #[],dst:=none}
def ZJ8 (k0 m t i:Nat) (o:Oper):Bool:=Nat.beq i k0||ZLm m t o
def ZQw (ops:Array Oper):List Oper->Nat->Option (Nat×Nat×Nat)
 | [],_=>none
 | o::r,i=>match ZPg o with
   | some (m,t)=>if ops.any (ZLm m t) then some (i,m,t) else ZQw ops r (i+1)
   | none=>ZQw ops r (i+1)
section
variable (k0 m t:Nat) (ops:Array Oper)
def ZG4:Array Oper:=ops.mapIdx fun i o=>if ZJ8 k0 m t i o then dull o else o
def ZQt:Op->Option (Operand×Operand)
 | .insert _ _ k x=>some (k,x)
 | _=>none
def ZPE (ops':Array Oper) (i:Nat) (o:Oper):Bool:=match ZQt o.op with
 | some (k,x)=>(anc ops' i).testBit k0 && (ZIA [k,x]).all fun u=>(List.range ops'.size).all fun j=>ZHc ops' j !=some u||(anc ops' i).testBit j
 | none=>false
def ZOb (ops':Array Oper) (i:Nat):Bool:=match ops[i]? with
 | some o=>if Nat.beq i k0 then ZPg o==some (m,t) else o.dst !=some m && (if ZLm m t o then ZPE k0 ops' i o else !(ZHX ops o).elem m)
 | none=>false
def ZQJ:Bool:=(List.range ops.size).all (ZOb k0 m t ops (ZG4 k0 m t ops)) && Nat.blt k0 ops.size
def prOf (e:Env) (o:Oper):Option (V×V):=match ZQt o.op with
 | some (k,x)=>match ev e k,ev e x with
   | some a,some b=>some (a,b)
   | _,_=>none
 | none=>none
def ZH7 (e:Env):List Nat->Option (List (Nat×V×V))
 | []=>some []
 | i::r=>match ops[i]? with
   | some o=>if ZLm m t o then (match prOf e o,ZH7 e r with
     | some p,some ps=>some ((i,p)::ps)
     | _,_=>none) else ZH7 e r
   | none=>none
variable (P:Program)
def neqT (kt:Nat) (a b:V):Bool:=match eqT P DEEP kt a b with
 | some false=>true
 | _=>false
def Zxc (kt:Nat):List (Nat×V×V)->Bool
 | []=>true
 | p::r=>ckT P DEEP kt p.2.1 && r.all (fun q=>neqT P kt p.2.1 q.2.1 && neqT P kt q.2.1 p.2.1) && Zxc kt r
end
def ZNy (k0 m t:Nat) (ops:Array Oper):List Oper->Nat->Nat
 | [],i=>i
 | o::r,i=>if !ZJ8 k0 m t i o && (ZHX ops o).elem m then i else ZNy k0 m t ops r (i+1)
def pre (n1:Nat) (ops:Array Oper):Array Oper:=(ops.toList.take n1).toArray
def ZOi (n1:Nat) (ops:Array Oper):Bool:=Nat.ble n1 ops.size && (List.range ops.size).all fun i=>match ops[i]? with
 | some o=>if Nat.blt i n1 then (match o.guard with
   | some (j,_)=>Nat.blt j n1
   | none=>true)
  else (List.range i).all (fun j=>o.after.any fun ed=>Nat.beq ed.on j && Region.binds .any ed) && o.after.all fun ed=> !Region.binds .any ed||Nat.blt ed.on i
 | none=>false
def ZRp (k0 m t:Nat) (ops:Array Oper) (P:Program) (F:ZaQ) (nt:Nat) (e:Env) (h:H):Option (Env×H):=if ZQJ k0 m t ops && (e.get m).isNone && Nat.blt m nt then (match P.underlying t with
    | some (.map kt _)=>match runD (ZG4 k0 m t ops) P F nt e h with
      | some (e',h')=>match ZH7 m t ops e' (List.range ops.size) with
        | some ips=>if Zxc P kt ips then some (e'.set m (.map h'.next),h'.new (.mapU (ips.map (·.2)))) else none
        | none=>none
      | none=>none
    | _=>none) else none
def runL (ops:Array Oper) (P:Program) (F:ZaQ) (nt:Nat) (e:Env) (h:H):Option (Env×H):=match ZQw ops ops.toList 0 with
 | some (k0,m,t)=>if ZOi (ZNy k0 m t ops ops.toList 0) ops then (match ZRp k0 m t (pre (ZNy k0 m t ops ops.toList 0) ops) P F nt e h with
   | some (e',h')=>runV P F nt ops (ops.toList.drop (ZNy k0 m t ops ops.toList 0)) e' h'
   | none=>none) else none
 | none=>none
def ZJi:Op->Option (TypeId×Operand×Operand)
 | .store t a x=>some (t,a,x)
 | _=>none
def isSt (o:Oper):Bool:=(ZJi o.op).isSome && o.dst.isNone && o.guard.isNone
def ZHl (i1 i2:Nat) (ops:Array Oper):Array Oper:=ops.mapIdx fun i o=>if Nat.beq i i1||Nat.beq i i2 then dull o else o
def ZHs (P:Program) (e:Env) (h:H) (o:Oper):Option H:=match ZJi o.op with
 | some (t,a,x)=>match ev e a,ev e x with
   | some a,some v=>ZJ5 P h t a v
   | _,_=>none
 | none=>none
def ZNW (e:Env) (o:Oper):Option Nat:=match ZJi o.op with
 | some (_,a,_)=>match ev e a with
   | some (.ptr b _)=>some b
   | _=>none
 | none=>none
def ZNg (h:H) (b:Nat):Option Nat:=match h.obs.get b with
 | some (.cells _ g _ _)=>some g
 | _=>none
def ZIh (ops:Array Oper) (i:Nat) (l:List Operand):Bool:=(ZIA l).all fun u=>(List.range ops.size).all fun j=>ZHc ops j !=some u||(anc ops i).testBit j
def ZKx (ops' ops:Array Oper) (i1 i2:Nat) (P:Program) (F:ZaQ) (nt:Nat) (e':Env) (h1:H) (i:Nat):Bool:=match ops[i]? with
 | some o=>if Nat.beq i i1||Nat.beq i i2 then isSt o && ZIh ops' i (ZHj o.op) && (effs ops').all (fun k=>(anc ops' i).testBit k)
   else ((anc ops' i1).testBit i && (anc ops' i2).testBit i)||(ZIi o.op==0 && o.guard.isNone && ZIh ops' i (ZHj o.op) && (match opV P F e' h1 o.op with
     | some (ov,_)=>(match o.dst with
       | some t=>Nat.blt t nt && eqOV (ov.getD (.tup [])) (e'.get t)
       | none=>true)
     | none=>false))
 | none=>false
def ZN9:List Nat->Option (Nat×Nat)
 | a::b::r=>match r with
   | []=>some (a,b)
   | _=>ZN9 (b::r)
 | _=>none
def runC (ops:Array Oper) (P:Program) (F:ZaQ) (nt:Nat) (e:Env) (h:H):Option (Env×H):=match ZN9 (effs ops) with
 | some (i1,i2)=>if Nat.beq i1 i2 then none else (match runD (ZHl i1 i2 ops) P F nt e h with
   | some (e',h1)=>if (List.range ops.size).all (ZKx (ZHl i1 i2 ops) ops i1 i2 P F nt e' h1) then (match ops[i1]?,ops[i2]? with
     | some o1,some o2=>(match ZHs P e' h1 o1,ZNW e' o1,ZNW e' o2 with
       | some h2,some b1,some b2=>(match ZHs P e' h2 o2,ZNg h1 b1,ZNg h1 b2 with
         | some h3,some g1,some g2=>if Nat.beq b1 b2||Nat.beq g1 g2 then none else some (e',h3)
         | _,_,_=>none)
       | _,_,_=>none)
     | _,_=>none) else none
   | none=>none)
 | none=>none
def ZPc (ops:Array Oper) (P:Program) (F:ZaQ) (nt:Nat) (e:Env) (h:H):Option (Env×H):=match runD ops P F nt e h with
 | some r=>some r
 | none=>match runL ops P F nt e h with
   | some r=>some r
   | none=>runC ops P F nt e h
def resV (e:Env) (h:H):List ResultVar->Option (List V)
 | []=>some []
 | .tmp t::r=>match e.get t,resV e h r with
   | some v,some vs=>some (v::vs)
   | _,_=>none
 | .cell a t::r=>match e.get a with
   | some a=>match ZQv P h t a,resV e h r with
     | some v,some vs=>some (v::vs)
     | _,_=>none
   | none=>none
def retV:List V->V
 | [v]=>v
 | vs=> .tup vs
def enter:Nat->List V->Env->Env
 | _,[],e=>e
 | k,v::r,e=>enter (k+1) r (e.set k v)
inductive Fn where
 | code (fn:Func)
 | prim (p:List V->H->Option (V×H))
 | ext (p:List V->Option V)
abbrev Ex:=Bool->Nat->Code->Env->H->Option (X×Env×H)
def ZKY:List Nat->List V->Env->Env
 | t::ts,v::vs,e=>ZKY ts vs (e.set t v)
 | _,_,e=>e
def ZMA:X->Option X
 | .normal=>none
 | x=>some x
def ZHM:X->Bool
 | .normal=>true
 | _=>false
def ZLz (ex:Ex) (l:Nat) (args:List V) (h:H):Option (V×H):=match h.obs.get l with
 | some (.loop .ready none e nt ps assign body)=>if args.length==ps.length && ps.all (fun t=>Nat.blt t nt) then (match ex true nt assign (ZKY ps args e) h with
   | some (.normal,e1,h1)=>(match h1.obs.get l with
     | some (.loop .ready p2 e2 nt2 ps2 as2 bd2)=>(match ex true nt body e1 (h1.setObj l (.loop .busy p2 e2 nt2 ps2 as2 bd2)) with
       | some (x,_,h2)=>(match h2.obs.get l with
         | some (.loop _ _ e3 nt3 ps3 as3 bd3)=>some (.bool (ZHM x),h2.setObj l (.loop (if ZHM x then .ready else .done) (ZMA x) e3 nt3 ps3 as3 bd3))
         | _=>none)
       | none=>none)
     | _=>none)
   | _=>none) else none
 | _=>none
def ZMq (tab:Nat→Option Fn) (ex:Ex):ZaQ:=fun f args h=>match tab f with
  | some (.code fn)=>(match fn.body with
    | some c => if fn.name == "runtime.NumGoroutine" || decide (fn.ntmps < args.length) then none else match ex false fn.ntmps c (enter 0 args .nil) h with
      | some (.exit _,_,_)=>none
      | some (_,e,h')=>match resV P e h' fn.results.toList with
        | some vs=>some (retV vs,h')
        | none=>none
      | none=>none
    | none=>none)
  | some (.prim p)=>p args h
  | some (.ext p)=>(p args).map fun v=>(v,h)
  | none=>none
def Zja (tab:Nat->Option Fn) (ex:Ex):ZaQ:=fun f args h=>cond (Nat.blt f YB) (ZMq P tab ex f args h) (ZLz ex (Nat.sub f YB) args h)
def ZOr:LoopState->Bool
 | .busy=>true
 | _=>false
def ZPW:Option X->Option X
 | none=>some .normal
 | some .normal=>none
 | some x=>some x
def ZN0 (f:Nat):Bool:=match P.funcs[f]? with
  | some fn => fn.name != "runtime.NumGoroutine" && fn.body.isSome
  | none=>false
def ZNk (F:ZaQ) (nt:Nat) (ps:List Nat) (assign body:Code) (f:V) (e:Env) (h:H):Option (X×Env×H):=match f with
 | .fn f first caps=>if Nat.blt f YB && ZN0 P f then (match F f (first++[.yld h.next]++caps) (h.new (.loop .ready none e nt ps assign body)) with
   | some (_,h1)=>(match h1.obs.get h.next with
     | some (.loop st pend e2 nt2 ps2 as2 bd2)=>if ZOr st then none else (ZPW pend).map fun x=>(x,e,h1.setObj h.next (.loop .exhausted pend e2 nt2 ps2 as2 bd2))
     | _=>none)
   | none=>none) else none
 | _=>none
def exec (tab:Nat->Option Fn):Nat->Ex
 | 0,_,_,_,_,_=>none
 | n+1,r,nt,c,e,h=>match c with
   | .skip=>some (.normal,e,h)
   | .label _=>some (.normal,e,h)
   | .region _ ops draw=>match (if draw=true then ZPc ops P (Zja P tab (exec tab n)) nt e h else runV P (Zja P tab (exec tab n)) nt ops ops.toList e h) with
     | some (e',h')=>some (.normal,e',h')
     | none=>none
   | .seq a b=>match exec tab n r nt a e h with
     | some (.normal,e',h')=>exec tab n r nt b e' h'
     | x=>x
   | .cond x a b=>match ev e x with
     | some (.bool t)=>exec tab n r nt (if t then a else b) e h
     | _=>none
   | .block id b=>match exec tab n r nt b e h with
     | some (.exit i,e',h')=>if i==id then some (.normal,e',h') else some (.exit i,e',h')
     | x=>x
   | .loop b=>match exec tab n r nt b e h with
     | some (.normal,e',h')=>exec tab n r nt (.loop b) e' h'
     | x=>x
   | .exit id=>some (.exit id,e,h)
   | .ret=>some (.ret,e,h)
   | .scope b=>exec tab n r nt b e h
   | .rangeFunc f ps assign body=>if r then none else match ev e f with
     | some v=>ZNk P (Zja P tab (exec tab n)) nt ps.toList assign body v e h
     | none=>none
   | _=>none
def call (tab:Nat->Option Fn) (n:Nat):ZaQ:=Zja P tab (exec P tab n)
end
end Go.Cm
end
section
namespace Go.Cm
open Go.Am (ZbJ)
abbrev wi0:Am.WI:=⟨fun _ _=>True,fun _ _ _=>trivial⟩
attribute [local instance] wi0
theorem T.get_nil {α:Type} (k:Nat):(T.nil:T α).get k=none:=rfl
theorem ZIt {β:Type} (a b:Nat) (x y:β):cond (Nat.beq a b) x y=if a==b then x else y:=by
 by_cases h:a=b
 ·subst h;simp
 ·have h1:Nat.beq a b=false:=by rw [Bool.eq_false_iff];exact fun hh=>h (Nat.eq_of_beq_eq_true hh)
  rw [h1];simp [h]
theorem T.get_node {α:Type} (l r:T α) (v:Option α) (k:Nat):(T.node l v r).get k=if k==0 then v else if k % 2==1 then l.get (k / 2) else r.get (k / 2-1):=
 (ZIt k 0 _ _).trans (by congr 1;exact ZIt (k % 2) 1 _ _)
theorem T.put_nil {α:Type} (n k:Nat) (x:α):T.put (n+1) .nil k x=if k==0 then .node .nil (some x) .nil else if k % 2==1 then .node (T.put n .nil (k / 2) x) none .nil else .node .nil none (T.put n .nil (k / 2-1) x):=
 (ZIt k 0 _ _).trans (by congr 1;exact ZIt (k % 2) 1 _ _)
theorem T.put_node {α:Type} (n:Nat) (l r:T α) (v:Option α) (k:Nat) (x:α):T.put (n+1) (.node l v r) k x=if k==0 then .node l (some x) r else if k % 2==1 then .node (T.put n l (k / 2) x) v r else .node l v (T.put n r (k / 2-1) x):=
 (ZIt k 0 _ _).trans (by congr 1;exact ZIt (k % 2) 1 _ _)
theorem T.get_put {α:Type}: ∀(n:Nat) (t:T α) (k j:Nat) (x:α),k<n->(T.put n t k x).get j=if j=k then some x else t.get j:=by
 intro n
 induction n with
 | zero=>intro t k j x h;omega
 | succ n ih=>
   intro t k j x h
   have key: ∀(l r:T α) (v:Option α),(if k==0 then T.node l (some x) r else if k % 2==1 then .node (T.put n l (k / 2) x) v r else .node l v (T.put n r (k / 2-1) x)).get j=if j=k then some x else (T.node l v r).get j:=by
     intro l r v
     by_cases h0:k=0
     · subst h0
       by_cases hj:j=0
       · subst hj;simp [T.get_node]
       · simp [T.get_node,hj]
     · by_cases h1:k % 2=1
       · have hk:k / 2<n:=by omega
         simp only [beq_iff_eq,h0,h1,if_false,if_true,T.get_node]
         by_cases hj:j=0
         · subst hj;simp;omega
         · by_cases hj1:j % 2=1
           · simp only [hj,hj1,if_false,if_true,ih l (k / 2) (j / 2) x hk]
             by_cases hjk:j=k
             · subst hjk;simp
             · have: ¬j / 2=k / 2:=by omega
               simp [hjk,this]
           · simp only [hj,hj1,if_false]
             have: ¬j=k:=by omega
             simp [this]
       · have hk:k / 2-1<n:=by omega
         simp only [beq_iff_eq,h0,h1,if_false,T.get_node]
         by_cases hj:j=0
         · subst hj;simp;omega
         · by_cases hj1:j % 2=1
           · simp only [hj,hj1,if_false,if_true]
             have: ¬j=k:=by omega
             simp [this]
           · simp only [hj,hj1,if_false,ih r (k / 2-1) (j / 2-1) x hk]
             by_cases hjk:j=k
             · subst hjk;simp
             · have: ¬j / 2-1=k / 2-1:=by omega
               simp [hjk,this]
   cases t with
   | nil=>
     have:=key .nil .nil none
     rw [T.put_nil,this]
     simp only [T.get_node,T.get_nil]
     split
     · rfl
     · split
       · rfl
       · split<;>rfl
   | node l v r=>rw [T.put_node];exact key l r v
theorem T.get_set {α:Type} (t:T α) (k j:Nat) (x:α):(t.set k x).get j=if j=k then some x else t.get j:=T.get_put (k+1) t k j x Zo
theorem T.get_set_same {α:Type} (t:T α) (k:Nat) (x:α):(t.set k x).get k=some x:=by rw [T.get_set,if_pos rfl]
theorem T.get_set_ne {α:Type} (t:T α) {k j:Nat} (x:α) (h:j≠k):(t.set k x).get j=t.get j:=by rw [T.get_set,if_neg h]
structure G where
 ex:Nat->Prop
 β:Nat->Nat×Nat
 sz:Nat->Nat
 base:Nat
 top:Nat
 dfs:List Deferred
 pr0:Nat->Nat
 w0:World
def G.at (g:G) (b o:Nat):Addr:=⟨(g.β b).1,(g.β b).2+o,none⟩
mutual
def Rel (g:G):V->Value->Prop
 | .int k n,v=>v= .int k n
 | .bool b,v=>v= .bool b
 | .str s,v=> ∃bs,v= .string bs/\ZbJ bs=s
 | .nilp,v=>v= .pointer none
 | .ptr b o,v=>g.ex b/\v= .pointer (some (g.at b o))
 | .nils,v=>v= .slice none 0 0
 | .sl b o s len lo ex,v=>g.ex b/\ ∃cap,v= .slice (some (g.at b o)) len cap/\len<=lo/\lo<=cap/\(ex=true->cap=lo)/\(g.β b).2+o+cap*s<=g.sz b
 | .emp,v=> ∃a cap,v= .slice (some a) 0 cap
 | .nilm,v=>v= .map none
 | .map b,v=>g.ex b/\v= .map (some (g.β b).1)
 | .nilf,v=>v= .nilFunc
 | .nili,v=>v= .nilIface
 | .fn f x y,v=> ∃a c:List Value,v= .func (.func f) a.toArray c.toArray/\Rels g x a/\Rels g y c
 | .yld b,v=>g.ex b/\v= .func (.yield (g.β b).1) #[] #[]
 | .dat s rows,v=> ∃(al:Option Addr×Nat) (cap:Nat),v= .slice al.1 al.2 cap/\Go.Am.RepP g.pr0 g.w0 v (.sl s rows)
 | .dp cs,v=> ∃b o,v= .pointer (some ⟨b,o,none⟩)/\ ∀(i:Nat) x,cs[i]? =some x-> ∃u,g.w0.cell? ⟨b,o+i,none⟩=some u/\o+i<g.pr0 b/\Go.Am.RepP g.pr0 g.w0 u x
 | .agg xs,v=> ∃vs:List Value,v= .agg vs.toArray/\Rels g xs vs
 | .tup xs,v=> ∃vs:List Value,v= .tuple vs.toArray/\Rels g xs vs
def Rels (g:G):List V->List Value->Prop
 | [],vs=>vs=[]
 | x::xs,vs=> ∃u us,vs=u::us/\Rel g x u/\Rels g xs us
end
structure Le0 (g g':G):Prop where
 ex: ∀b,g.ex b->g'.ex b
 β: ∀b,g.ex b->g'.β b=g.β b
 sz: ∀b,g.ex b->g'.sz b=g.sz b
 base:g'.base=g.base
 dat:Go.Am.Zz1 g.pr0 g.w0 g'.w0/\ ∀b,g.pr0 b<=g'.pr0 b
structure Le (g g':G):Prop extends Le0 g g' where
 top:g.top<=g'.top
 new: ∀b,g'.ex b->g.ex b∨g.top<=b
 dfs:g'.dfs=g.dfs
instance {g g':G}:Coe (Le g g') (Le0 g g'):=⟨Le.toLe0⟩
theorem ZI0 (g:G):Go.Am.Zz1 g.pr0 g.w0 g.w0/\ ∀b,g.pr0 b<=g.pr0 b:=⟨fun _ _ _ _ h=>h,fun _=>Nat.le_refl _⟩
theorem Le.refl (g:G):Le g g:=⟨⟨fun _ h=>h,fun _ _=>rfl,fun _ _=>rfl,rfl,ZI0 g⟩,Nat.le_refl _,fun _ h=> .inl h,rfl⟩
theorem Le0.trans {g g' g'':G} (h:Le0 g g') (h':Le0 g' g''):Le0 g g'':=
 ⟨fun b hb=>h'.ex b (h.ex b hb),fun b hb=>(h'.β b (h.ex b hb)).trans (h.β b hb),fun b hb=>(h'.sz b (h.ex b hb)).trans (h.sz b hb),h'.base.trans h.base,fun b o v ho hv=>h'.dat.1 b o v (Nat.lt_of_lt_of_le ho (h.dat.2 b)) (h.dat.1 b o v ho hv),fun b=>Nat.le_trans (h.dat.2 b) (h'.dat.2 b)⟩
theorem Le.trans {g g' g'':G} (h:Le g g') (h':Le g' g''):Le g g'':=
 ⟨h.toLe0.trans h'.toLe0,Nat.le_trans h.top h'.top,fun b hb=>(h'.new b hb).elim (h.new b) fun hb=> .inr (Nat.le_trans h.top hb),h'.dfs.trans h.dfs⟩
mutual
theorem Rel.mono {g g':G} (hl:Le0 g g'): ∀{x:V} {v:Value},Rel g x v->Rel g' x v
  | .int k n,v,h=>h
  | .bool b,v,h=>h
  | .str s,v,h=>h
  | .nilp,v,h=>h
  | .ptr b o,v,h=>by
    simp only [Rel,G.at] at h⊢
    exact ⟨hl.ex _ h.1,by rw [hl.β b h.1];exact h.2⟩
  | .nils,v,h=>h
  | .sl b o s len lo ex,v,h=>by
    simp only [Rel,G.at] at h⊢
    obtain ⟨h1,cap,h2⟩:=h
    exact ⟨hl.ex _ h1,cap,by rw [hl.β b h1,hl.sz b h1];exact h2⟩
  | .emp,v,h=>h
  | .nilm,v,h=>h
  | .map b,v,h=>by
    simp only [Rel] at h⊢
    exact ⟨hl.ex _ h.1,by rw [hl.β b h.1];exact h.2⟩
  | .nilf,v,h=>h
  | .nili,v,h=>h
  | .fn f x y,v,h=>by
    simp only [Rel] at h⊢
    obtain ⟨a,c,h1,h2,h3⟩:=h
    exact ⟨a,c,h1,Rels.mono hl h2,Rels.mono hl h3⟩
  | .yld b,v,h=>by
    simp only [Rel] at h⊢
    exact ⟨hl.ex _ h.1,by rw [hl.β b h.1];exact h.2⟩
  | .dat s rows,v,h=>by
    simp only [Rel] at h⊢
    obtain ⟨al,cap,h1,h2⟩:=h
    exact ⟨al,cap,h1,h2.mono hl.dat.1 hl.dat.2⟩
  | .dp cs,v,h=>by
    simp only [Rel] at h⊢
    obtain ⟨b,o,h1,h2⟩:=h
    refine ⟨b,o,h1,fun i x hx=>?_⟩
    obtain ⟨u,q1,q2,q3⟩:=h2 i x hx
    exact ⟨u,hl.dat.1 _ _ _ q2 q1,Nat.lt_of_lt_of_le q2 (hl.dat.2 b),q3.mono hl.dat.1 hl.dat.2⟩
  | .agg xs,v,h=>by
    simp only [Rel] at h⊢
    obtain ⟨vs,h1,h2⟩:=h
    exact ⟨vs,h1,Rels.mono hl h2⟩
  | .tup xs,v,h=>by
    simp only [Rel] at h⊢
    obtain ⟨vs,h1,h2⟩:=h
    exact ⟨vs,h1,Rels.mono hl h2⟩
theorem Rels.mono {g g':G} (hl:Le0 g g'): ∀{xs:List V} {vs:List Value},Rels g xs vs->Rels g' xs vs
  | [],vs,h=>h
  | x::xs,vs,h=>by
    simp only [Rels] at h⊢
    obtain ⟨u,us,h1,h2,h3⟩:=h
    exact ⟨u,us,h1,Rel.mono hl h2,Rels.mono hl h3⟩
end
theorem Rels.iff {g:G}: ∀{xs:List V} {vs:List Value},Rels g xs vs↔xs.length=vs.length/\ ∀(i:Nat) x v,xs[i]? =some x->vs[i]? =some v->Rel g x v
 | [],vs=>by
   simp only [Rels]
   constructor
   · rintro rfl;exact ⟨rfl,fun i x v h=>by simp at h⟩
   · rintro ⟨h,_⟩
     cases vs with
     | nil=>rfl
     | cons=>simp at h
 | x::xs,vs=>by
   simp only [Rels]
   constructor
   · rintro ⟨u,us,rfl,h1,h2⟩
     obtain ⟨l,h3⟩:=Rels.iff.1 h2
     refine ⟨by simp [l],fun i y v hy hv=>?_⟩
     cases i with
     | zero=>simp at hy hv;subst hy;subst hv;exact h1
     | succ i=>exact h3 i y v (by simpa using hy) (by simpa using hv)
   · rintro ⟨l,h⟩
     cases vs with
     | nil=>simp at l
     | cons u us=>exact ⟨u,us,rfl,h 0 x u rfl rfl,Rels.iff.2 ⟨by simpa using l,fun i y v hy hv=>h (i+1) y v (by simpa using hy) (by simpa using hv)⟩⟩
theorem Rels.append {g:G} {xs ys:List V} {vs us:List Value} (h:Rels g xs vs) (h':Rels g ys us):Rels g (xs++ys) (vs++us):=by
 induction xs generalizing vs with
 | nil=>simp only [Rels] at h;subst h;exact h'
 | cons x xs ih=>
   simp only [Rels] at h
   obtain ⟨u,us',rfl,h1,h2⟩:=h
   exact ⟨u,us'++us,rfl,h1,ih h2⟩
theorem Rels.len {g:G} {xs:List V} {vs:List Value} (h:Rels g xs vs):xs.length=vs.length:=(Rels.iff.1 h).1
theorem Rels.take {g:G} {xs:List V} {vs:List Value} (h:Rels g xs vs) (n:Nat):Rels g (xs.take n) (vs.take n):=by
 rw [Rels.iff] at h⊢
 refine ⟨by simp [h.1],fun i x v hx hv=>?_⟩
 rw [List.getElem?_take] at hx hv
 split at hx
 ·rename_i hi;rw [if_pos hi] at hv;exact h.2 i x v hx hv
 ·cases hx
theorem Rels.drop {g:G} {xs:List V} {vs:List Value} (h:Rels g xs vs) (n:Nat):Rels g (xs.drop n) (vs.drop n):=by
 rw [Rels.iff] at h⊢
 refine ⟨by simp [h.1],fun i x v hx hv=>?_⟩
 rw [List.getElem?_drop] at hx hv
 exact h.2 (n+i) x v hx hv
theorem Rels.replicate {g:G} {xs:List V} {vs:List Value} (h:Rels g xs vs) (n:Nat):Rels g (List.replicate n xs).flatten (List.replicate n vs).flatten:=by
 induction n with
 | zero=>rfl
 | succ n ih=>simp only [List.replicate_succ,List.flatten_cons];exact h.append ih
theorem Rel.cells {g:G} {x:V} {v:Value} (h:Rel g x v):Rels g x.cells v.cells.toList:=by
 cases x with
 | agg xs=>simp only [Rel] at h;obtain ⟨vs,rfl,h⟩:=h;simpa [V.cells,Value.cells] using h
 | _=>
   have hv:v.cells.toList=[v]:=by
     simp only [Rel] at h
     first
       | (subst h;rfl)
       | (obtain ⟨_,rfl⟩:=h;rfl)
       | (obtain ⟨_,rfl,_⟩:=h;rfl)
       | (obtain ⟨_,_,rfl⟩:=h;rfl)
       | (obtain ⟨_,_,rfl,_⟩:=h;rfl)
   rw [hv]
   exact ⟨v,[],rfl,h,rfl⟩
def RelAt (g:G) (cs:List V) (vs:Array Value) (o:Nat):Prop:= ∀(i:Nat) x,cs[i]? =some x-> ∃v,vs[o+i]? =some v/\Rel g x v
def RelE (g:G) (e:En) (m:MapEntry):Prop:=Rel g e.k m.key/\Rel g e.x m.val/\m.born=e.born
def RelEs (g:G) (es:List En) (ms:Array MapEntry):Prop:=es.length=ms.size/\ ∀(i:Nat) e,es[i]? =some e-> ∃m,ms[i]? =some m/\RelE g e m
def X.code:X->Code
 | .normal=> .skip
 | .exit id=> .exit id
 | .ret=> .ret
structure LoopOK (g:G) (st:LoopState) (pend:Option X) (e:T V) (nt:Nat) (ps:List Nat) (assign body:Code) (r:Loop):Prop where
 state:r.state=st
 pend:r.pending=pend.map X.code
 ps:r.params.toList=ps
 assign:r.assign=assign
 body:r.body=body
 nt:nt<=r.tmps.size
 env: ∀t v,e.get t=some v->Rel g v (r.tmps.getD t undef)
def ObOK (g:G) (low:Nat->Nat) (w:World) (b:Nat):O->Prop
 | .cells cs grp ver kid=> ∃vs t fz,w.heap[(g.β b).1]? =some (.cells vs t fz)/\vs.size=g.sz b/\(low grp<=ver->fz=(0,0)/\(g.β b).2+cs.length<=vs.size/\RelAt g cs vs (g.β b).2)
 | .map es clock=> ∃ms,w.heap[(g.β b).1]? =some (.map ms clock)/\RelEs g es ms/\(g.β b).2=0
 | .siter s pos=> ∃bs,w.heap[(g.β b).1]? =some (.stringIter bs pos)/\ZbJ bs=s/\(g.β b).2=0
 | .miter m since seen stepped=>w.heap[(g.β b).1]? =some (.mapIter (m.map fun i=>(g.β i).1) since seen.toArray stepped)/\(∀i,m=some i->g.ex i)/\(g.β b).2=0
 | .mapU ps=> ∃ms c es,w.heap[(g.β b).1]? =some (.map ms c)/\(es.map fun (e:En)=>(e.k,e.x)).Perm ps/\RelEs g es ms/\(g.β b).2=0
 | .loop st pend e nt ps assign body=> ∃r,w.heap[(g.β b).1]? =some (.loop r)/\LoopOK g st pend e nt ps assign body r/\(g.β b).2=0
def ZJD:O->Bool
 | .cells .. =>true
 | _=>false
def ZHG (g:G) (h:H) (b grp ver:Nat) (kid:Bool) (cs:List V):Prop:=h.obs.get b=some (.cells cs grp ver kid)/\h.low grp<=ver/\g.ex b
structure Dt (g:G) (w:World):Prop where
 kp:Go.Am.Zz1 g.pr0 g.w0 w
 dj: ∀b,g.ex b->g.pr0 (g.β b).1=0
 fr: ∀b,w.heap.size<=b->g.pr0 b=0
structure HR (g:G) (h:H) (w:World):Prop where
 bs:g.base<=w.heap.size
 nx: ∀b,g.ex b->b<h.next
 top:g.top=h.next
 mins: ∀k m,h.mins.get k=some m->g.ex k
 grp: ∀b cs gr ver kid,g.ex b->h.obs.get b=some (.cells cs gr ver kid)->g.ex gr
 blk: ∀b,g.ex b->g.base<=(g.β b).1/\(g.β b).1<w.heap.size
 ob: ∀b o,g.ex b->h.obs.get b=some o->ObOK g h.low w b o
 tl: ∀b x,h.tys.get b=some x->b<h.next
 ty: ∀b t n,g.ex b->h.tys.get b=some (t,n)->(g.β b).2=0/\ ∃vs fz,w.heap[(g.β b).1]? =some (.cells vs t fz)/\(n≠0->vs.size=n)
 i1: ∀b b' gr ver kid cs gr' ver' kid' cs',ZHG g h b gr ver kid cs->ZHG g h b' gr' ver' kid' cs'->b≠b'->(g.β b).1=(g.β b').1->gr=gr'/\ver≠ver'
 i2: ∀b b' gr ver cs ver' kid' cs',ZHG g h b gr ver false cs->ZHG g h b' gr ver' kid' cs'->ver'<=ver/\((g.β b).1=(g.β b').1->(g.β b').2+cs'.length<=(g.β b).2+cs.length)
 i4: ∀b b' gr ver cs ver' cs',g.ex b->g.ex b'->h.obs.get b=some (.cells cs gr ver false)->h.obs.get b'=some (.cells cs' gr ver' false)->b=b'
 dm: ∀b o b',g.ex b->h.obs.get b=some o->ZJD o=false->g.ex b'->b'≠b->(g.β b).1≠(g.β b').1
 dt:Dt g w
theorem HR.fresh {g:G} {h:H} {w:World} (hh:HR g h w): ¬g.ex h.next:=fun hx=>Nat.lt_irrefl _ (hh.nx _ hx)
structure Grew (g:G) (w:World) (g':G) (w':World):Prop where
 os:w'.os=w.os
 tape:w'.tape=w.tape
 output:w'.output=w.output
 size:w.heap.size<=w'.heap.size
 old: ∀k,k<w.heap.size->(∀b,g.ex b->(g.β b).1≠k)->w'.heap[k]? =w.heap[k]?
 img: ∀b,g'.ex b->(∃b0,g.ex b0/\(g.β b0).1=(g'.β b).1)∨w.heap.size<=(g'.β b).1
 pr: ∀b,b<w.heap.size->g'.pr0 b=g.pr0 b
theorem Grew.refl (g:G) (w:World):Grew g w g w:=⟨rfl,rfl,rfl,Nat.le_refl _,fun _ _ _=>rfl,fun b hb=> .inl ⟨b,hb,rfl⟩,fun _ _=>rfl⟩
theorem Grew.trans {g g' g'':G} {w w' w'':World} (h:Grew g w g' w') (h':Grew g' w' g'' w''):Grew g w g'' w'':=by
 refine ⟨h'.os.trans h.os,h'.tape.trans h.tape,h'.output.trans h.output,Nat.le_trans h.size h'.size,fun k hk hn=>?_,fun b hb=>?_,fun b hb=>(h'.pr b (Nat.lt_of_lt_of_le hb h.size)).trans (h.pr b hb)⟩
 ·refine (h'.old k (Nat.lt_of_lt_of_le hk h.size) fun b hb he=>?_).trans (h.old k hk hn)
  rcases h.img b hb with ⟨b0,h0,h1⟩|h1
  ·exact hn b0 h0 (h1.trans he)
  ·omega
 ·rcases h'.img b hb with ⟨b1,h1,h2⟩|h1
  ·rcases h.img b1 h1 with ⟨b0,h3,h4⟩|h3
   ·exact .inl ⟨b0,h3,h4.trans h2⟩
   ·exact .inr (by rw [<-h2];exact h3)
  ·exact .inr (Nat.le_trans h.size h1)
theorem ZIF {w w':World} {b o:Nat} {v:Value} (hb:w'.heap[b]? =w.heap[b]?) (h:w.cell? ⟨b,o,none⟩=some v):w'.cell? ⟨b,o,none⟩=some v:=by
 simp only [World.cell?] at h⊢
 rw [hb];exact h
theorem Dt.at {g:G} {w w':World} (hd:Dt g w) {b:Nat} (hb:g.ex b) (hs:w.heap.size<=w'.heap.size) (hk: ∀k,k≠(g.β b).1->w'.heap[k]? =w.heap[k]?):Dt g w':=
 ⟨fun c o v ho hv=>ZIF (hk c fun he=>by have:=hd.dj b hb;rw [he] at ho;omega) (hd.kp c o v ho hv),hd.dj,fun c hc=>hd.fr c (Nat.le_trans hs hc)⟩
theorem Dt.all {g:G} {w w':World} (hd:Dt g w) (hs:w.heap.size<=w'.heap.size) (hk: ∀k,k<w.heap.size->(∀b,g.ex b->(g.β b).1≠k)->w'.heap[k]? =w.heap[k]?):Dt g w':=by
 refine ⟨fun c o v ho hv=>ZIF (hk c ?_ fun b hb he=>by have:=hd.dj b hb;rw [he] at this;omega) (hd.kp c o v ho hv),hd.dj,fun c hc=>hd.fr c (Nat.le_trans hs hc)⟩
 rcases Nat.lt_or_ge c w.heap.size with h|h
 ·exact h
 ·rw [hd.fr c h] at ho;omega
theorem Dt.grew {g g':G} {w w':World} (hd:Dt g w) (hg:Grew g w g' w') (hp:g'.pr0=g.pr0) (hw:g'.w0=g.w0):Dt g' w':=by
 refine ⟨fun b o v ho hv=>?_,fun b hb=>?_,fun b hb=>?_⟩
 ·rw [hp] at ho
  rw [hw] at hv
  have h1:=hd.kp b o v ho hv
  have hlt:b<w.heap.size:=by
   rcases Nat.lt_or_ge b w.heap.size with h|h
   ·exact h
   ·rw [hd.fr b h] at ho;omega
  exact ZIF (hg.old b hlt fun c hc he=>by have:=hd.dj c hc;rw [he] at this;omega) h1
 ·rw [hp]
  rcases hg.img b hb with ⟨c,hc,he⟩|h
  ·rw [<-he];exact hd.dj c hc
  ·exact hd.fr _ h
 ·rw [hp];exact hd.fr b (Nat.le_trans hg.size hb)
def EnvR (g:G) (e:Env) (a:Act):Prop:=a.defers=g.dfs/\ ∀t v,e.get t=some v->Rel g v (a.tmps.getD t undef)
theorem EnvR.mono {g g':G} (hl:Le0 g g') {e:Env} {a:Act} (h:EnvR g e a) (hd:g'.dfs=g.dfs:=by rfl):EnvR g' e a:=⟨h.1.trans hd.symm,fun t v hv=>(h.2 t v hv).mono hl⟩
theorem EnvR.put {g:G} {e e':Env} {a:Act} {nt:Nat} (h:EnvR g e a) (hs:nt<=a.tmps.size) {d:Option Tmp} {v:Option V} {x:Value} (hp:putE nt e d v=some e') (hx:Rel g (v.getD (.tup [])) x):
   EnvR g e' (a.put d x):=by
 cases d with
 | none=>simp only [putE,Option.some.injEq] at hp;subst hp;exact h
 | some t=>
   obtain ⟨t,rfl⟩: ∃t₀:Nat,t₀=t:=⟨t,rfl⟩
   simp only [putE] at hp
   split at hp
   · rename_i ht
     simp only [Option.some.injEq] at hp
     subst hp
     refine ⟨by rw [Am.Zb6];exact h.1,fun j u hj=>?_⟩
     rw [T.get_set] at hj
     split at hj
     · rename_i hjt
       cases hj
       obtain rfl:j=t:=hjt
       rw [Am.Zbe (Nat.lt_of_lt_of_le ht hs)]
       exact hx
     · rename_i hjt
       rw [Am.Zbb hjt]
       exact h.2 j u hj
   · cases hp
mutual
theorem ofConst_rel (g:G): ∀(v:Value) {x:V},ofConst v=some x->Rel g x v
  | .int k n,x,h=>by simp only [ofConst,Option.some.injEq] at h;subst h;rfl
  | .bool b,x,h=>by simp only [ofConst,Option.some.injEq] at h;subst h;rfl
  | .string s,x,h=>by simp only [ofConst,Option.some.injEq] at h;subst h;exact ⟨s,rfl,rfl⟩
  | .pointer none,x,h=>by simp only [ofConst,Option.some.injEq] at h;subst h;rfl
  | .slice none 0 0,x,h=>by simp only [ofConst,Option.some.injEq] at h;subst h;rfl
  | .map none,x,h=>by simp only [ofConst,Option.some.injEq] at h;subst h;rfl
  | .nilFunc,x,h=>by simp only [ofConst,Option.some.injEq] at h;subst h;rfl
  | .nilIface,x,h=>by simp only [ofConst,Option.some.injEq] at h;subst h;rfl
  | .func (.func f) a b,x,h=>by
    simp only [ofConst] at h
    split at h
    · rename_i hc
      simp only [Option.some.injEq] at h;subst h
      simp at hc
      obtain ⟨rfl,rfl⟩:=hc
      exact ⟨[],[],rfl,rfl,rfl⟩
    · cases h
  | .agg ⟨vs⟩,x,h=>by
    simp only [ofConst,Option.map_eq_some_iff] at h
    obtain ⟨xs,h1,rfl⟩:=h
    exact ⟨vs,rfl,ofConsts_rel g vs h1⟩
  | .tuple ⟨vs⟩,x,h=>by
    simp only [ofConst,Option.map_eq_some_iff] at h
    obtain ⟨xs,h1,rfl⟩:=h
    exact ⟨vs,rfl,ofConsts_rel g vs h1⟩
theorem ofConsts_rel (g:G): ∀(vs:List Value) {xs:List V},ofConsts vs=some xs->Rels g xs vs
  | [],xs,h=>by simp only [ofConsts,Option.some.injEq] at h;subst h;rfl
  | v::vs,xs,h=>by
    simp only [ofConsts] at h
    split at h
    · rename_i x xs' h1 h2
      simp only [Option.some.injEq] at h;subst h
      exact ⟨v,vs,rfl,ofConst_rel g v h1,ofConsts_rel g vs h2⟩
    · cases h
end
theorem ZG2 {g:G} {e:Env} {a:Act} (h:EnvR g e a) {x:Operand} {v:V} (hx:ev e x=some v):Rel g v (a.eval x):=by
 cases x with
 | tmp t=>exact h.2 t v hx
 | const c=>exact ofConst_rel g c hx
 | func f=>simp only [ev,Option.some.injEq] at hx;subst hx;exact ⟨[],[],rfl,rfl,rfl⟩
 | global _=>cases hx
theorem ZIQ {g:G} {e:Env} {a:Act} (h:EnvR g e a): ∀{xs:List Operand} {vs:List V},evs e xs=some vs->Rels g vs (xs.map a.eval)
 | [],vs,hx=>by simp only [evs,Option.some.injEq] at hx;subst hx;rfl
 | x::xs,vs,hx=>by
   simp only [evs] at hx
   split at hx
   · rename_i v vs' h1 h2
     simp only [Option.some.injEq] at hx;subst hx
     exact ⟨_,_,rfl,ZG2 h h1,ZIQ h h2⟩
   · cases hx
end Go.Cm
end
section
namespace Go.Cm
open Go.Am (ZbJ ZfP Zl4 eqS bytesLess ZmJ Zaw Addr.add_eq)
attribute [local instance] wi0
variable {P:Program} {F:ZaQ} {g:G} {e:Env} {a:Act} {w:World} {h h':H} {ov:Option V} {o:Oper}
def OpOK (P:Program) (o:Oper) (a:Act) (w:World) (g:G) (ov:Option V) (h':H):Prop:=
 ∃nx v w' g',(execOp a.eval o).run P w= .ok nx w'/\(nx= .value v∨(nx= .skip/\v=undef))/\Rel g' (ov.getD (.tup [])) v/\HR g' h' w'/\Le g g'/\Grew g w g' w'
theorem ZG3 (hh:HR g h w) {x:V} {v:Value} (hr:(execOp a.eval o).run P w= .ok (.value v) w) (hv:Rel g x v):OpOK P o a w g (some x) h:=
 ⟨_,v,w,g,hr,.inl rfl,hv,hh,Le.refl g,Grew.refl _ _⟩
theorem ZHv {k:IntKind} {n:Int} {v:Value} (h:Rel g (.int k n) v):v= .int k n:=by simpa only [Rel] using h
theorem ZHr {b:Bool} {v:Value} (h:Rel g (.bool b) v):v= .bool b:=by simpa only [Rel] using h
theorem ZHk {s:List Nat} {v:Value} (h:Rel g (.str s) v): ∃bs,v= .string bs/\ZbJ bs=s:=by simpa only [Rel] using h
theorem ZIy {b i:Nat} {v:Value} (h:Rel g (.ptr b i) v):g.ex b/\v= .pointer (some (g.at b i)):=by simpa only [Rel] using h
section
variable (hh:HR g h w) (he:EnvR g e a)
include hh he
theorem ZNO {x:Operand} (ho:o.op= .move x∨o.op= .assign x) (hx:(ev e x).map (fun v=>(some v,h))=some (ov,h')):OpOK P o a w g ov h':=by
 simp only [Option.map_eq_some_iff,Prod.mk.injEq] at hx
 obtain ⟨v,h1,rfl,rfl⟩:=hx
 refine ZG3 hh (v:=a.eval x) ?_ (ZG2 he h1)
 rcases ho with ho|ho<;>simp [execOp,ho]
theorem Zyw {c x y:Operand} (ho:o.op= .pick c x y) (hx:opV P F e h (.pick c x y)=some (ov,h')):OpOK P o a w g ov h':=by
 simp only [opV] at hx
 split at hx
 ·rename_i t h1
  split at hx
  ·rename_i u v h2 h3
   simp only [Option.some.injEq,Prod.mk.injEq] at hx
   obtain ⟨rfl,rfl⟩:=hx
   have hc:=ZHr (ZG2 he h1)
   refine ZG3 hh (v:=if t then a.eval x else a.eval y) ?_ ?_
   ·simp only [execOp,ho,hc,asBool];rfl
   ·cases t
    ·exact ZG2 he h3
    ·exact ZG2 he h2
  ·cases hx
 ·cases hx
theorem Zrd {x:Operand} (ho:o.op= .nilCheck x) (hx:opV P F e h (.nilCheck x)=some (ov,h')):OpOK P o a w g ov h':=by
 simp only [opV] at hx
 split at hx
 ·rename_i b i h1
  simp only [Option.some.injEq,Prod.mk.injEq] at hx
  obtain ⟨rfl,rfl⟩:=hx
  have hr:=ZG2 he h1
  refine ZG3 hh (v:=a.eval x) ?_ hr
  obtain ⟨_,hv⟩:=ZIy hr
  simp [execOp,ho,hv]
 ·rename_i f u v h1
  simp only [Option.some.injEq,Prod.mk.injEq] at hx
  obtain ⟨rfl,rfl⟩:=hx
  have hr:=ZG2 he h1
  refine ZG3 hh (v:=a.eval x) ?_ hr
  simp only [Rel] at hr
  obtain ⟨_,_,hv,_⟩:=hr
  simp [execOp,ho,hv]
 ·rename_i b h1
  simp only [Option.some.injEq,Prod.mk.injEq] at hx
  obtain ⟨rfl,rfl⟩:=hx
  have hr:=ZG2 he h1
  refine ZG3 hh (v:=a.eval x) ?_ hr
  simp only [Rel] at hr
  simp [execOp,ho,hr.2]
 ·rename_i cs h1
  simp only [Option.some.injEq,Prod.mk.injEq] at hx
  obtain ⟨rfl,rfl⟩:=hx
  have hr:=ZG2 he h1
  refine ZG3 hh (v:=a.eval x) ?_ hr
  simp only [Rel] at hr
  obtain ⟨_,_,hv,_⟩:=hr
  simp [execOp,ho,hv]
 ·cases hx
theorem ZrP {f:Nat} {x y:Array Operand} (ho:o.op= .makeFunc (.func f) x y) (hx:opV P F e h (.makeFunc (.func f) x y)=some (ov,h')):OpOK P o a w g ov h':=by
 simp only [opV] at hx
 split at hx
 ·rename_i u v h1 h2
  simp only [Option.some.injEq,Prod.mk.injEq] at hx
  obtain ⟨rfl,rfl⟩:=hx
  refine ZG3 hh (v:= .func (.func f) (x.map a.eval) (y.map a.eval)) ?_ ?_
  ·simp only [execOp,ho,Instr.makeFunc];rfl
  ·simp only [Rel]
   exact ⟨x.toList.map a.eval,y.toList.map a.eval,by rw [<-Array.toList_map,<-Array.toList_map,Array.toArray_toList,Array.toArray_toList],ZIQ he h1,ZIQ he h2⟩
 ·cases hx
theorem Zr8 {t:Operand} {i:Nat} (ho:o.op= .extract t i) (hx:opV P F e h (.extract t i)=some (ov,h')):OpOK P o a w g ov h':=by
 simp only [opV] at hx
 split at hx
 ·rename_i vs h1
  simp only [Option.map_eq_some_iff,Prod.mk.injEq] at hx
  obtain ⟨v,h2,rfl,rfl⟩:=hx
  have hr:=ZG2 he h1
  simp only [Rel] at hr
  obtain ⟨us,hv,hs⟩:=hr
  obtain ⟨hl,hs⟩:=Rels.iff.1 hs
  have hi:=Am.Zaq h2
  have hu:us[i]? =some (us[i]'(by omega)):=List.getElem?_eq_getElem _
  refine ZG3 hh (v:=us[i]'(by omega)) ?_ (hs i _ _ h2 hu)
  simp [execOp,ho,hv,Instr.extract,hu]
 ·cases hx
theorem Zpb {t:TypeId} {x:Operand} {f:Nat} (ho:o.op= .fieldAddr t x f) (hx:opV P F e h (.fieldAddr t x f)=some (ov,h')):OpOK P o a w g ov h':=by
 simp only [opV] at hx
 split at hx
 ·rename_i b i off h1 h2
  simp only [Option.some.injEq,Prod.mk.injEq] at hx
  obtain ⟨rfl,rfl⟩:=hx
  obtain ⟨hb,hv⟩:=ZIy (ZG2 he h1)
  refine ZG3 hh (v:= .pointer (some (g.at b (i+off)))) ?_ (by simp only [Rel,G.at];exact ⟨hb,trivial⟩)
  simp only [execOp,ho,hv,G.at]
  rw [Zaw,ZmJ h2,Result.andThen_ok,Nat.add_assoc]
 ·rename_i cs off h1 h2
  simp only [Option.some.injEq,Prod.mk.injEq] at hx
  obtain ⟨rfl,rfl⟩:=hx
  have hr:=ZG2 he h1
  simp only [Rel] at hr
  obtain ⟨b,q,hv,hc⟩:=hr
  refine ZG3 hh (v:= .pointer (some ⟨b,q+off,none⟩)) ?_ ?_
  ·simp only [execOp,ho,hv]
   rw [Zaw,ZmJ h2,Result.andThen_ok]
  ·simp only [Rel]
   refine ⟨b,q+off,rfl,fun i y hy=>?_⟩
   rw [List.getElem?_drop] at hy
   rw [Nat.add_assoc]
   exact hc (off+i) y hy
 ·cases hx
end
theorem ZH8 {t:TypeId} {cs:List V} {vs:List Value} {i:Nat} {x:V} (hr:Rels g cs vs) (h:ZLP P t cs i=some x): ∃u,(part t vs.toArray i).run P w= .ok u w/\Rel g x u:=by
 unfold ZLP aggT szOf at h
 split at h
 ·rename_i n h1 h2
  simp only [Option.map_eq_some_iff] at h
  obtain ⟨xs,h3,rfl⟩:=h
  unfold cutC at h3
  split at h3
  ·rename_i hle
   cases h3
   obtain ⟨inf,hi,rfl⟩:=Option.map_eq_some_iff.1 h2
   refine ⟨.agg (vs.toArray.extract i (i+inf.size)),?_,?_⟩
   ·have ha:(Go.isAgg t).run P w= .ok true w:=by
     split at h1<;>first|cases h1|skip
     all_goals rename_i hu;simp [Go.isAgg,run_underlying hu]
    unfold part
    rw [Sem.run_bind,ha,Result.andThen_ok]
    simp [sizeOf,typeInfo,hi]
   ·simp only [Rel]
    refine ⟨(vs.drop i).take inf.size,?_,(hr.drop i).take inf.size⟩
    simp [List.extract_toArray]
  ·cases h3
 ·rename_i n h1 h2
  obtain ⟨hl,hr⟩:=Rels.iff.1 hr
  have hi:=Am.Zaq h
  have hu:vs[i]? =some (vs[i]'(by omega)):=List.getElem?_eq_getElem _
  refine ⟨vs[i]'(by omega),?_,hr i _ _ h hu⟩
  have ha:(Go.isAgg t).run P w= .ok false w:=by
   split at h1<;>first|cases h1|skip
   rename_i d hn1 hn2 hd
   cases d<;>first|exact (hn1 _ rfl).elim|exact (hn2 _ _ rfl).elim|simp [Go.isAgg,run_underlying hd]
  unfold part
  rw [Sem.run_bind,ha,Result.andThen_ok]
  simp [hu]
 ·cases h
theorem ZMn {n d:Nat} (ih: ∀(t:TypeId) (x y:V) (u v:Value) (b:Bool),eqT P n t x y=some b→Rel g x u→Rel g y v→(Op.equalIn d t u v).run P w= .ok b w)
    {a b:List V} {us vs:List Value} (ha:Rels g a us) (hb:Rels g b vs): ∀{fs:List Field} {r:Bool},eqF P (eqT P n) a b fs=some r→(Op.eqFields d us.toArray vs.toArray fs).run P w= .ok r w
  | [],r,h=>by simp only [eqF,Option.some.injEq] at h;subst h;rfl
  | f::fs,r,h=>by
    simp only [eqF,beq_iff_eq] at h
    simp only [Op.eqFields]
    by_cases hn : f.name = "_"
    · rw [if_pos hn] at h
      rw [if_neg (by simp [hn])]
      exact ZMn ih ha hb h
    · rw [if_neg hn] at h
      rw [if_pos hn]
      split at h
      · rename_i x y h1 h2
        obtain ⟨u,r1,r2⟩:=ZH8 (w:=w) ha h1
        obtain ⟨v,r3,r4⟩:=ZH8 (w:=w) hb h2
        rw [Sem.run_bind,r1,Result.andThen_ok,Sem.run_bind,r3,Result.andThen_ok]
        split at h
        · rename_i h3
          rw [Sem.run_bind,ih _ _ _ _ _ _ h3 r2 r4,Result.andThen_ok]
          simp only [Bool.not_true,Bool.false_eq_true,if_false]
          exact ZMn ih ha hb h
        · rename_i h3
          simp only [Option.some.injEq] at h;subst h
          rw [Sem.run_bind,ih _ _ _ _ _ _ h3 r2 r4,Result.andThen_ok]
          rfl
        · cases h
      · cases h
theorem ZMW: ∀(n d:Nat),n<=d-> ∀(t:TypeId) (x y:V) (u v:Value) (b:Bool),eqT P n t x y=some b->Rel g x u->Rel g y v->(Op.equalIn d t u v).run P w= .ok b w:=by
 intro n
 induction n with
 | zero=>intro d _ t x y u v b h;cases h
 | succ n ih=>
   intro d hd t x y u v b h hu hv
   obtain ⟨d,rfl⟩: ∃d',d=d'+1:=⟨d-1,by omega⟩
   have ih:=ih d Zo
   simp only [eqT] at h
   split at h
   all_goals first|cases h|skip
   all_goals rename_i ht
   · rw [ZHr hu,ZHr hv];exact run_equalIn_bool' w d t _ _ ht
   · split at h
     · rename_i hk
       subst hk
       cases h
       rw [ZHv hu,ZHv hv];exact run_equalIn_int w d t _ _ _ _ ht
     · cases h
   · obtain ⟨bs,rfl,rfl⟩:=ZHk hu
     obtain ⟨bs',rfl,rfl⟩:=ZHk hv
     rw [run_equalIn_string w d t _ _ ht,Am.ZoX]
   · simp only [Rel] at hu hv;subst hu;subst hv;simp [Op.equalIn,run_underlying ht]
   · simp only [Rel] at hu hv;obtain ⟨_,rfl⟩:=hv;subst hu;simp [Op.equalIn,run_underlying ht]
   · simp only [Rel] at hu hv;obtain ⟨_,rfl⟩:=hu;subst hv;simp [Op.equalIn,run_underlying ht]
   · split at h
     · rename_i hc
       cases h
       simp only [Bool.and_eq_true] at hc
       obtain ⟨⟨h1,h2⟩,h3⟩:=hc
       rw [Nat.eq_of_beq_eq_true h1,Nat.eq_of_beq_eq_true h2] at hu
       simp only [Rel] at hu hv
       rw [hu.2,hv.2]
       obtain ⟨j,hj⟩:=Option.isSome_iff_exists.1 h3
       simp [Op.equalIn,run_underlying ht,sizeOf,typeInfo,hj,run_sameAddr_same]
     · cases h
   · simp only [Rel] at hu hv;subst hu;subst hv;simp [Op.equalIn,run_underlying ht]
   · simp only [Rel] at hu hv;obtain ⟨_,_,rfl,_⟩:=hv;subst hu;simp [Op.equalIn,run_underlying ht]
   · simp only [Rel] at hu hv;obtain ⟨_,_,rfl,_⟩:=hu;subst hv;simp [Op.equalIn,run_underlying ht]
   · simp only [Rel] at hu hv;obtain ⟨_,_,rfl⟩:=hv;subst hu;simp [Op.equalIn,run_underlying ht]
   · simp only [Rel] at hu hv;obtain ⟨_,_,rfl⟩:=hu;subst hv;simp [Op.equalIn,run_underlying ht]
   · simp only [Rel] at hu hv;obtain ⟨⟨ad,ln⟩,cap,rfl,hp⟩:=hv;subst hu;simp only at hp⊢;cases hp;simp [Op.equalIn,run_underlying ht]
   · simp only [Rel] at hu hv;obtain ⟨⟨ad,ln⟩,cap,rfl,hp⟩:=hu;subst hv;simp only at hp⊢;cases hp;simp [Op.equalIn,run_underlying ht]
   · simp only [Rel] at hu hv;subst hu;subst hv;simp [Op.equalIn,run_underlying ht]
   · simp only [Rel] at hu hv;obtain ⟨_,rfl⟩:=hv;subst hu;simp [Op.equalIn,run_underlying ht]
   · simp only [Rel] at hu hv;obtain ⟨_,rfl⟩:=hu;subst hv;simp [Op.equalIn,run_underlying ht]
   · simp only [Rel] at hu hv;subst hu;subst hv;simp [Op.equalIn,run_underlying ht]
   · simp only [Rel] at hu hv;obtain ⟨_,_,rfl,_⟩:=hv;subst hu;simp [Op.equalIn,run_underlying ht]
   · simp only [Rel] at hu hv;obtain ⟨_,_,rfl,_⟩:=hu;subst hv;simp [Op.equalIn,run_underlying ht]
   · split at h
     · cases h
     · rename_i hs
       simp only [Rel] at hu hv
       obtain ⟨us,rfl,hu⟩:=hu
       obtain ⟨vs,rfl,hv⟩:=hv
       rename_i fs a' b'
       have hf:P.fieldsOf t=fs:=by unfold Program.fieldsOf;rw [ht]
       rw [run_equalIn_agg w d t _ _ (by rw [hf];exact ht) (by simpa using hs),hf]
       exact ZMn ih hu hv h
end Go.Cm
end
