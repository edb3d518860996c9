/- Part. -/
import Derived.Test.YtmofclmogldnjaaGreatDoorCbp
import Derived.Lib.Bytealg
import Derived.Laws.Externs
set_option maxRecDepth 999999
set_option maxHeartbeats 0
set_option linter.all false
section
namespace Go.Cm
variable {P:Program} {h:H}
theorem ZNi {f : FuncId} {fn : Func} {ex : Array Value → Sem Value} (hf : P.funcs[f]? = some fn) (hname : (fn.name == "runtime.NumGoroutine") = false) (hb : fn.body.isNone = true) (hn : Extern.findNext fn = none) (he : Extern.find fn = some ex)
    {args:List V} {v:V} (hr: ∀(g:G) (w:World) (vs:List Value),Rels g args vs→ ∃u,(ex vs.toArray).run P w= .ok u w∧Rel g v u):ZIT P f args h v h:=
  .inr ⟨rfl,fun g w vs hv=>by
    obtain ⟨u,h1,h2⟩:=hr g w vs hv;exact ⟨u,by rw [run_callFunc_extern hf hname hb hn he,h1];rfl,h2⟩⟩
def ZKU:List V->Option V
 | [x]=>some x
 | _=>none
theorem ZLk {f : FuncId} {fn : Func} (hf : P.funcs[f]? = some fn) (hname : (fn.name == "runtime.NumGoroutine") = false) (hb : fn.body.isNone = true) (hn : Extern.findNext fn = none) (he : Extern.find fn = some Extern.AbiNoEscape.same)
    (args:List V) (h:H) (v:V) (hx:ZKU args=some v):ZIT P f args h v h:=by
  unfold ZKU at hx;split at hx
  · cases hx;refine ZNi hf hname hb hn he fun g w vs hv=>?_;simp only [Rels] at hv;obtain ⟨u,us,rfl,hu,rfl⟩:=hv;exact ⟨u,Lib.run_noEscape w u,hu⟩
  · cases hx
def cmpL:List Nat->List Nat->Int
 | [],[]=>0
 | [],_::_=> -1
 | _::_,[]=>1
 | a::l,b::r=>if Nat.blt a b then -1 else if Nat.blt b a then 1 else cmpL l r
def ZMd: ∀(a b:List UInt8),Lib.compareBytes a b=cmpL (a.map UInt8.toNat) (b.map UInt8.toNat)
 | [],[]=>rfl
 | [],_::_=>rfl
 | _::_,[]=>rfl
 | a::l1,b::l2=>by
   simp only [Lib.compareBytes,Yp,cmpL,UInt8.lt_iff_toNat_lt,ZMd l1 l2,jA]
def ZM1:List V->Option V
 | [.str a,.str b]=>some (.int .i64 (cmpL a b))
 | _=>none
theorem ZLY {f : FuncId} {fn : Func} (hf : P.funcs[f]? = some fn) (hname : (fn.name == "runtime.NumGoroutine") = false) (hb : fn.body.isNone = true) (hn : Extern.findNext fn = none) (he : Extern.find fn = some Extern.BytealgCompare.compare)
    (args:List V) (h:H) (v:V) (hx:ZM1 args=some v):ZIT P f args h v h:=by
  unfold ZM1 at hx;split at hx
  · rename_i a b;cases hx;refine ZNi hf hname hb hn he fun g w vs hv=>?_;simp only [Rels] at hv;obtain ⟨u,us,rfl,hu,u',us',rfl,hu',rfl⟩:=hv;obtain ⟨x,rfl,rfl⟩:=ZHC hu;obtain ⟨y,rfl,rfl⟩:=ZHC hu';refine ⟨_,Lib.run_compareString x y w,?_⟩;rw [ZMd];simp only [Rel];rfl
  · cases hx
end Go.Cm
end
section
namespace Go.Cm
variable {P:Program}
def tabX (P:Program) (l:List (Nat×(List V->Option V))) (f:Nat):Option Fn:=match l.find? (fun x=>Nat.beq x.1 f) with
 | some x=>some (.ext x.2)
 | none=>(P.funcs[f]?).map .code
def ZNd {l:List (Nat×(List V->Option V))} (hl: ∀x∈l,∀(args:List V) (h:H) (v:V),x.2 args=some v->ZIT P x.1 args h v h):ZKg P (tabX P l):=by
 intro f;unfold tabX;cases hf:l.find? (fun x=>Nat.beq x.1 f) with
 | some x=>
   simp only;intro args h v hx;have h1:=List.mem_of_find?_eq_some hf;have h2:=List.find?_some hf;have h3:x.1=f:=qE h2;rw [<-h3];exact hl x h1 args h v hx
 | none=>
   simp only;cases hg:P.funcs[f]? with
   | none=>simp
   | some fn=>simp
end Go.Cm
end
section
namespace Go.Cm
variable {P:Program} {g:G} {h:H} {w:World}
def vOfC:Am.C->Option V
 | .p x=>some (vOfP x)
 | _=>none
def ZNK:List Am.C->Option (List V)
 | []=>some []
 | c::cs=>match vOfC c,ZNK cs with
   | some v,some vs=>some (v::vs)
   | _,_=>none
def vOfA:Am.A->Option V
 | .one c=>vOfC c
 | .agg cs=>(ZNK cs).map .agg
def ZNQ:List Am.A->Option (List V)
 | []=>some []
 | c::cs=>match vOfA c,ZNQ cs with
   | some v,some vs=>some (v::vs)
   | _,_=>none
def ZKy:List Am.A->Option V
 | [x]=>vOfA x
 | xs=>(ZNQ xs).map .tup
def G.data (g:G) (w w':World) (pr:Nat->Nat):G:={g with pr0:=fun b=>if b<w.heap.size then g.pr0 b else pr b,w0:=w'}
def HR.data_le (hh:HR g h w) {w':World} {pr:Nat->Nat} (hk: ∀k,k<w.heap.size->w'.heap[k]? =w.heap[k]?):Le g (g.data w w' pr):=
 ⟨⟨fun _ h=>h,fun _ _=>rfl,fun _ _=>rfl,rfl,fun b o v ho hv=>(by
  rcases Yt b w.heap.size with hb|hb
  ·exact ZH9 (hk b hb) (hh.dt.kp b o v ho hv)
  ·rw [hh.dt.fr b hb] at ho;omega),fun b=>(by
  show g.pr0 b<=if b<w.heap.size then g.pr0 b else pr b
  split
  ·exact Yc _
  ·rw [hh.dt.fr b Zo];exact Yd _)⟩,Yc _,fun _ h=> .inl h,rfl⟩
def HR.data (hh:HR g h w) {w':World} {pr:Nat->Nat} (hs:w.heap.size<=w'.heap.size) (hk: ∀k,k<w.heap.size->w'.heap[k]? =w.heap[k]?) (hz: ∀b,w'.heap.size<=b->pr b=0):HR (g.data w w' pr) h w':=
 have hl:Le0 g (g.data w w' pr):=(hh.data_le hk).toLe0;have hk': ∀b,g.ex b->w'.heap[(g.β b).1]? =w.heap[(g.β b).1]? :=fun b hb=>hk _ (hh.blk b hb).2
 ⟨Yy hh.bs hs,hh.nx,hh.top,hh.mins,hh.grp,fun b hb=>⟨(hh.blk b hb).1,Yq (hh.blk b hb).2 hs⟩,fun b o hx hb=>(hh.ob b o hx hb).mono hl hx (hk' b hx),hh.tl,
  fun b t n hx hb=>(by rw [show w'.heap[((g.data w w' pr).β b).1]? =w.heap[(g.β b).1]? from hk' b hx];exact hh.ty b t n hx hb),hh.i1,hh.i2,hh.i4,hh.dm,
  ⟨fun _ _ _ _ hv=>hv,fun b hb=>(by
   show (if (g.β b).1<w.heap.size then g.pr0 (g.β b).1 else pr (g.β b).1)=0;rw [if_pos (hh.blk b hb).2];exact hh.dt.dj b hb),fun b hb=>(by
   show (if b<w.heap.size then g.pr0 b else pr b)=0;rw [if_neg Zo];exact hz b hb)⟩⟩
def ZOF {pr:Nat->Nat} {x:Am.P} {u:Value} (hp: ∀b,pr b<=g.pr0 b) (hr:Am.RepP pr g.w0 u x):Rel g (vOfP x) u:=by
 have hr':Am.RepP g.pr0 g.w0 u x:=hr.mono (fun _ _ _ _ hv=>hv) hp;cases x with
 | int k n=>cases hr;rfl
 | bool b=>cases hr;rfl
 | str s=>cases hr;exact ⟨_,rfl,by assumption⟩
 | sl s rows=>
   obtain ⟨a,cap,rfl,_⟩:=hr.slice_inv;exact ⟨(a,rows.length),cap,rfl,hr'⟩
def ZOm {gA:Am.G} {ℓ:Am.Loc} {x:Am.C} {u:Value} {v:V} (hp: ∀b,gA.pr b<=g.pr0 b) (hr:Am.RepC gA g.w0 ℓ u x) (hv:vOfC x=some v):Rel g v u:=by
 cases x with
 | p x=>cases hv;exact ZOF hp hr
 | _=>cases hv
def ZNv {gA:Am.G} {k c:Nat} (hp: ∀b,gA.pr b<=g.pr0 b): ∀{xs:List Am.C} {us:List Value} {vs:List V} (ℓ:Nat->Am.Loc),us.length=xs.length->(∀(i:Nat) u x,us[i]? =some u->xs[i]? =some x->Am.RepC gA g.w0 (ℓ i) u x)->ZNK xs=some vs->Rels g vs us
 | [],[],vs,_,_,_,hv=>by cases hv;rfl
 | [],u::us,vs,_,hl,_,hv=>by simp at hl
 | x::xs,[],vs,_,hl,_,hv=>by simp at hl
 | x::xs,u::us,vs,ℓ,hl,hr,hv=>by
   unfold ZNK at hv;split at hv
   · rename_i v vs' h1 h2;cases hv;exact ⟨u,us,rfl,ZOm hp (hr 0 u x rfl rfl) h1,ZNv (k:=k) (c:=c) hp (fun i=>ℓ (i+1)) (by simpa using hl) (fun i u x hu hx=>hr (i+1) u x hu hx) h2⟩
   · cases hv
def ZOo {gA:Am.G} {k c:Nat} {x:Am.A} {u:Value} {v:V} (hp: ∀b,gA.pr b<=g.pr0 b) (hr:Am.RepA gA g.w0 k c u x) (hv:vOfA x=some v):Rel g v u:=by
 cases x with
 | one x=>exact ZOm (gA:=gA) hp hr hv
 | agg cs=>
   obtain ⟨us,rfl,h1,h2⟩:=hr;simp only [vOfA,YG] at hv;obtain ⟨vs,hv,rfl⟩:=hv;exact ⟨us.toList,rfl,ZNv (k:=k) (c:=c) hp (fun i=>(k,c,i)) h1 h2 hv⟩
def ZMQ {gA:Am.G} {k:Nat} (hp: ∀b,gA.pr b<=g.pr0 b): ∀{xs:List Am.A} {us:List Value} {vs:List V} (c:Nat),Am.RepAs gA g.w0 k c us xs->ZNQ xs=some vs->Rels g vs us
 | [],[],vs,_,_,hv=>by cases hv;rfl
 | [],u::us,vs,_,hl,hv=>by
   obtain ⟨hl,_⟩:=hl;simp at hl
 | x::xs,[],vs,_,hl,hv=>by
   obtain ⟨hl,_⟩:=hl;simp at hl
 | x::xs,u::us,vs,c,hl,hv=>by
   unfold ZNQ at hv;split at hv
   · rename_i v vs' h1 h2;cases hv;refine ⟨u,us,rfl,ZOo hp (hl.2 0 u x rfl rfl) h1,ZMQ (k:=k) hp (c+1) ⟨Nat.succ.inj hl.1,fun i u x hu hx=>?_⟩ h2⟩;have:=hl.2 (i+1) u x hu hx;rwa [show c+(i+1)=c+1+i by omega] at this
   · cases hv
theorem ZNz {gA:Am.G} {k:Nat} {rs:List Am.A} {u:Value} {v:V} (hp: ∀b,gA.pr b<=g.pr0 b) (hr:Am.RepD gA g.w0 k u (Am.resD rs)) (hv:ZKy rs=some v):Rel g v u:=by
 match rs,hr,hv with
 | [x],hr,hv=>exact ZOo hp hr hv
 | [],hr,hv=>
   obtain ⟨us,rfl,h1⟩:=hr;simp only [ZKy,YG] at hv;obtain ⟨vs,hv',rfl⟩:=hv;exact ⟨us.toList,rfl,ZMQ hp 1 h1 hv'⟩
 | x::y::l,hr,hv=>
   obtain ⟨us,rfl,h1⟩:=hr;simp only [ZKy,YG] at hv;obtain ⟨vs,hv',rfl⟩:=hv;exact ⟨us.toList,rfl,ZMQ hp 1 h1 hv'⟩
def eqN:List Nat->List Nat->Bool
 | [],[]=>true
 | a::l,b::r=>Nat.beq a b && eqN l r
 | _,_=>false
def eqN_eq: ∀{a b:List Nat},eqN a b=true->a=b
 | [],[],_=>rfl
 | x::a,y::b,h=>by
   simp only [eqN,Yb] at h;rw [qE h.1,eqN_eq h.2]
 | [],_::_,h=>by cases h
 | _::_,[],h=>by cases h
def amP (s0:List Nat) (n0:Int) (v0:V) (args:List V) (h:H):Option (V×H):=match args with
 | [.str s,.int .i64 n]=>if eqN s s0 && decide (n=n0) then some (v0,h) else none
 | _=>none
theorem ZNl {S:Nat->Option Am.Fn} (hS: @Am.FnOK wi0 P S) {n f:Nat} {s0:List Nat} {n0:Int} {rs:List Am.A} {v0:V} (hc:Am.call S n f [.one (.p (.str s0)),.one (.p (.int .i64 n0))] []=some (rs,[])) (hv:ZKy rs=some v0)
  (args:List V) (h:H) (v:V) (h':H) (hx:amP s0 n0 v0 args h=some (v,h')):ZIT P f args h v h'/\h.next<=h'.next:=by
 unfold amP at hx;split at hx
 ·rename_i s k;split at hx
  ·rename_i hq;simp only [Ye,YM] at hx;obtain ⟨rfl,rfl⟩:=hx;simp only [Yb,decide_eq_true_eq] at hq;obtain ⟨hs,rfl⟩:=hq;obtain rfl:=eqN_eq hs;obtain ⟨he,hcall⟩:= @Am.ZlN wi0 P S hS n _ _ _ _ _ hc;refine ⟨.inl ⟨he,fun g w vs hh hr=>?_⟩,Yc _⟩;simp only [Rels] at hr;obtain ⟨u,us,rfl,⟨bs,rfl,hb⟩,u',us',rfl,rfl,rfl⟩:=hr;refine (hcall ⟨0,fun b=>w.heap.size<=b∨ ∃i,i<([]:List (List Am.C)).length/\b=0,fun _=>0,fun _=>none,fun _=>0,fun _=>0⟩ w [.string bs,.int .i64 k] ⟨rfl,fun j u x hu hx=>?_⟩ (by simp [Am.A.clean,Am.A.cells,Am.C.clean]) Zs Zs Zs (fun _ _=>⟨rfl,rfl⟩) trivial rfl).mono ?_
   ·match j with
    | 0=>injection hu with hu;injection hx with hx;subst hu hx;exact Am.RepP.str _ _ hb
    | 1=>injection hu with hu;injection hx with hx;subst hu hx;exact Am.RepP.int _ _
    | j+2=>simp at hu
   ·rintro r w' ⟨u,gA,rfl,hE,_,_,hF,hR,_⟩;have hT: ∀k,k<w.heap.size-> ¬(w.heap.size<=k∨ ∃i,i<([]:List (List Am.C)).length/\k=0):=fun k hk hT=>by
     rcases hT with hT|⟨i,hi,_⟩
     ·omega
     ·simp at hi
    have hk: ∀k,k<w.heap.size->w'.heap[k]? =w.heap[k]? :=fun k hk=>hE.hid k hk rfl (hT k hk);refine ⟨u,g.data w w' gA.pr,rfl,ZNz (gA:=gA) (g:=g.data w w' gA.pr) (fun b=>?_) hR hv,hh.data hE.size hk (fun b hb=>(hF b hb).1),hh.data_le hk,hE.os,hE.tape,hE.output,hE.size,fun k hk' _=>hk k hk',fun b hb=> .inl ⟨b,hb,rfl⟩,fun b hb=>if_pos hb⟩;show gA.pr b<=if b<w.heap.size then g.pr0 b else gA.pr b
    split
    ·rename_i hb;rw [(hE.keep b hb rfl (hT b hb)).1];exact Yd _
    ·exact Yc _
  ·cases hx
 ·cases hx
def tabT (f:Nat) (p:List V->H->Option (V×H)) (tab:Nat->Option Fn) (k:Nat):Option Fn:=match Nat.beq f k with
 | true=>some (.prim p)
 | false=>tab k
def ZM8 {f:Nat} {p:List V->H->Option (V×H)} {tab:Nat->Option Fn} (hp: ∀args h v h',p args h=some (v,h')->ZIT P f args h v h'/\h.next<=h'.next) (ht:ZKg P tab):ZKg P (tabT f p tab):=fun k=>by
 unfold tabT;cases hb:Nat.beq f k with
 | true=>
   have:=qE hb;subst this;exact hp
 | false=>exact ht k
end Go.Cm
end
