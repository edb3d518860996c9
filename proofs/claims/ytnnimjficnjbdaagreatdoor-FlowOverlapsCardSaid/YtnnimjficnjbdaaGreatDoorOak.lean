/- Part. -/
import Derived.Test.YtnnimjficnjbdaaGreatDoorOai
import Derived.Laws.Append
import Derived.Laws.CopyRow
import Derived.Laws.Strings
import Derived.Laws.StructEq
set_option maxRecDepth 999999
set_option maxHeartbeats 0
set_option linter.all false
section
namespace Go.Am
variable [WI]
variable {Pg:Program}
theorem Zau:OBJS<BOX:=by decide
def OpOut (Pg:Program) (o:Oper) (a:Act) (w:World) (g:G) (e':Env):Prop:=
 ∃(nx:Next) (v:Value) (w':World) (g':G),(execOp a.eval o).run Pg w= .ok nx w'/\(nx= .value v∨(nx= .skip/\v=undef))/\
  St g' e' (a.put o.dst v) w'/\Ext g.T g.pr g.ow w w' g'.pr g'.ow/\g'.ω=g.ω/\g'.T=g.T/\g'.nt=g.nt
def ZfU:Value->C->Bool
 | .int k n,.p (.int k' n')=>k==k' && n==n'
 | .bool b,.p (.bool b')=>b==b'
 | .string s,.p (.str t)=>ZbJ s==t
 | .slice none 0 0,.tip _ []=>true
 | .slice none 0 0,.p (.sl _ [])=>true
 | .slice none 0 0,.uniq _ []=>true
 | .slice none 0 0,.bytes _ []=>true
 | .pointer none,.nilp=>true
 | .func (.func f) first caps,.clo f' [] []=>f==f' && first.size==0 && caps.size==0
 | .nilFunc,.junk=>true
 | .map none,.junk=>true
 | .nilIface,.junk=>true
 | _,_=>false
def Zcl:Operand->Arg->Bool
 | .tmp t,.k n=>t==n && Nat.blt n OBJS
 | .const v,.c c=>ZfU v c
 | .func f,.c (.clo f' [] [])=>f==f'
 | _,_=>false
theorem Zds {v:Value} {c:C} (h:ZfU v c=true) (g:G) (w:World) (ℓ:Loc):RepC g w ℓ v c:=by
 unfold ZfU at h
 split at h
 ·simp at h;obtain ⟨rfl,rfl⟩:=h;exact RepP.int _ _
 ·simp at h;subst h;exact RepP.bool _
 ·simp at h;exact RepP.str _ _ h
 ·exact ⟨RepP.nils _ _ _,none,0,rfl,.inl rfl⟩
 ·exact RepP.nils _ _ _
 ·exact ⟨none,0,rfl,.inl ⟨rfl,rfl,rfl⟩⟩
 ·exact ⟨none,0,rfl,.inl ⟨rfl,rfl,rfl⟩⟩
 ·rfl
 ·rename_i first caps _
  simp at h
  obtain ⟨⟨rfl,h1⟩,h2⟩:=h
  have e1:first= #[]:=by simpa using h1
  have e2:caps= #[]:=by simpa using h2
  subst e1;subst e2
  rfl
 ·exact ⟨rfl,fun _ h=>(nomatch h),fun _ h=>(nomatch h)⟩
 ·exact ⟨rfl,fun _ h=>(nomatch h),fun _ h=>(nomatch h)⟩
 ·exact ⟨rfl,fun _ h=>(nomatch h),fun _ h=>(nomatch h)⟩
 ·cases h
theorem ZfR {g:G} {e:Env} {a:Act} {w:World} (h:St g e a w) {x:Operand} {y:Arg} (hx:Zcl x y=true) (takes:List Nat):
  RepD g w (match y with| .k n=>n| .c _=>0) (a.eval x) (Zbl e takes y):=by
 unfold Zcl at hx
 split at hx
 ·rename_i t n
  simp at hx
  obtain ⟨rfl,hn⟩:=hx
  have:=(h.key t).tm hn
  simp only [Zbl,Act.eval]
  split
  ·exact this
  ·exact this.plain
 ·exact Zds hx _ _ _
 ·rename_i f f'
  simp at hx
  subst hx
  simp only [Act.eval,Zbl]
  rfl
 ·cases hx
theorem ZbL {g:G} {e:Env} {a:Act} {w:World} (h:St g e a w) {x:Operand} {y:Arg} (hx:Zcl x y=true) (k:Nat):
  RepD g w k (a.eval x) (Zbl e [] y):=by
 unfold Zcl at hx
 split at hx
 ·rename_i t n
  simp at hx
  obtain ⟨rfl,hn⟩:=hx
  have:=(h.key t).tm hn
  simp only [Zbl,Act.eval]
  exact this.plain
 ·exact Zds hx _ _ _
 ·rename_i f f'
  simp at hx
  subst hx
  simp only [Act.eval,Zbl]
  rfl
 ·cases hx
theorem Zbe {a:Act} {k:Nat} {v:Value} (h:k<a.tmps.size):(a.put (some k) v).tmps.getD k undef=v:=by
 simp [Act.put,Array.getD,h]
theorem Zbb {a:Act} {k k':Nat} {v:Value} (h:k'≠k):(a.put (some k) v).tmps.getD k' undef=a.tmps.getD k' undef:=by
 simp [Act.put,Array.getElem?_setIfInBounds_ne (Ne.symm h)]
theorem Zd6 {a:Act} {k:Option Nat} {v:Value}:(a.put k v).tmps.size=a.tmps.size:=by
 cases k<;>simp [Act.put]
theorem Zb6 {a:Act} {k:Option Nat} {v:Value}:(a.put k v).defers=a.defers:=by
 cases k<;>rfl
theorem St.put {g:G} {e:Env} {a:Act} {w:World} (h:St g e a w) {k:Nat} (hk:k<g.nt) {v:Value} {d:D} (hd:RepD g w k v d):
  St g (e.set k d) (a.put (some k) v) w:=by
 have hk':k<OBJS:=Nat.lt_of_lt_of_le hk h.nt
 have hs:k<a.tmps.size:=Nat.lt_of_lt_of_le hk h.sz
 have hno:OBJS≠k:=Nat.ne_of_gt hk'
 refine h.gen [k] (fun _=>True) (Ext.refl _ _ _ _) h.fr rfl rfl rfl (by rw [Zb6];exact h.df) Zd6 (fun k' hn=>Env.get_set_ne _ _ (fun e=>hn (by simp [e])))
  (fun k' hn _=>Zbb (by simpa using hn)) (fun _ _ _ _ b hb=>⟨hb,rfl,rfl⟩) (fun _=> .inl rfl) (fun _ _=>⟨rfl,rfl,rfl⟩) (fun _ _ _ _=>trivial) (fun _ _ _ _ _=>trivial)
  (fun k' hm=>?_) (fun κ hm hκ=>?_) (fun hm=>?_) (fun κ hm hκ=>?_)
 ·simp at hm;subst hm
  refine ⟨fun _=>?_,fun hb=>?_,fun ho=>absurd ho (Ne.symm hno)⟩
  ·rw [Env.get_set_same,Zbe hs];exact hd
  ·have:=Zau;omega
 ·simp at hm;subst hm;have:=Zau;omega
 ·simp at hm;exact absurd hm hno
 ·simp at hm;subst hm;have:=Zau;omega
theorem ZwX {g:G} {e:Env} {a:Act} {w:World} (h:St g e a w) {o:Oper} {k:Nat} (hd:o.dst=some k) (hk:k<g.nt) {v:Value} {d:D}
  (hr:(execOp a.eval o).run Pg w= .ok (.value v) w) (hv:RepD g w k v d):OpOut Pg o a w g (e.set k d):=
 ⟨.value v,v,w,g,hr,.inl rfl,by rw [hd];exact h.put hk hv,Ext.refl _ _ _ _,rfl,rfl,rfl⟩
theorem ZvO {e e':Env} {ds:List D} {k:Nat} (h:e.sets [k] ds=some e'): ∃d,ds=[d]/\e'=e.set k d:=by
 cases ds with
 | nil=>cases h
 | cons d r=>
   cases r with
   | nil=>simp only [Env.sets] at h;cases h;exact ⟨d,rfl,rfl⟩
   | cons _ _=>simp [Env.sets] at h
theorem Zk8 {F:ZaQ} {s:SOp} {e e':Env} {k:Nat} (ht:s.takes=[]) (ho:s.outs=[k]) (h:doOp F s e=some e'):
   ∃d,ZaI F s.kind (s.ins.map (Zbl e []))=some [d]/\e'=e.set k d:=by
 unfold doOp at h
 rw [ht,ho] at h
 cases hs:ZaI F s.kind (s.ins.map (Zbl e [])) with
 | none=>rw [hs] at h;cases h
 | some ds=>
   rw [hs] at h
   obtain ⟨d,rfl,rfl⟩:=ZvO h
   exact ⟨d,rfl,rfl⟩
theorem Zei {g:G} {w:World} {k:Nat} {v:Value} {i:IntKind} {n:Int} (h:RepD g w k v (one (.int i n))):v= .int i n:=by
 have h':RepP g.pr w v (.int i n):=h
 cases h';rfl
theorem Zjm {g:G} {w:World} {k:Nat} {v:Value} {b:Bool} (h:RepD g w k v (one (.bool b))):v= .bool b:=by
 have h':RepP g.pr w v (.bool b):=h
 cases h';rfl
theorem ZoC {g:G} {w:World} {k:Nat} {v:Value} {t:List Nat} (h:RepD g w k v (one (.str t))): ∃bs,v= .string bs/\ZbJ bs=t:=by
 have h':RepP g.pr w v (.str t):=h
 cases h' with
 | str bs _ h=>exact ⟨bs,rfl,h⟩
theorem ZmC {g:G} {w:World} {k:Nat} {v:Value} {r:R} (h:RepD g w k v (.a (.one (.ref r)))):v=r.val g:=h
theorem ZhO {g:G} {w:World} {k:Nat} {v:Value} {c:C} {s:Nat} {rows:List (List P)} (h:RepD g w k v (.a (.one c))) (hc:c.rows=some (s,rows)):RepP g.pr w v (.sl s rows):=by
 cases c with
 | p x=>cases x<;>simp [C.rows] at hc;obtain ⟨rfl,rfl⟩:=hc;exact h
 | tip s' r=>simp [C.rows] at hc;obtain ⟨rfl,rfl⟩:=hc;exact h.1
 | _=>simp [C.rows] at hc
section strings
theorem ZbU (bs:ByteArray):ZbJ bs=bs.toList.map UInt8.toNat:=by rw [ByteArray.toList_eq];rfl
theorem Ze7 (bs:ByteArray):(ZbJ bs).length=bs.size:=by simp [ZbJ]
theorem Zys (x y:List UInt8):eqS (x.map UInt8.toNat) (y.map UInt8.toNat)=(x==y):=by
 induction x generalizing y with
 | nil=>cases y<;>rfl
 | cons a x ih=>
   cases y with
   | nil=>rfl
   | cons b y=>
     simp only [List.map_cons,eqS,ih]
     rw [List.cons_beq_cons]
     congr 1
     rw [Bool.eq_iff_iff]
     simp [UInt8.toNat_inj]
theorem ZoX (x y:ByteArray):eqS (ZbJ x) (ZbJ y)=(x.toList==y.toList):=by
 rw [ZbU,ZbU,Zys]
theorem ZoZ (x y:List UInt8):bytesLess (x.map UInt8.toNat) (y.map UInt8.toNat)=Op.bytesLess x y:=by
 induction x generalizing y with
 | nil=>cases y<;>rfl
 | cons a x ih=>
   cases y with
   | nil=>rfl
   | cons b y=>
     simp only [List.map_cons,bytesLess,Op.bytesLess,ih]
     congr 1
     · rw [Bool.eq_iff_iff];simp [UInt8.lt_iff_toNat_lt]
     · congr 1
       rw [Bool.eq_iff_iff]
       simp [UInt8.toNat_inj]
theorem ZkD (x y:ByteArray):bytesLess (ZbJ x) (ZbJ y)=Op.bytesLess x.toList y.toList:=by
 rw [ZbU,ZbU,ZoZ]
theorem ZoL (x y:ByteArray):ZbJ (x++y)=ZbJ x++ZbJ y:=by
 simp [ZbJ,ByteArray.data_append]
end strings
end Go.Am
end
section
namespace Go.Am
variable [WI]
variable {Pg:Program}
theorem Zqq {F:ZaQ} {s:SOp} {e e':Env} (ht:s.takes=[]) (h:doOp F s e=some e'):
  ∃ds,ZaI F s.kind (s.ins.map (Zbl e []))=some ds/\e.sets s.outs ds=some e':=by
 unfold doOp at h
 rw [ht] at h
 cases hs:ZaI F s.kind (s.ins.map (Zbl e [])) with
 | none=>rw [hs] at h;cases h
 | some ds=>rw [hs] at h;exact ⟨ds,rfl,h⟩
def Zie (o:Oper) (s:SOp) (nt:Nat):Bool:=
 match o.dst,s.outs,s.takes with
 | some d,[d'],[]=>d==d' && Nat.blt d nt
 | _,_,_=>false
theorem Ziq {o:Oper} {s:SOp} {nt:Nat} (h:Zie o s nt=true): ∃d,o.dst=some d/\s.outs=[d]/\s.takes=[]/\d<nt:=by
 unfold Zie at h
 split at h
 ·rename_i d d' h1 h2 h3
  simp at h
  obtain ⟨rfl,hlt⟩:=h
  exact ⟨d,h1,h2,h3,hlt⟩
 ·cases h
theorem Zer {F:ZaQ} {g:G} {e e':Env} {a:Act} {w:World} (h:St g e a w) {o:Oper} {s:SOp} (ho:Zie o s g.nt=true) (hd:doOp F s e=some e')
  (hv: ∀d,ZaI F s.kind (s.ins.map (Zbl e []))=some [d]-> ∃v,(execOp a.eval o).run Pg w= .ok (.value v) w/\ ∀k,RepD g w k v d):OpOut Pg o a w g e':=by
 obtain ⟨d,h1,h2,h3,h4⟩:=Ziq ho
 obtain ⟨x,hx,rfl⟩:=Zk8 h3 h2 hd
 obtain ⟨v,hr,hrep⟩:=hv x hx
 exact ZwX h h1 h4 hr (hrep d)
def Zeo:List Operand->List Arg->Bool
 | [],[]=>true
 | x::xs,y::ys=>Zcl x y && Zeo xs ys
 | _,_=>false
theorem map_some {α:Type} {xs:List D} {f:List D->Option α} {x:α} (h:f xs=some x):f xs=some x:=h
def ok1 (x:Operand) (s:SOp):Bool:=match s.ins with|[y]=>Zcl x y|_=>false
def ok2 (x x':Operand) (s:SOp):Bool:=match s.ins with|[y,y']=>Zcl x y && Zcl x' y'|_=>false
def ok3 (x x' x'':Operand) (s:SOp):Bool:=match s.ins with|[y,y',y'']=>Zcl x y && Zcl x' y' && Zcl x'' y''|_=>false
theorem Zhy {g:G} {e:Env} {a:Act} {w:World} (h:St g e a w) {x:Operand} {s:SOp} (hx:ok1 x s=true):
  ∃d,s.ins.map (Zbl e [])=[d]/\ ∀k,RepD g w k (a.eval x) d:=by
 unfold ok1 at hx
 split at hx
 ·rename_i y hy;exact ⟨_,by rw [hy];rfl,fun k=>ZbL h hx k⟩
 ·cases hx
theorem Zj2 {g:G} {e:Env} {a:Act} {w:World} (h:St g e a w) {x x':Operand} {s:SOp} (hx:ok2 x x' s=true):
  ∃d d',s.ins.map (Zbl e [])=[d,d']/\(∀k,RepD g w k (a.eval x) d)/\ ∀k,RepD g w k (a.eval x') d':=by
 unfold ok2 at hx
 split at hx
 ·rename_i y y' hy
  rw [Bool.and_eq_true] at hx
  exact ⟨_,_,by rw [hy];rfl,fun k=>ZbL h hx.1 k,fun k=>ZbL h hx.2 k⟩
 ·cases hx
theorem Zyu {g:G} {e:Env} {a:Act} {w:World} (h:St g e a w) {x x' x'':Operand} {s:SOp} (hx:ok3 x x' x'' s=true):
  ∃d d' d'',s.ins.map (Zbl e [])=[d,d',d'']/\(∀k,RepD g w k (a.eval x) d)/\(∀k,RepD g w k (a.eval x') d')/\ ∀k,RepD g w k (a.eval x'') d'':=by
 unfold ok3 at hx
 split at hx
 ·rename_i y y' y'' hy
  rw [Bool.and_eq_true,Bool.and_eq_true] at hx
  exact ⟨_,_,_,by rw [hy];rfl,fun k=>ZbL h hx.1.1 k,fun k=>ZbL h hx.1.2 k,fun k=>ZbL h hx.2 k⟩
 ·cases hx
theorem Zaw (x:Sem Value) (w:World):Sem.run Pg (x>>=fun v=>pure (Next.value v)) w=(x.run Pg w).andThen fun v w'=>Result.ok (Next.value v) w':=by
 rw [Sem.run_bind];rfl
section each
variable {F:ZaQ} {g:G} {e e':Env} {a:Act} {w:World}
def ZBV (o:Oper) (s:SOp) (nt:Nat):Bool:=
 Zie o s nt && match o.op with
 | .move x=>ok1 x s
 | .assign x=>ok1 x s
 | _=>false
theorem ZCe (h:St g e a w) {o:Oper} {s:SOp} (hk:s.kind= .mov) (ho:ZBV o s g.nt=true) (hd:doOp F s e=some e'):OpOut Pg o a w g e':=by
 unfold ZBV at ho
 rw [Bool.and_eq_true] at ho
 refine Zer h ho.1 hd fun d hx=>?_
 have ho2:=ho.2
 rw [hk] at hx
 split at ho2<;>first|cases ho2|skip
 all_goals
  rename_i x hop
  obtain ⟨d',h1,h2⟩:=Zhy h ho2
  rw [h1] at hx
  simp only [ZaI,ZrX,Option.some.injEq,List.cons.injEq,and_true] at hx
  subst hx
  exact ⟨a.eval x,by simp [execOp,hop],h2⟩
def Zv8 (o:Oper) (s:SOp) (nt:Nat):Bool:=
 Zie o s nt && match o.op with
 | .pick c x y=>ok3 c x y s
 | _=>false
theorem Zyw (h:St g e a w) {o:Oper} {s:SOp} (hk:s.kind= .pick) (ho:Zv8 o s g.nt=true) (hd:doOp F s e=some e'):OpOut Pg o a w g e':=by
 unfold Zv8 at ho
 rw [Bool.and_eq_true] at ho
 refine Zer h ho.1 hd fun d hx=>?_
 have ho2:=ho.2
 rw [hk] at hx
 split at ho2
 ·rename_i c x y hop
  obtain ⟨d1,d2,d3,h1,h2,h3,h4⟩:=Zyu h ho2
  rw [h1] at hx
  simp only [ZaI] at hx
  unfold ZqZ at hx
  split at hx
  ·rename_i heq
   simp only [List.cons.injEq,and_true] at heq
   obtain ⟨rfl,rfl,rfl⟩:=heq
   simp only [Zx5,and_true] at hx
   subst hx
   have hc:=Zjm (h2 0)
   refine ⟨_,by simp only [execOp,hop,hc,asBool];rfl,fun k=>?_⟩
   split
   ·exact h3 k
   ·exact h4 k
  ·cases hx
 ·cases ho2
def Zla (o:Oper) (s:SOp) (nt:Nat):Bool:=
 Zie o s nt && match o.op with
 | .nilCheck x=>ok1 x s
 | _=>false
theorem Zrd (h:St g e a w) {o:Oper} {s:SOp} (hk:s.kind= .nilCheck) (ho:Zla o s g.nt=true) (hd:doOp F s e=some e'):OpOut Pg o a w g e':=by
 unfold Zla at ho
 rw [Bool.and_eq_true] at ho
 refine Zer h ho.1 hd fun d hx=>?_
 have ho2:=ho.2
 rw [hk] at hx
 split at ho2
 ·rename_i x hop
  obtain ⟨d',h1,h2⟩:=Zhy h ho2
  rw [h1] at hx
  simp only [ZaI] at hx
  unfold Zhj at hx
  split at hx
  ·rename_i heq
   simp only [List.cons.injEq,and_true] at heq
   subst heq
   simp only [Zx5,and_true] at hx
   subst hx
   have hv:=ZmC (h2 0)
   exact ⟨_,by simp [execOp,hop,hv,R.val],fun k=>h2 k⟩
  ·rename_i heq
   simp only [List.cons.injEq,and_true] at heq
   subst heq
   simp only [Zx5,and_true] at hx
   subst hx
   obtain ⟨b,o',hv,_⟩:=h2 0
   exact ⟨_,by simp [execOp,hop,hv],fun k=>h2 k⟩
  ·cases hx
 ·cases ho2
def Zo2 (Pg:Program) (t:TypeId) (f:Nat):Option Nat:=
 match Pg.underlying t with
 | some (.struct fs)=>match fs[f]? with
   | some fd=>match Pg.info? fd.type with
     | some i=>if i.size=0 then none else some fd.offset
     | none=>none
   | none=>none
 | _=>none
theorem Addr.add_eq (b o n:Nat):(⟨b,o,none⟩:Addr).add n=⟨b,o+n,none⟩:=by
 unfold Addr.add;split<;>simp_all
theorem ZmJ {t f off b o:Nat} (h:Zo2 Pg t f=some off):(Instr.fieldAt t (.pointer (some ⟨b,o,none⟩)) f).run Pg w= .ok (.pointer (some ⟨b,o+off,none⟩)) w:=by
 unfold Zo2 at h
 split at h
 ·rename_i fs hu
  split at h
  ·rename_i fd hf
   split at h
   ·rename_i i hi
    split at h
    ·cases h
    ·rename_i hz
     cases h
     simp [Instr.fieldAt,run_underlying hu,hf,Instr.sureAddr,fieldPlace,sizeOf,typeInfo,hi,hz,Addr.add_eq]
   ·cases h
  ·cases h
 ·cases h
def ZO7 (Pg:Program) (t:TypeId) (i:Int):Option Nat:=
 match Pg.underlying t with
 | some (.array n el)=>match Pg.info? el with
   | some inf=>if 0<=i/\i<n then some (i.toNat*inf.size) else none
   | none=>none
 | _=>none
theorem ZLh {t off b o:Nat} {k:IntKind} {i:Int} (h:ZO7 Pg t i=some off):(Instr.indexAt t (.pointer (some ⟨b,o,none⟩)) (.int k i)).run Pg w= .ok (.pointer (some ⟨b,o+off,none⟩)) w:=by
 unfold ZO7 at h
 split at h
 ·rename_i n el hu
  split at h
  ·rename_i inf hi
   split at h
   ·rename_i hc
    cases h
    simp [Instr.indexAt,asIntOf,run_underlying hu,Instr.sureAddr,sizeOf,typeInfo,hi,hc,Addr.add_eq]
   ·cases h
  ·cases h
 ·cases h
def ZjE (Pg:Program) (off:Nat) (o:Oper) (s:SOp) (nt:Nat):Bool:=
 Zie o s nt && match o.op with
 | .fieldAddr t x f=>ok1 x s && Zo2 Pg t f==some off
 | .indexAddr t x (.const (.int _ i))=>ok1 x s && ZO7 Pg t i==some off
 | _=>false
theorem Zpb (h:St g e a w) {o:Oper} {s:SOp} {off:Nat} (hk:s.kind= .fieldAddr off) (ho:ZjE Pg off o s g.nt=true) (hd:doOp F s e=some e'):OpOut Pg o a w g e':=by
 unfold ZjE at ho
 rw [Bool.and_eq_true] at ho
 refine Zer h ho.1 hd fun d hx=>?_
 have ho2:=ho.2
 rw [hk] at hx
 split at ho2
 ·rename_i t x f hop
  rw [Bool.and_eq_true,beq_iff_eq] at ho2
  obtain ⟨d',h1,h2⟩:=Zhy h ho2.1
  rw [h1] at hx
  simp only [ZaI] at hx
  unfold Zgl at hx
  split at hx
  ·rename_i heq
   simp only [List.cons.injEq,and_true] at heq
   subst heq
   simp only [Zx5,and_true] at hx
   subst hx
   have hv:=ZmC (h2 0)
   exact ⟨_,by simp only [execOp,hop,hv,R.val];rw [Zaw,ZmJ ho2.2,Result.andThen_ok],fun k=>rfl⟩
  ·rename_i heq
   simp only [List.cons.injEq,and_true] at heq
   subst heq
   simp only [Zx5,and_true] at hx
   subst hx
   obtain ⟨b,o',hv,hr,hl⟩:=h2 0
   exact ⟨_,by simp only [execOp,hop,hv];rw [Zaw,ZmJ ho2.2,Result.andThen_ok],fun k=>⟨b,o',by rw [Nat.add_assoc],hr,hl⟩⟩
  ·cases hx
 ·rename_i t x kk i hop
  rw [Bool.and_eq_true,beq_iff_eq] at ho2
  obtain ⟨d',h1,h2⟩:=Zhy h ho2.1
  rw [h1] at hx
  simp only [ZaI] at hx
  unfold Zgl at hx
  split at hx
  ·rename_i heq
   simp only [List.cons.injEq,and_true] at heq
   subst heq
   simp only [Zx5,and_true] at hx
   subst hx
   have hv:=ZmC (h2 0)
   have hc:a.eval (.const (.int kk i))= .int kk i:=rfl
   exact ⟨_,by simp only [execOp,hop,hv,R.val,hc];rw [Zaw,ZLh ho2.2,Result.andThen_ok],fun k=>rfl⟩
  ·rename_i heq
   simp only [List.cons.injEq,and_true] at heq
   subst heq
   simp only [Zx5,and_true] at hx
   subst hx
   obtain ⟨b,o',hv,hr,hl⟩:=h2 0
   have hc:a.eval (.const (.int kk i))= .int kk i:=rfl
   exact ⟨_,by simp only [execOp,hop,hv,hc];rw [Zaw,ZLh ho2.2,Result.andThen_ok],fun k=>⟨b,o',by rw [Nat.add_assoc],hr,hl⟩⟩
  ·cases hx
 ·cases ho2
end each
end Go.Am
end
section
namespace Go.Am
variable [WI]
variable {Pg:Program}
theorem Zmh {α β:Type} (xs:List α) (Q:Nat->α->β->Prop) (h: ∀(j:Nat) x,xs[j]? =some x-> ∃v,Q j x v):
   ∃vs:List β,vs.length=xs.length/\ ∀(j:Nat) x v,xs[j]? =some x->vs[j]? =some v->Q j x v:=by
 induction xs generalizing Q with
 | nil=>exact ⟨[],rfl,fun j x v hx=>by simp at hx⟩
 | cons y ys ih=>
   obtain ⟨v,hv⟩:=h 0 y rfl
   obtain ⟨vs,hl,hq⟩:=ih (fun j=>Q (j+1)) (fun j x hx=>h (j+1) x (by simpa using hx))
   refine ⟨v::vs,by simp [hl],fun j x u hx hu=>?_⟩
   cases j with
   | zero=>simp at hx hu;subst hx;subst hu;exact hv
   | succ j=>exact hq j x u (by simpa using hx) (by simpa using hu)
theorem ZsD {α:Type} {l xs:List α} {off n:Nat} (h:cut l off n=some xs):off+n<=l.length/\xs.length=n/\ ∀(j:Nat),j<n->xs[j]? =l[off+j]? :=by
 unfold cut at h
 split at h
 ·rename_i hle
  cases h
  refine ⟨hle,by simp;omega,fun j hj=>?_⟩
  simp [List.getElem?_take,hj]
 ·cases h
def valA (n:Option Nat) (vs:List Value):Value:=
 match n with
 | none=>vs.headD undef
 | some _=> .agg vs.toArray
theorem RepCells.wrap {g:G} {w:World} {k c:Nat} {vs:List Value} {cs:List C} (h:RepCells g w k c vs cs) {n:Option Nat} {x:A} (hx:ZsS n cs=some x):RepA g w k c (valA n vs) x:=by
 unfold ZsS at hx
 split at hx
 ·cases hx
  rename_i y
  match vs,h with
  | [v],h=>exact h.2 0 v y rfl rfl
 ·cases hx
 ·cases hx
  exact ⟨vs.toArray,rfl,by simpa using h⟩
def ZgT (Pg:Program) (t:TypeId) (n:Option Nat):Bool:=
 match Pg.underlying t,Pg.info? t with
 | some (.struct _),some i=>n==some i.size
 | some (.array _ _),some i=>n==some i.size
 | some _,some _=>n==none
 | _,_=>false
theorem Zex {t:TypeId} {n:Option Nat} (h:ZgT Pg t n=true) {w:World} {b o:Nat} {vs:List Value} (hl:vs.length=Zfl n)
   (hc: ∀(j:Nat) v,vs[j]? =some v->w.cell? ⟨b,o+j,none⟩=some v):(loadVar t ⟨b,o,none⟩).run Pg w= .ok (valA n vs) w:=by
 have hcs:=run_loadCells_list (P:=Pg) w ⟨b,o,none⟩ vs (fun j v hv=>by rw [Addr.add_eq];exact hc j v hv)
 unfold ZgT at h
 split at h
 · rename_i hu hi
   simp at h;subst h
   simp [loadVar,isAgg,run_underlying hu,sizeOf,typeInfo,hi,valA]
   simp [Zfl] at hl
   rw [<-hl,hcs];simp
 · rename_i hu hi
   simp at h;subst h
   simp [loadVar,isAgg,run_underlying hu,sizeOf,typeInfo,hi,valA]
   simp [Zfl] at hl
   rw [<-hl,hcs];simp
 · rename_i d i hn1 hn2 hu hi
   simp at h;subst h
   match vs,hl with
   | [v],_=>
     have:=hc 0 v rfl
     simp at this
     have hna:(isAgg t).run Pg w= .ok false w:=by
       cases d<;>first|(exact (hn1 _ rfl).elim)|(exact (hn2 _ _ rfl).elim)|simp [isAgg,run_underlying hu]
     simp [loadVar,hna,this,valA]
 · cases h
theorem Zqo {g:G} {w:World} {b o off:Nat} {row xs:List P} {n:Nat} (h:RepRow g.pr w b o row) (hc:cut row off n=some xs) (k c:Nat):
  ∃vs:List Value,vs.length=n/\(∀(j:Nat) v,vs[j]? =some v->w.cell? ⟨b,o+off+j,none⟩=some v)/\RepCells g w k c vs (xs.map .p):=by
 obtain ⟨h1,h2,h3⟩:=ZsD hc
 obtain ⟨vs,hl,hq⟩:=Zmh xs (fun j x v=>w.cell? ⟨b,o+off+j,none⟩=some v/\RepP g.pr w v x) (fun j x hx=>by
  have hj:j<n:=by have:=Zaq hx;omega
  obtain ⟨v,hv,hr⟩:=h (off+j) x (by rw [<-h3 j hj];exact hx)
  exact ⟨v,by rw [Nat.add_assoc];exact hv,hr⟩)
 refine ⟨vs,by omega,fun j v hv=>?_,by simp [hl],fun j u y hu hy=>?_⟩
 ·have hj:j<xs.length:=by have:=Zaq hv;omega
  exact (hq j xs[j] v (List.getElem?_eq_getElem hj) hv).1
 ·rw [List.getElem?_map] at hy
  cases hx:xs[j]? with
  | none=>rw [hx] at hy;cases hy
  | some x=>rw [hx] at hy;cases hy;exact (hq j x u hx hu).2
theorem RepCells.part {g:G} {w:World} {k c:Nat} {vs:List Value} {cs:List C} (h:RepCells g w k c vs cs) {off n:Nat} (hle:off+n<=cs.length):
  ((vs.drop off).take n).length=n/\ ∀(i:Nat) u x,((vs.drop off).take n)[i]? =some u->((cs.drop off).take n)[i]? =some x->RepC g w (k,c,off+i) u x:=by
 refine ⟨by have:=h.1;simp;omega,fun i u x hu hx=>?_⟩
 have hi:i<n:=by have:=Zaq hu;simp at this;omega
 simp [List.getElem?_take,hi] at hu hx
 exact h.2 (off+i) u x hu hx
theorem ZG6 {w:World} {b j:Nat} {cs:Array Value} {t:TypeId} {fr:Nat×Nat} (h:w.heap[b]? =some (.cells cs t fr)):w.cell? ⟨b,j,none⟩=cs[j]? :=cell_of_row w b j cs t fr h
theorem Zc1 (c:C):c.plain.held=false:=by
 cases c<;>rfl
theorem RepC.any {g:G} {w:World} {ℓ ℓ':Loc} {v:Value} {c:C} (h:RepC g w ℓ v c) (hc:c.held=false):RepC g w ℓ' v c:=by
 cases c<;>first|exact h|cases hc
theorem plain_plain (c:C):c.plain.plain=c.plain:=by cases c<;>rfl
theorem A.plain_eq_agg {x:D} {cs:List C} (h:x.plain= .a (.agg cs)): ∃cs₀,x= .a (.agg cs₀)/\cs=cs₀.map C.plain:=by
 cases x with
 | a x=>cases x<;>simp [D.plain,A.plain] at h;exact ⟨_,rfl,h.symm⟩
 | _=>simp [D.plain] at h
theorem Znp {α:Type} {l:List α} {m off n:Nat} (h:off+n<=m):((l.take m).drop off).take n=(l.drop off).take n:=by
 rw [List.drop_take,List.take_take,Nat.min_eq_left Zo]
theorem ZgH {g:G} {w:World} {b k c:Nat} {cs₀:List C} (h:Box g w b k c cs₀) {off:Nat} {n:Option Nat} {x:A} (hx:ZbK n cs₀ off=some x):
   ∃vs:List Value,vs.length=Zfl n/\(∀(j:Nat) v,vs[j]? =some v->w.cell? ⟨b,off+j,none⟩=some v)/\
     (∀(i:Nat) u y,vs[i]? =some u->((cs₀.drop off).take (Zfl n))[i]? =some y->RepC g w (k,c,off+i) u y)/\off+Zfl n<=cs₀.length/\ZsS n ((cs₀.drop off).take (Zfl n))=some x:=by
 obtain ⟨hmm,hx⟩:=ZIK hx
 obtain ⟨vs,t,hb,⟨hsz,hr⟩,_⟩:=h.cells hmm
 cases hc:cut cs₀ off (Zfl n) with
 | none=>rw [hc] at hx;cases hx
 | some xs=>
   rw [hc] at hx
   have hxs:xs=(cs₀.drop off).take (Zfl n):=by
     unfold cut at hc;split at hc
     · cases hc;rfl
     · cases hc
   obtain ⟨h1,h2,_⟩:=ZsD hc
   obtain ⟨p1,p2⟩:=hr.part h1
   rw [Znp h1] at p1 p2
   refine ⟨(vs.toList.drop off).take (Zfl n),p1,fun j v hv=>?_,p2,h1,hxs ▸ hx⟩
   have hj:j<Zfl n:=by have:=Zaq hv;simp at this;omega
   simp [List.getElem?_take,hj] at hv
   rw [ZG6 hb];exact hv
section each
variable {F:ZaQ} {g:G} {e e':Env} {a:Act} {w:World}
def Zw1 (Pg:Program) (n:Option Nat) (o:Oper) (s:SOp) (nt:Nat):Bool:=
 Zie o s nt && match o.op with
 | .load t x=>ok1 x s && ZgT Pg t n
 | _=>false
theorem Zyq (h:St g e a w) {o:Oper} {s:SOp} {n:Option Nat} (hk:s.kind= .load n) (ho:Zw1 Pg n o s g.nt=true) (hd:doOp F s e=some e'):OpOut Pg o a w g e':=by
 unfold Zw1 at ho
 rw [Bool.and_eq_true] at ho
 refine Zer h ho.1 hd fun d hx=>?_
 have ho2:=ho.2
 rw [hk] at hx
 split at ho2
 · rename_i t x hop
   rw [Bool.and_eq_true] at ho2
   obtain ⟨d',h1,h2⟩:=Zhy h ho2.1
   rw [h1] at hx
   simp only [ZaI] at hx
   unfold Zof at hx
   split at hx
   · rename_i row off heq
     simp only [List.cons.injEq,and_true] at heq
     subst heq
     split at hx
     · rename_i xs hxs
       split at hx
       · rename_i y hy
         simp only [Zx5,and_true] at hx
         subst hx
         obtain ⟨b,o',hv,hr,hl⟩:=h2 0
         obtain ⟨vs,v1,v2,_⟩:=Zqo hr hxs 0 0
         refine ⟨valA n vs,by simp only [execOp,hop,hv,Instr.loadAt,Instr.sureAddr];rw [Zaw,Sem.run_bind,Sem.run_pure,Result.andThen_ok,Zex ho2.2 v1 v2,Result.andThen_ok],fun k=>?_⟩
         obtain ⟨vs',v1',v2',v3'⟩:=Zqo hr hxs k 0
         have:vs'=vs:=by
           apply List.ext_getElem?
           intro j
           cases hj:vs[j]? with
           | none=>exact List.getElem?_eq_none (by rw [List.getElem?_eq_none_iff] at hj;omega)
           | some u=>
             have hlt:=Zaq hj
             have hj':vs'[j]? =some vs'[j]:=List.getElem?_eq_getElem Zo
             rw [hj',<-v2' j _ hj',v2 j u hj]
         subst this
         exact v3'.wrap hy
       · cases hx
     · cases hx
   · cases hx
 · cases ho2
def Zte (Pg:Program) (κ:Nat) (n:Option Nat) (o:Oper) (s:SOp) (nt:Nat):Bool:=
 Zie o s nt && match o.op,s.ins with
 | .load t x,[y,.k κ']=>Zcl x y && κ'==κ && Nat.ble BOX κ && ZgT Pg t n
 | _,_=>false
theorem ZvZ (h:St g e a w) {o:Oper} {s:SOp} {κ:Nat} {n:Option Nat} (hk:s.kind= .loadB κ n) (ho:Zte Pg κ n o s g.nt=true) (hd:doOp F s e=some e'):OpOut Pg o a w g e':=by
 unfold Zte at ho
 rw [Bool.and_eq_true] at ho
 refine Zer h ho.1 hd fun d hx=>?_
 have ho2:=ho.2
 rw [hk] at hx
 split at ho2
 ·rename_i t x y κ' hop hins
  simp only [Bool.and_eq_true,beq_iff_eq,Nat.ble_eq] at ho2
  obtain ⟨⟨⟨o1,rfl⟩,o2⟩,o3⟩:=ho2
  rw [hins] at hx
  simp only [List.map_cons,List.map_nil,ZaI] at hx
  unfold ZkR at hx
  split at hx
  ·rename_i κ₀ off cs heq
   simp only [List.cons.injEq,and_true] at heq
   obtain ⟨q1,q2⟩:=heq
   split at hx
   ·rename_i hκ
    simp at hκ;subst hκ
    split at hx
    ·rename_i z hz
     simp only [Zx5,and_true] at hx
     subst hx
     have hv:=ZbL h o1 0
     rw [q1] at hv
     have hv':=ZmC hv
     have q2':(e.get κ₀).plain= .a (.agg cs):=by simpa [Zbl] using q2
     obtain ⟨cs₀,c1,c2⟩:=A.plain_eq_agg q2'
     have hbox:=(h.key κ₀).bx o2 cs₀ c1
     have hbox':Box g w (g.β κ₀) κ₀ 0 cs:=by
      obtain ⟨_,_,_,hn⟩:=hbox.bk
      refine hbox.lift rfl rfl hn (fun _ _ _ _ h=>h) (fun _=>Nat.le_refl _) (fun x e hx=>by rw [c2,e];cases x<;>first|rfl|(cases hx)) ?_
      rintro ⟨vs,t',b1,b2,b3⟩
      exact ⟨vs,t',b1,by rw [c2];exact ⟨by rw [List.length_map];exact b2.1,by rw [List.length_map];exact b2.2.plain⟩,b3⟩
     obtain ⟨vs,v1,v2,v3,v4,v5⟩:=ZgH hbox' hz
     refine ⟨valA n vs,by simp only [execOp,hop,hv',R.val,if_true,Instr.loadAt,Instr.sureAddr];rw [Zaw,Sem.run_bind,Sem.run_pure,Result.andThen_ok,Zex o3 v1 v2,Result.andThen_ok],fun k=>?_⟩
     have hcells:RepCells g w k 0 vs ((cs.drop off).take (Zfl n)):=by
      refine ⟨by simp;omega,fun i u x hu hx=>(v3 i u x hu hx).any ?_⟩
      have hm:x∈cs:=List.mem_of_mem_drop (List.mem_of_mem_take (List.mem_of_getElem? hx))
      rw [c2] at hm
      obtain ⟨c,_,hc⟩:=List.mem_map.1 hm
      rw [<-hc];exact Zc1 c
     exact (hcells.wrap v5).plain
    ·cases hx
   ·cases hx
  ·cases hx
 ·cases ho2
def ZtC (Pg:Program) (n:Option Nat) (o:Oper) (s:SOp) (nt:Nat):Bool:=
 Zie o s nt && match o.op,s.ins with
 | .load t x,[y,.k κ']=>Zcl x y && κ'==OBJS && ZgT Pg t n
 | _,_=>false
theorem Zw5 (h:St g e a w) {o:Oper} {s:SOp} {n:Option Nat} (hk:s.kind= .loadO n) (ho:ZtC Pg n o s g.nt=true) (hd:doOp F s e=some e'):OpOut Pg o a w g e':=by
 unfold ZtC at ho
 rw [Bool.and_eq_true] at ho
 refine Zer h ho.1 hd fun d hx=>?_
 have ho2:=ho.2
 rw [hk] at hx
 split at ho2
 · rename_i t x y κ' hop hins
   simp only [Bool.and_eq_true,beq_iff_eq] at ho2
   obtain ⟨⟨o1,rfl⟩,o3⟩:=ho2
   rw [hins] at hx
   simp only [List.map_cons,List.map_nil,ZaI] at hx
   unfold Zk6 at hx
   split at hx
   · rename_i k₀ off os heq
     simp only [List.cons.injEq,and_true] at heq
     obtain ⟨q1,q2⟩:=heq
     split at hx
     · rename_i cs hcs
       split at hx
       · rename_i z hz
         simp only [Zx5,and_true] at hx
         subst hx
         have hv:=ZbL h o1 0
         rw [q1] at hv
         have hv':=ZmC hv
         have q2':e.get OBJS= .objs os:=by
           have q3:(e.get OBJS).plain= .objs os:=by simpa [Zbl] using q2
           cases he:e.get OBJS with
           | objs os'=>rw [he] at q3;simpa [D.plain] using q3
           | a x=>rw [he] at q3;simp [D.plain] at q3
           | tup xs=>rw [he] at q3;simp [D.plain] at q3
           | undef=>rw [he] at q3;simp [D.plain] at q3
         have hbox:=(h.key OBJS).ob rfl os q2' k₀ cs hcs
         obtain ⟨vs,v1,v2,v3,v4,v5⟩:=ZgH hbox hz
         refine ⟨valA n vs,by simp only [execOp,hop,hv',R.val,Instr.loadAt,Instr.sureAddr];rw [Zaw,Sem.run_bind,Sem.run_pure,Result.andThen_ok];simp only [Bool.false_eq_true,if_false];rw [Zex o3 v1 v2,Result.andThen_ok],fun k=>?_⟩
         have hA: ∃ℓ,RepA g w ℓ 0 (valA n vs) z.plain:=by
           have hpl:RepCells g w 0 0 vs (((cs.drop off).take (Zfl n)).map C.plain):=by
             refine ⟨by simp;omega,fun i u x hu hx=>?_⟩
             rw [List.getElem?_map] at hx
             cases hy:((cs.drop off).take (Zfl n))[i]? with
             | none=>rw [hy] at hx;cases hx
             | some y=>rw [hy] at hx;cases hx;exact (v3 i u y hu hy).plain
           refine ⟨0,?_⟩
           have:ZsS n (((cs.drop off).take (Zfl n)).map C.plain)=some z.plain:=by
             revert v5
             generalize (cs.drop off).take (Zfl n)=l
             intro v5
             unfold ZsS at v5⊢
             cases n with
             | none=>match l,v5 with
               | [c],v5=>cases v5;rfl
             | some m=>cases v5;rfl
           exact hpl.wrap this
         obtain ⟨ℓ,hA⟩:=hA
         have:=hA.plain (k':=k) (c':=0)
         have e2:z.plain.plain=z.plain:=by
           cases z with
           | one c=>simp [A.plain,plain_plain]
           | agg cs=>simp [A.plain,plain_plain]
         rw [e2] at this
         exact this
       · cases hx
     · cases hx
   · cases hx
 · cases ho2
end each
end Go.Am
end
section
namespace Go.Am
variable [WI]
variable {Pg:Program}
section each
variable {F:ZaQ} {g:G} {e e':Env} {a:Act} {w:World}
def ZpD (Pg:Program) (t:TypeId) (s:Nat):Bool:=
 match Pg.underlying t with
 | some (.slice el)=>match Pg.info? el with
   | some i=>i.size==s && Nat.blt 0 s
   | none=>false
 | _=>false
theorem ZfK {t s:Nat} (h:ZpD Pg t s=true): ∃el i,Pg.underlying t=some (.slice el)/\Pg.info? el=some i/\i.size=s/\0<s:=by
 unfold ZpD at h
 split at h
 ·rename_i el hu
  split at h
  ·rename_i i hi
   simp at h
   exact ⟨el,i,hu,hi,h.1,h.2⟩
  ·cases h
 ·cases h
def Zjq (Pg:Program) (z:Nat) (o:Oper) (s:SOp) (nt:Nat):Bool:=
 Zie o s nt && match o.op with
 | .indexAddr t x i=>ok2 x i s && ZpD Pg t z
 | _=>false
theorem Zo6 (h:St g e a w) {o:Oper} {s:SOp} {z:Nat} (hk:s.kind= .indexAddr z) (ho:Zjq Pg z o s g.nt=true) (hd:doOp F s e=some e'):OpOut Pg o a w g e':=by
 unfold Zjq at ho
 rw [Bool.and_eq_true] at ho
 refine Zer h ho.1 hd fun d hx=>?_
 have ho2:=ho.2
 rw [hk] at hx
 split at ho2
 ·rename_i t x i hop
  rw [Bool.and_eq_true] at ho2
  obtain ⟨d1,d2,h1,h2,h3⟩:=Zj2 h ho2.1
  obtain ⟨el,inf,u1,u2,u3,u4⟩:=ZfK ho2.2
  rw [h1] at hx
  simp only [ZaI] at hx
  unfold ZeU at hx
  split at hx
  ·rename_i r s' m n heq
   simp only [List.cons.injEq,and_true] at heq
   obtain ⟨rfl,rfl⟩:=heq
   split at hx
   ·rename_i hc
    obtain ⟨rfl,hn,hm⟩:=hc
    simp only [Zx5,and_true] at hx
    subst hx
    obtain ⟨cap,hv',_⟩:=h2 0
    have hi:=Zei (h3 0)
    refine ⟨.pointer (some ⟨if r.own then g.β r.k else g.ω r.k,r.off+n.toNat*s',none⟩),?_,fun k=>rfl⟩
    simp only [execOp,hop,hv',hi]
    rw [Zaw]
    simp [Instr.indexAt,asIntOf,run_underlying u1,hn,hm,sizeOf,typeInfo,u2,u3,Addr.add_eq]
   ·cases hx
  ·rename_i c n _ heq
   simp only [List.cons.injEq,and_true] at heq
   obtain ⟨rfl,rfl⟩:=heq
   split at hx
   ·rename_i s' rows hrows
    split at hx
    ·rename_i hc
     obtain ⟨rfl,hn⟩:=hc
     split at hx
     ·rename_i row hrow
      simp only [Zx5,and_true] at hx
      subst hx
      have hv:=ZhO (h2 0) hrows
      have hi:=Zei (h3 0)
      obtain ⟨ad,cap,hv',_⟩:=hv.slice_inv
      rw [hv'] at hv
      obtain ⟨b,o',rfl,hl,hsz,hr,hpr⟩:=hv.row hrow
      have hlt:=Zaq hrow
      have hn':n<(rows.length:Int):=by omega
      refine ⟨.pointer (some ⟨b,o'+n.toNat*s',none⟩),?_,fun k=>⟨b,o'+n.toNat*s',rfl,hr,?_⟩⟩
      ·simp only [execOp,hop,hv',hi]
       rw [Zaw]
       simp [Instr.indexAt,asIntOf,run_underlying u1,hn,hn',sizeOf,typeInfo,u2,u3,Addr.add_eq]
      ·have:(n.toNat+1)*s'<=rows.length*s':=Nat.mul_le_mul_right _ hlt
       rw [Nat.add_mul] at this
       omega
     ·cases hx
    ·cases hx
   ·cases hx
  ·cases hx
 ·cases ho2
theorem Zsn {bs:ByteArray} {i b:Nat} (h:(ZbJ bs)[i]? =some b): ∃u:UInt8,bs[i]? =some u/\u.toNat=b:=by
 simp only [ZbJ,List.getElem?_map] at h
 cases hu:bs.data.toList[i]? with
 | none=>rw [hu] at h;cases h
 | some u=>
   rw [hu] at h
   cases h
   refine ⟨u,?_,rfl⟩
   have hi:i<bs.size:=by have:=Zaq hu;simpa using this
   rw [getElem?_pos bs i hi]
   congr 1
   have:bs.data.toList[i]? =some bs.data[i]:=by simp
   rw [this] at hu
   cases hu
   rfl
def Zp4 (Pg:Program) (o:Oper) (s:SOp) (nt:Nat):Bool:=
 Zie o s nt && match o.op with
 | .index t x i=>ok2 x i s && (match Pg.underlying t with|some .string=>true|_=>false)
 | _=>false
theorem ZuF (h:St g e a w) {o:Oper} {s:SOp} (hk:s.kind= .indexS) (ho:Zp4 Pg o s g.nt=true) (hd:doOp F s e=some e'):OpOut Pg o a w g e':=by
 unfold Zp4 at ho
 rw [Bool.and_eq_true] at ho
 refine Zer h ho.1 hd fun d hx=>?_
 have ho2:=ho.2
 rw [hk] at hx
 split at ho2
 ·rename_i t x i hop
  rw [Bool.and_eq_true] at ho2
  obtain ⟨d1,d2,h1,h2,h3⟩:=Zj2 h ho2.1
  have hu:Pg.underlying t=some .string:=by
   have:=ho2.2
   split at this
   ·assumption
   ·cases this
  rw [h1] at hx
  simp only [ZaI] at hx
  unfold ZiQ at hx
  split at hx
  ·rename_i tx n heq
   simp only [List.cons.injEq,and_true] at heq
   obtain ⟨rfl,rfl⟩:=heq
   split at hx
   ·rename_i hn
    split at hx
    ·rename_i b hb
     simp only [Zx5,and_true] at hx
     subst hx
     obtain ⟨bs,hv,rfl⟩:=ZoC (h2 0)
     have hi:=Zei (h3 0)
     obtain ⟨u,hu1,rfl⟩:=Zsn hb
     refine ⟨.int .u8 u.toNat,?_,fun k=>RepP.int _ _⟩
     simp only [execOp,hop,hv,hi]
     rw [Zaw]
     simp [Instr.index,asIntOf,run_underlying hu,hn,hu1]
    ·cases hx
   ·cases hx
  ·cases hx
 ·cases ho2
theorem Zs6 {op:BinOp} {k:IntKind} {x y:Int} {z:P} (hz:ZfP op k x y=some z) (t:TypeId) (g:G): ∃v,(binOp op t (.int k x) (.int k y)).run Pg w= .ok v w/\RepP g.pr w v z:=by
 cases op<;>simp only [ZfP] at hz<;>first|cases hz|skip
 case shl=>
  unfold shlP at hz
  split at hz
  ·cases hz
  ·rename_i hy
   cases hz
   exact ⟨_,by simp [binOp,Op.shift,hy],.int _ _⟩
 case quo=>split at hz;cases hz;cases hz;rename_i hy;exact ⟨.int k (k.wrap (x.tdiv y)),by simp [binOp,Op.intDiv,hy],.int _ _⟩
 case rem=>split at hz;cases hz;cases hz;rename_i hy;exact ⟨.int k (x.tmod y),by simp [binOp,Op.intDiv,hy],.int _ _⟩
 all_goals first
    | (refine ⟨_,?_,RepP.int _ _⟩;simp [binOp,Op.intArith,Op.intBits,Op.intCmp];done)
    | (refine ⟨_,?_,RepP.bool _⟩;simp [binOp,Op.intArith,Op.intBits,Op.intCmp];done)
theorem Zs8 {op:BinOp} {x y:ByteArray} {z:P} (hz:Zl4 op (ZbJ x) (ZbJ y)=some z) (t:TypeId) (g:G): ∃v,(binOp op t (.string x) (.string y)).run Pg w= .ok v w/\RepP g.pr w v z:=by
 cases op<;>simp only [Zl4] at hz<;>first|cases hz|skip
 case add=>
  split at hz
  ·rename_i hl
   cases hz
   refine ⟨.string (x++y),?_,.str _ _ (ZoL x y)⟩
   rw [Ze7,Ze7] at hl
   unfold ZeA at hl
   have: ¬(((x.size+y.size:Nat):Int)>IntKind.i64.max):=by
    have:IntKind.i64.max=9223372036854775807:=by decide
    rw [this];omega
   simp only [binOp,Op.stringOp,this,if_false,Sem.run_pure]
  ·cases hz
 all_goals
  refine ⟨_,?_,RepP.bool _⟩
  simp [binOp,Op.stringOp,ZoX,ZkD]
def ZAU (op:BinOp) (o:Oper) (s:SOp) (nt:Nat):Bool:=
 Zie o s nt && match o.op with
 | .binOp op' _ x y _=>ok2 x y s && op'==op
 | _=>false
theorem ZAE (h:St g e a w) {o:Oper} {s:SOp} {op:BinOp} (hk:s.kind= .bin op) (ho:ZAU op o s g.nt=true) (hd:doOp F s e=some e'):OpOut Pg o a w g e':=by
 unfold ZAU at ho
 rw [Bool.and_eq_true] at ho
 refine Zer h ho.1 hd fun d hx=>?_
 have ho2:=ho.2
 rw [hk] at hx
 split at ho2
 ·rename_i op' t x y t' hop
  rw [Bool.and_eq_true,beq_iff_eq] at ho2
  obtain ⟨ho3,rfl⟩:=ho2
  obtain ⟨d1,d2,h1,h2,h3⟩:=Zj2 h ho3
  rw [h1] at hx
  simp only [ZaI] at hx
  unfold ZrW at hx
  split at hx
  ·rename_i px py heq
   simp only [List.cons.injEq,and_true] at heq
   obtain ⟨rfl,rfl⟩:=heq
   split at hx
   ·rename_i z hz
    simp only [Zx5,and_true] at hx
    subst hx
    unfold pBin at hz
    split at hz
    ·rename_i k n k' n'
     split at hz
     ·rename_i hkk
      subst hkk
      obtain ⟨v,hr,hv⟩:=Zs6 (Pg:=Pg) (w:=w) hz t g
      have e1:=Zei (h2 0)
      have e2:=Zei (h3 0)
      refine ⟨v,?_,fun _=>hv⟩
      simp only [execOp,hop,e1,e2]
      rw [Zaw,Sem.run_bind]
      have:(eqGuard op' t x y (.int k n) (.int k n')).run Pg w= .ok () w:=by
       unfold eqGuard;cases op'<;>rfl
      rw [this,Result.andThen_ok,hr,Result.andThen_ok]
     ·split at hz
      ·rename_i hop'
       obtain rfl:op'= .shl:=by simpa using hop'
       unfold shlP at hz
       split at hz
       ·cases hz
       ·rename_i hy
        cases hz
        have e1:=Zei (h2 0)
        have e2:=Zei (h3 0)
        refine ⟨_,?_,fun _=>RepP.int k (k.wrap (n*2 ^ (min n'.toNat k.bits)))⟩
        simp only [execOp,hop,e1,e2]
        rw [Zaw,Sem.run_bind]
        have:(eqGuard .shl t x y (.int k n) (.int k' n')).run Pg w= .ok () w:=rfl
        rw [this,Result.andThen_ok]
        simp [binOp,Op.shift,hy]
      ·cases hz
    ·rename_i s1 s2
     obtain ⟨b1,e1,rfl⟩:=ZoC (h2 0)
     obtain ⟨b2,e2,rfl⟩:=ZoC (h3 0)
     obtain ⟨v,hr,hv⟩:=Zs8 (Pg:=Pg) (w:=w) hz t g
     refine ⟨v,?_,fun _=>hv⟩
     simp only [execOp,hop,e1,e2]
     rw [Zaw,Sem.run_bind]
     have:(eqGuard op' t x y (.string b1) (.string b2)).run Pg w= .ok () w:=by
      unfold eqGuard;cases op'<;>rfl
     rw [this,Result.andThen_ok,hr,Result.andThen_ok]
    ·cases hz
   ·cases hx
  ·cases hx
 ·cases ho2
def Zxd (Pg:Program) (op:BinOp) (o:Oper) (s:SOp) (nt:Nat):Bool:=
 Zie o s nt && match o.op with
 | .binOp op' t x y _=>ok2 x y s && op'==op && (match Pg.underlying t with|some .bool=>true|_=>false)
 | _=>false
theorem ZyJ (h:St g e a w) {o:Oper} {s:SOp} {op:BinOp} (hk:s.kind= .binB op) (ho:Zxd Pg op o s g.nt=true) (hd:doOp F s e=some e'):OpOut Pg o a w g e':=by
 unfold Zxd at ho
 rw [Bool.and_eq_true] at ho
 refine Zer h ho.1 hd fun d hx=>?_
 have ho2:=ho.2
 rw [hk] at hx
 split at ho2
 ·rename_i op' t x y t' hop
  rw [Bool.and_eq_true,Bool.and_eq_true,beq_iff_eq] at ho2
  obtain ⟨⟨ho3,rfl⟩,ho4⟩:=ho2
  have hu:Pg.underlying t=some .bool:=by
   split at ho4
   ·assumption
   ·cases ho4
  obtain ⟨d1,d2,h1,h2,h3⟩:=Zj2 h ho3
  rw [h1] at hx
  simp only [ZaI] at hx
  unfold Zqu at hx
  split at hx
  ·rename_i p q heq
   simp only [List.cons.injEq,and_true] at heq
   obtain ⟨rfl,rfl⟩:=heq
   have e1:=Zjm (h2 0)
   have e2:=Zjm (h3 0)
   have heqb:(Op.equal t (.bool p) (.bool q)).run Pg w= .ok (p==q) w:=run_equalIn_bool' w 9999 t p q hu
   split at hx
   ·simp only [Zx5,and_true] at hx
    subst hx
    refine ⟨.bool (p==q),?_,fun _=>RepP.bool _⟩
    simp only [execOp,hop,e1,e2]
    rw [Zaw,Sem.run_bind]
    have:(eqGuard .eql t x y (.bool p) (.bool q)).run Pg w= .ok () w:=rfl
    rw [this,Result.andThen_ok]
    simp [binOp,heqb]
   ·simp only [Zx5,and_true] at hx
    subst hx
    refine ⟨.bool (p !=q),?_,fun _=>RepP.bool _⟩
    simp only [execOp,hop,e1,e2]
    rw [Zaw,Sem.run_bind]
    have:(eqGuard .neq t x y (.bool p) (.bool q)).run Pg w= .ok () w:=rfl
    rw [this,Result.andThen_ok]
    simp [binOp,heqb,bne]
   ·cases hx
  ·cases hx
 ·cases ho2
def ZBR (o:Oper) (s:SOp) (nt:Nat):Bool:=
 Zie o s nt && match o.op with
 | .unOp .not _ x=>ok1 x s
 | _=>false
theorem ZAO (h:St g e a w) {o:Oper} {s:SOp} (hk:s.kind= .not) (ho:ZBR o s g.nt=true) (hd:doOp F s e=some e'):OpOut Pg o a w g e':=by
 unfold ZBR at ho
 rw [Bool.and_eq_true] at ho
 refine Zer h ho.1 hd fun d hx=>?_
 have ho2:=ho.2
 rw [hk] at hx
 split at ho2
 ·rename_i t x hop
  obtain ⟨d',h1,h2⟩:=Zhy h ho2
  rw [h1] at hx
  simp only [ZaI] at hx
  unfold Zuy at hx
  split at hx
  ·rename_i b heq
   simp only [List.cons.injEq,and_true] at heq
   subst heq
   simp only [Zx5,and_true] at hx
   subst hx
   have e1:=Zjm (h2 0)
   exact ⟨.bool (!b),by simp [execOp,hop,e1,Op.unary],fun _=>RepP.bool _⟩
  ·cases hx
 ·cases ho2
def ZBm (o:Oper) (s:SOp) (nt:Nat):Bool:=
 Zie o s nt && match o.op with
 | .unOp .neg _ x=>ok1 x s
 | _=>false
theorem ZAJ (h:St g e a w) {o:Oper} {s:SOp} (hk:s.kind= .neg) (ho:ZBm o s g.nt=true) (hd:doOp F s e=some e'):OpOut Pg o a w g e':=by
 unfold ZBm at ho
 rw [Bool.and_eq_true] at ho
 refine Zer h ho.1 hd fun d hx=>?_
 have ho2:=ho.2
 rw [hk] at hx
 split at ho2
 ·rename_i t x hop
  obtain ⟨d',h1,h2⟩:=Zhy h ho2
  rw [h1] at hx
  simp only [ZaI] at hx
  unfold ZuC at hx
  split at hx
  ·rename_i k n heq
   simp only [List.cons.injEq,and_true] at heq
   subst heq
   simp only [Zx5,and_true] at hx
   subst hx
   have e1:=Zei (h2 0)
   exact ⟨.int k (k.wrap (0-n)),by simp [execOp,hop,e1,Op.unary,Op.intArith],fun _=>RepP.int _ _⟩
  ·cases hx
 ·cases ho2
def Zw9 (Pg:Program) (k:IntKind) (o:Oper) (s:SOp) (nt:Nat):Bool:=
 Zie o s nt && match o.op with
 | .convert t t' x=>ok1 x s && (match Pg.underlying t,Pg.underlying t' with|some _,some (.int k')=>k'==k|_,_=>false)
 | _=>false
theorem ZyH (h:St g e a w) {o:Oper} {s:SOp} {k:IntKind} (hk:s.kind= .conv k) (ho:Zw9 Pg k o s g.nt=true) (hd:doOp F s e=some e'):OpOut Pg o a w g e':=by
 unfold Zw9 at ho
 rw [Bool.and_eq_true] at ho
 refine Zer h ho.1 hd fun d hx=>?_
 have ho2:=ho.2
 rw [hk] at hx
 split at ho2
 ·rename_i t t' x hop
  rw [Bool.and_eq_true] at ho2
  obtain ⟨o1,o2⟩:=ho2
  split at o2
  ·rename_i ds k' u1 u2
   simp at o2;subst o2
   obtain ⟨d',h1,h2⟩:=Zhy h o1
   rw [h1] at hx
   simp only [ZaI] at hx
   unfold ZqP at hx
   split at hx
   ·rename_i k n heq
    simp only [List.cons.injEq,and_true] at heq
    subst heq
    simp only [Zx5,and_true] at hx
    subst hx
    have e1:=Zei (h2 0)
    refine ⟨.int k' (k'.wrap n),?_,fun _=>RepP.int _ _⟩
    simp only [execOp,hop,e1]
    rw [Zaw]
    cases ds<;>simp [convert,run_underlying u1,run_underlying u2,Conv.intToInt]
   ·cases hx
  ·cases o2
 ·cases ho2
end each
theorem ZOf: ∀(x y:List Nat),eqS x y=(x==y)
 | [],[]=>rfl
 | [],_::_=>rfl
 | _::_,[]=>rfl
 | a::x,b::y=>by
   rw [eqS,ZOf x y,List.cons_beq_cons,show Nat.beq a b=(a==b) from by rw [Bool.eq_iff_iff,Nat.beq_eq,beq_iff_eq]]
def ZND (Pg:Program) (t:TypeId):Bool:=
  (match Pg.underlying t with
    | some (.struct fs)=>(match fs.toList with
      | [f, g] => f.name != "_" && g.name != "_" && f.offset == 0 && g.offset == 1 && (match Pg.underlying f.type with | some (.int _) => true | _ => false) && (match Pg.underlying g.type with | some .string => true | _ => false)
      | _=>false)
    | _=>false) && !Pg.stoodInHeld t && !Pg.eqGuardType Pg.depth t
theorem ZJw {t : TypeId} (h : ZND Pg t = true) : ∃ f g k, Pg.underlying t = some (.struct (Pg.fieldsOf t)) ∧ (Pg.fieldsOf t).toList = [f, g] ∧ f.name ≠ "_" ∧ g.name ≠ "_" ∧ f.offset = 0 ∧ g.offset = 1 ∧
    Pg.underlying f.type=some (.int k)∧Pg.underlying g.type=some .string∧Pg.stoodInHeld t=false∧Pg.eqGuardType Pg.depth t=false:=by
  unfold ZND at h
  rw [Bool.and_eq_true,Bool.and_eq_true] at h
  obtain ⟨⟨h,h2⟩,h3⟩:=h
  split at h
  · rename_i fs hu
    split at h
    · rename_i f g hl
      simp only [Bool.and_eq_true,bne_iff_ne,beq_iff_eq] at h
      obtain ⟨⟨⟨⟨⟨a1,a2⟩,a3⟩,a4⟩,a5⟩,a6⟩:=h
      have e:Pg.fieldsOf t=fs:=by unfold Program.fieldsOf;rw [hu]
      split at a5
      · rename_i k hk
        split at a6
        · rename_i hs
          exact ⟨f,g,k,by rw [e];exact hu,by rw [e];exact hl,a1,a2,a3,a4,hk,hs,by simpa using h2,by simpa using h3⟩
        · cases a6
      · cases a5
    · cases h
  · cases h
theorem ZMH {w:World} {t:TypeId} (h:ZND Pg t=true) (k:IntKind) (a b:Int) (s s':ByteArray):
  (Op.equalIn 10000 t (.agg #[.int k a,.string s]) (.agg #[.int k b,.string s'])).run Pg w= .ok (a==b && s.toList==s'.toList) w:=by
 obtain ⟨f,g,k',h1,h2,h3,h4,h5,h6,h7,h8,h9,_⟩:=ZJw h
 rw [run_equalIn_agg w 9999 t _ _ h1 h9,h2]
 have p1: ∀(x:Int) (y:ByteArray),(part f.type #[.int k x,.string y] f.offset).run Pg w= .ok (.int k x) w:=fun x y=>by
  rw [h5];simp [part,isAgg,run_underlying h7]
 have p2: ∀(x:Int) (y:ByteArray),(part g.type #[.int k x,.string y] g.offset).run Pg w= .ok (.string y) w:=fun x y=>by
  rw [h6];simp [part,isAgg,run_underlying h8]
 have q1:(Op.equalIn 9999 f.type (.int k a) (.int k b)).run Pg w= .ok (a==b) w:=run_equalIn_int w 9998 f.type k k' a b h7
 have q2:(Op.equalIn 9999 g.type (.string s) (.string s')).run Pg w= .ok (s.toList==s'.toList) w:=run_equalIn_string w 9998 g.type s s' h8
 simp only [Op.eqFields,h3,h4,ne_eq,not_false_eq_true,if_true,Sem.run_bind,p1,p2,q1,q2,Result.andThen_ok]
 cases hab:a==b
 ·simp
 ·simp only [Bool.not_true,Bool.false_eq_true,if_false,Sem.run_bind,p2,q2,Result.andThen_ok,Bool.true_and]
  cases s.toList==s'.toList<;>simp
def ZOu (Pg:Program) (o:Oper) (s:SOp) (nt:Nat):Bool:=
 Zie o s nt && match o.op with
 | .binOp op' t x y _=>ok2 x y s && op'== .neq && ZND Pg t
 | _=>false
theorem ZMF {g:G} {w:World} {k:Nat} {v:Value} {i:IntKind} {n:Int} {t:List Nat} (h:RepD g w k v (.a (.agg [.p (.int i n),.p (.str t)]))): ∃bs,v= .agg #[.int i n,.string bs]/\ZbJ bs=t:=by
 obtain ⟨vs,rfl,hl,hr⟩:=h
 obtain ⟨l⟩:=vs
 match l,hl,hr with
 | [u,v],_,hr=>
   have h1:RepP g.pr w u (.int i n):=hr 0 u _ rfl rfl
   have h2:RepP g.pr w v (.str t):=hr 1 v _ rfl rfl
   cases h1
   cases h2 with
   | str bs _ h=>exact ⟨bs,rfl,h⟩
theorem ZPp {F:ZaQ} {g:G} {e e':Env} {a:Act} {w:World} (h:St g e a w) {o:Oper} {s:SOp} (hk:s.kind= .neqS) (ho:ZOu Pg o s g.nt=true) (hd:doOp F s e=some e'):OpOut Pg o a w g e':=by
 unfold ZOu at ho
 rw [Bool.and_eq_true] at ho
 refine Zer h ho.1 hd fun d hx=>?_
 have ho2:=ho.2
 rw [hk] at hx
 split at ho2
 ·rename_i op' t x y t' hop
  rw [Bool.and_eq_true,Bool.and_eq_true,beq_iff_eq] at ho2
  obtain ⟨⟨ho3,rfl⟩,ho4⟩:=ho2
  obtain ⟨d1,d2,h1,h2,h3⟩:=Zj2 h ho3
  rw [h1] at hx
  simp only [ZaI] at hx
  unfold ZNd at hx
  split at hx
  ·rename_i k n s1 k' n' s2 heq
   simp only [List.cons.injEq,and_true] at heq
   obtain ⟨rfl,rfl⟩:=heq
   split at hx
   ·rename_i hkk
    subst hkk
    simp only [Zx5,and_true] at hx
    subst hx
    obtain ⟨b1,e1,hb1⟩:=ZMF (h2 0)
    obtain ⟨b2,e2,hb2⟩:=ZMF (h3 0)
    refine ⟨.bool (n !=n'||s1 !=s2),?_,fun _=>RepP.bool _⟩
    simp only [execOp,hop,e1,e2]
    rw [Zaw,Sem.run_bind]
    rw [run_eqGuard_agg w .neq t x y _ _ (ZJw ho4).choose_spec.choose_spec.choose_spec.2.2.2.2.2.2.2.2.2,Result.andThen_ok,run_neq_struct,ZMH ho4,Result.andThen_ok]
    have h4:(ZbJ b1==ZbJ b2)=(b1.toList==b2.toList):=by rw [<-ZoX];exact (ZOf _ _).symm
    show Result.ok (Next.value (.bool !(n==n' && b1.toList==b2.toList))) w=_
    rw [<-hb1,<-hb2,<-h4]
    cases h5:n==n'<;>cases h6:ZbJ b1==ZbJ b2<;>simp [bne,h5,h6]
   ·cases hx
  ·cases hx
 ·cases ho2
end Go.Am
end
section
namespace Go.Am
variable [WI]
variable {Pg:Program}
section each
variable {F:ZaQ} {g:G} {e e':Env} {a:Act} {w:World}
def ZB8 (Pg:Program) (o:Oper) (s:SOp) (nt:Nat):Bool:=
 Zie o s nt && match o.op with
 | .call c=>(match c.callee,c.args.toList,c.argTypes.toList with
   | .builtin .len,[x],t::_=>ok1 x s && (match Pg.underlying t with|some (.slice _)=>true|_=>false)
   | _,_,_=>false)
 | _=>false
def ZwN (Pg:Program) (o:Oper) (s:SOp) (nt:Nat):Bool:=
 Zie o s nt && match o.op with
 | .call c=>(match c.callee,c.args.toList,c.argTypes.toList with
   | .builtin .len,[x],t::_=>ok1 x s && (match Pg.underlying t with|some .string=>true|_=>false)
   | _,_,_=>false)
 | _=>false
theorem ZxW (h:St g e a w) {o:Oper} {s:SOp} (hk:s.kind= .lenS) (ho:ZwN Pg o s g.nt=true) (hd:doOp F s e=some e'):OpOut Pg o a w g e':=by
 unfold ZwN at ho
 rw [Bool.and_eq_true] at ho
 refine Zer h ho.1 hd fun d hx=>?_
 have ho2:=ho.2
 rw [hk] at hx
 split at ho2
 ·rename_i c hop
  split at ho2
  ·rename_i x t ts hc ha ht
   rw [Bool.and_eq_true] at ho2
   have hu:Pg.underlying t=some .string:=by
    have:=ho2.2
    split at this
    ·assumption
    ·cases this
   obtain ⟨d',h1,h2⟩:=Zhy h ho2.1
   rw [h1] at hx
   simp only [ZaI] at hx
   unfold ZqI at hx
   split at hx
   ·rename_i tx heq
    simp only [List.cons.injEq,and_true] at heq
    subst heq
    simp only [Zx5,and_true] at hx
    subst hx
    obtain ⟨bs,hv,rfl⟩:=ZoC (h2 0)
    refine ⟨.int .i64 (ZbJ bs).length,?_,fun k=>RepP.int _ _⟩
    obtain ⟨callee,args,argTypes⟩:=c
    obtain ⟨args⟩:=args
    obtain ⟨argTypes⟩:=argTypes
    simp only at hc ha ht
    subst hc;subst ha;subst ht
    simp [execOp,hop,resolve,invoke,builtin,Builtin.len_,run_underlying hu,hv,goInt,Ze7]
   ·cases hx
  ·cases ho2
 ·cases ho2
theorem ZBG (h:St g e a w) {o:Oper} {s:SOp} (hk:s.kind= .len) (ho:ZB8 Pg o s g.nt=true) (hd:doOp F s e=some e'):OpOut Pg o a w g e':=by
 unfold ZB8 at ho
 rw [Bool.and_eq_true] at ho
 refine Zer h ho.1 hd fun d hx=>?_
 have ho2:=ho.2
 rw [hk] at hx
 split at ho2
 ·rename_i c hop
  split at ho2
  ·rename_i x t ts hc ha ht
   rw [Bool.and_eq_true] at ho2
   obtain ⟨el,hu⟩: ∃el,Pg.underlying t=some (.slice el):=by
    have:=ho2.2
    split at this
    ·exact ⟨_,by assumption⟩
    ·cases this
   obtain ⟨d',h1,h2⟩:=Zhy h ho2.1
   rw [h1] at hx
   simp only [ZaI] at hx
   unfold ZtS at hx
   have key: ∀(n:Nat) (ad:Option Addr) (cap:Nat),a.eval x= .slice ad n cap-> ∃v,(execOp a.eval o).run Pg w= .ok (.value v) w/\ ∀k,RepD g w k v (one (.int .i64 n)):=by
    intro n ad cap hv
    refine ⟨.int .i64 n,?_,fun k=>RepP.int _ _⟩
    obtain ⟨callee,args,argTypes⟩:=c
    obtain ⟨args⟩:=args
    obtain ⟨argTypes⟩:=argTypes
    simp only at hc ha ht
    subst hc;subst ha;subst ht
    simp [execOp,hop,resolve,invoke,builtin,Builtin.len_,run_underlying hu,hv,goInt]
   split at hx
   ·rename_i r s' n heq
    simp only [List.cons.injEq,and_true] at heq
    subst heq
    simp only [Zx5,and_true] at hx
    subst hx
    obtain ⟨cap,hv,_⟩:=h2 0
    exact key n _ cap hv
   ·rename_i n heq
    simp only [List.cons.injEq,and_true] at heq
    subst heq
    simp only [Zx5,and_true] at hx
    subst hx
    obtain ⟨ad,cap,hv⟩:=h2 0
    exact key n _ cap hv
   ·rename_i y _ _ heq
    simp only [List.cons.injEq,and_true] at heq
    subst heq
    split at hx
    ·rename_i s' rows hrows
     simp only [Zx5,and_true] at hx
     subst hx
     obtain ⟨ad,cap,hv,_⟩:=(ZhO (h2 0) hrows).slice_inv
     exact key _ _ _ hv
    ·cases hx
   ·cases hx
  ·cases ho2
 ·cases ho2
def Zxk (b:Builtin) (o:Oper) (s:SOp) (nt:Nat):Bool:=
 Zie o s nt && match o.op with
 | .call c=>(match c.callee,c.args.toList with
   | .builtin b',[x,y]=>ok2 x y s && b'==b
   | _,_=>false)
 | _=>false
theorem ZCd (h:St g e a w) {o:Oper} {s:SOp} (hk:s.kind= .min2) (ho:Zxk .min o s g.nt=true) (hd:doOp F s e=some e'):OpOut Pg o a w g e':=by
 unfold Zxk at ho
 rw [Bool.and_eq_true] at ho
 refine Zer h ho.1 hd fun d hx=>?_
 have ho2:=ho.2
 rw [hk] at hx
 split at ho2
 ·rename_i c hop
  split at ho2
  ·rename_i b' x y hc ha
   rw [Bool.and_eq_true,beq_iff_eq] at ho2
   obtain ⟨o1,rfl⟩:=ho2
   obtain ⟨d1,d2,h1,h2,h3⟩:=Zj2 h o1
   rw [h1] at hx
   simp only [ZaI] at hx
   unfold Zst at hx
   split at hx
   ·rename_i k p k' q heq
    simp only [List.cons.injEq,and_true] at heq
    obtain ⟨rfl,rfl⟩:=heq
    split at hx
    ·rename_i hkk
     subst hkk
     simp only [Zx5,and_true] at hx
     subst hx
     have e1:=Zei (h2 0)
     have e2:=Zei (h3 0)
     refine ⟨.int k (if q<p then q else p),?_,fun k=>RepP.int _ _⟩
     obtain ⟨callee,args,argTypes⟩:=c
     obtain ⟨args⟩:=args
     simp only at hc ha
     subst hc;subst ha
     simp [execOp,hop,resolve,invoke,builtin,Builtin.min_,Builtin.min2,e1,e2]
    ·cases hx
   ·cases hx
  ·cases ho2
 ·cases ho2
theorem ZBC (h:St g e a w) {o:Oper} {s:SOp} (hk:s.kind= .max2) (ho:Zxk .max o s g.nt=true) (hd:doOp F s e=some e'):OpOut Pg o a w g e':=by
 unfold Zxk at ho
 rw [Bool.and_eq_true] at ho
 refine Zer h ho.1 hd fun d hx=>?_
 have ho2:=ho.2
 rw [hk] at hx
 split at ho2
 ·rename_i c hop
  split at ho2
  ·rename_i b' x y hc ha
   rw [Bool.and_eq_true,beq_iff_eq] at ho2
   obtain ⟨o1,rfl⟩:=ho2
   obtain ⟨d1,d2,h1,h2,h3⟩:=Zj2 h o1
   rw [h1] at hx
   simp only [ZaI] at hx
   unfold Zsx at hx
   split at hx
   ·rename_i k p k' q heq
    simp only [List.cons.injEq,and_true] at heq
    obtain ⟨rfl,rfl⟩:=heq
    split at hx
    ·rename_i hkk
     subst hkk
     simp only [Zx5,and_true] at hx
     subst hx
     have e1:=Zei (h2 0)
     have e2:=Zei (h3 0)
     refine ⟨.int k (if q>p then q else p),?_,fun k=>RepP.int _ _⟩
     obtain ⟨callee,args,argTypes⟩:=c
     obtain ⟨args⟩:=args
     simp only at hc ha
     subst hc;subst ha
     simp [execOp,hop,resolve,invoke,builtin,Builtin.max_,Builtin.max2,e1,e2]
    ·cases hx
   ·cases hx
  ·cases ho2
 ·cases ho2
def ZM2 (Pg:Program) (t:TypeId) (f:Nat):Option Nat:=
 match Pg.underlying t with
 | some (.struct fs)=>match fs[f]? with
   | some fd=>match Pg.underlying fd.type with
     | some (.struct _)=>none
     | some (.array _ _)=>none
     | some _=>some fd.offset
     | none=>none
   | none=>none
 | _=>none
def ZKZ (Pg:Program) (off:Nat) (o:Oper) (s:SOp) (nt:Nat):Bool:=
 Zie o s nt && match o.op with
 | .field t x f=>ok1 x s && ZM2 Pg t f==some off
 | _=>false
theorem ZNn (h:St g e a w) {o:Oper} {s:SOp} {off:Nat} (hk:s.kind= .fieldV off) (ho:ZKZ Pg off o s g.nt=true) (hd:doOp F s e=some e'):OpOut Pg o a w g e':=by
 unfold ZKZ at ho
 rw [Bool.and_eq_true] at ho
 refine Zer h ho.1 hd fun d hx=>?_
 have ho2:=ho.2
 rw [hk] at hx
 split at ho2
 ·rename_i t x f hop
  rw [Bool.and_eq_true,beq_iff_eq] at ho2
  obtain ⟨o1,o2⟩:=ho2
  obtain ⟨d',h1,h2⟩:=Zhy h o1
  rw [h1] at hx
  simp only [ZaI] at hx
  unfold ZJ1 at hx
  split at hx
  ·rename_i cs heq
   simp only [List.cons.injEq,and_true] at heq
   subst heq
   split at hx
   ·rename_i z hz
    simp only [Zx5,and_true] at hx
    subst hx
    obtain ⟨vs,hv,hl,hall⟩:=h2 0
    have hiv:off<vs.toList.length:=by have:=Zaq hz;omega
    have hg:vs[off]? =some vs.toList[off]:=by rw [<-Array.getElem?_toList];exact List.getElem?_eq_getElem hiv
    unfold ZM2 at o2
    split at o2
    ·rename_i fs hu
     split at o2
     ·rename_i fd hf
      have hag: ∀w,(Go.isAgg fd.type).run Pg w= .ok false w:=fun w=>by
       split at o2
       ·cases o2
       ·cases o2
       ·rename_i d2 n1 n2 hu2
        simp only [Go.isAgg,Sem.run_bind,run_underlying hu2,Result.andThen_ok]
        cases d2<;>first|rfl|exact absurd rfl (n1 _)|exact absurd rfl (n2 _ _)
       ·cases o2
      have ho:fd.offset=off:=by
       split at o2<;>first|(cases o2;done)|(injection o2)
      refine ⟨vs.toList[off],?_,fun k=>?_⟩
      ·simp only [execOp,hop,hv]
       simp only [Instr.field,part,asAgg,Sem.run_bind,run_underlying hu,Result.andThen_ok,hf,Sem.run_pure,hag,ho,hg,Bool.false_eq_true,if_false]
      ·exact hall off _ _ (List.getElem?_eq_getElem hiv) hz
     ·cases o2
    ·cases o2
   ·cases hx
  ·cases hx
 ·cases ho2
def ZmL (i:Nat) (o:Oper) (s:SOp) (nt:Nat):Bool:=
 Zie o s nt && match o.op with
 | .extract x i'=>ok1 x s && i'==i
 | _=>false
theorem Zr8 (h:St g e a w) {o:Oper} {s:SOp} {i:Nat} (hk:s.kind= .extract i) (ho:ZmL i o s g.nt=true) (hd:doOp F s e=some e'):OpOut Pg o a w g e':=by
 unfold ZmL at ho
 rw [Bool.and_eq_true] at ho
 refine Zer h ho.1 hd fun d hx=>?_
 have ho2:=ho.2
 rw [hk] at hx
 split at ho2
 · rename_i x i' hop
   rw [Bool.and_eq_true,beq_iff_eq] at ho2
   obtain ⟨o1,rfl⟩:=ho2
   unfold ok1 at o1
   split at o1
   · rename_i y hins
     rw [hins] at hx
     simp only [List.map_cons,List.map_nil,ZaI] at hx
     unfold ZfI at hx
     split at hx
     · rename_i xs heq
       simp only [List.cons.injEq,and_true] at heq
       split at hx
       · rename_i z hz
         simp only [Zx5,and_true] at hx
         subst hx
         have hrep:=ZbL h o1 0
         have hpl:(Zbl e [] y).plain=Zbl e [] y:=by
           cases y with
           | k n=>
             simp only [Zbl]
             cases e.get n with
             | undef=>rfl
             | a x=>cases x<;>simp [D.plain,A.plain,plain_plain]
             | tup xs=>
               simp only [List.elem_eq_mem,List.not_mem_nil,decide_false,Bool.false_eq_true,if_false,D.plain,List.map_map]
               congr 1
               apply List.map_congr_left
               intro x _
               cases x<;>simp [A.plain,plain_plain]
             | objs os=>rfl
           | c c=>simp [Zbl] at heq
         rw [heq] at hrep hpl
         obtain ⟨vs,hv,hl,hall⟩:=hrep
         have hi:=Zaq hz
         have hiv:i'<vs.toList.length:=by omega
         refine ⟨vs.toList[i'],?_,fun k=>?_⟩
         · have hg:vs[i']? =some vs.toList[i']:=by
             rw [<-Array.getElem?_toList];exact List.getElem?_eq_getElem hiv
           simp [execOp,hop,hv,Instr.extract,hg]
         · have hA:=hall i' _ z (List.getElem?_eq_getElem hiv) hz
           have hzp:z.plain=z:=by
             simp only [D.plain,D.tup.injEq] at hpl
             have:=congrArg (fun l=>l[i']?) hpl
             simp only [List.getElem?_map,hz,Option.map_some,Option.some.injEq] at this
             exact this
           have:=hA.plain (k':=k) (c':=0)
           rw [hzp] at this
           exact this
       · cases hx
     · cases hx
   · cases o1
 · cases ho2
theorem Zom {g:G} {e:Env} {a:Act} {w:World} (h:St g e a w): ∀(xs:List Operand) (ys:List Arg) (rs:List R),Zeo xs ys=true->Zfq (ys.map (Zbl e []))=some rs->
   xs.map a.eval=rs.map (R.val g)
 | [],[],rs,_,hr=>by simp [Zfq] at hr;subst hr;rfl
 | x::xs,y::ys,rs,ho,hr=>by
   simp only [Zeo,Bool.and_eq_true] at ho
   simp only [List.map_cons] at hr
   unfold Zfq at hr
   split at hr
   · rename_i heq;cases heq
   · rename_i r rest heq
     simp only [List.cons.injEq] at heq
     obtain ⟨q1,q2⟩:=heq
     subst q2
     split at hr
     · rename_i rs' hrs
       cases hr
       have ih:=Zom h xs ys rs' ho.2 hrs
       have hv:=ZbL h ho.1 0
       rw [q1] at hv
       rw [List.map_cons,List.map_cons,ih,ZmC hv]
     · cases hr
   · cases hr
 | [],_::_,_,ho,_=>by cases ho
 | _::_,[],_,ho,_=>by cases ho
theorem Zj1: ∀(xs:List Operand) (ys:List Arg),Zeo xs ys=true->xs.length=ys.length
 | [],[],_=>rfl
 | _::xs,_::ys,h=>by
   simp only [Zeo,Bool.and_eq_true] at h
   simp [Zj1 xs ys h.2]
 | [],_::_,h=>by cases h
 | _::_,[],h=>by cases h
def ZIs (f:Nat) (o:Oper) (s:SOp) (nt:Nat):Bool:=
 Zie o s nt && match o.op with
 | .makeFunc (.func f') fs cs=>f'==f && cs.size==0 && Zeo fs.toList s.ins
 | _=>false
def ZlB (f first:Nat) (o:Oper) (s:SOp) (nt:Nat):Bool:=
 Zie o s nt && match o.op with
 | .makeFunc (.func f') fs cs=>f'==f && fs.size==first && Zeo (fs.toList++cs.toList) s.ins
 | _=>false
theorem ZrP (h:St g e a w) {o:Oper} {s:SOp} {f first:Nat} (hk:s.kind= .makeFunc f first) (ho:ZlB f first o s g.nt=true) (hd:doOp F s e=some e'):OpOut Pg o a w g e':=by
 unfold ZlB at ho
 rw [Bool.and_eq_true] at ho
 refine Zer h ho.1 hd fun d hx=>?_
 have ho2:=ho.2
 rw [hk] at hx
 split at ho2
 ·rename_i f' fs cs hop
  simp only [Bool.and_eq_true,beq_iff_eq] at ho2
  obtain ⟨⟨rfl,hfs⟩,o1⟩:=ho2
  simp only [ZaI,Zhf] at hx
  split at hx
  ·rename_i rs hrs
   simp only [Zx5,and_true] at hx
   subst hx
   have hv:=Zom h _ _ _ o1 hrs
   refine ⟨.func (.func f') (fs.map a.eval) (cs.map a.eval),by simp [execOp,hop,Instr.makeFunc],fun k=>?_⟩
   show _=_
   rw [List.map_append] at hv
   have hl:fs.toList.length=first:=by simpa using hfs
   have e1:(rs.take first).map (R.val g)=fs.toList.map a.eval:=by
    rw [List.map_take,<-hv,List.take_append_of_le_length (by simp [hl]),List.take_of_length_le (by simp [hl])]
   have e2:(rs.drop first).map (R.val g)=cs.toList.map a.eval:=by
    rw [List.map_drop,<-hv,List.drop_append_of_le_length (by simp [hl]),List.drop_eq_nil_of_le (by simp [hl]),List.nil_append]
   rw [e1,e2]
   congr 1<;>(apply Array.ext';simp)
  ·cases hx
 ·cases ho2
theorem ZKO (h:St g e a w) {o:Oper} {s:SOp} {f:Nat} (hk:s.kind= .makeFuncS f) (ho:ZIs f o s g.nt=true) (hd:doOp F s e=some e'):OpOut Pg o a w g e':=by
 unfold ZIs at ho
 rw [Bool.and_eq_true] at ho
 refine Zer h ho.1 hd fun d hx=>?_
 have ho2:=ho.2
 rw [hk] at hx
 split at ho2
 · rename_i f' fs cs hop
   simp only [Bool.and_eq_true,beq_iff_eq] at ho2
   obtain ⟨⟨rfl,hcs⟩,o1⟩:=ho2
   simp only [ZaI] at hx
   unfold ZH3 at hx
   split at hx
   · rename_i r hds
     simp only [Zx5,and_true] at hx
     subst hx
     cases hfs:fs.toList with
     | nil=>rw [hfs] at o1;cases hins:s.ins with
       | nil=>rw [hins] at hds;cases hds
       | cons y ys=>rw [hins] at o1;cases o1
     | cons x xs=>
       rw [hfs] at o1
       cases hins:s.ins with
       | nil=>rw [hins] at hds;cases hds
       | cons y ys=>
         rw [hins] at o1 hds
         simp only [List.map_cons,List.cons.injEq,List.map_eq_nil_iff] at hds
         obtain ⟨hd1,rfl⟩:=hds
         simp only [Zeo,Bool.and_eq_true] at o1
         cases xs with
         | cons z zs=>exact absurd o1.2 (by simp [Zeo])
         | nil=>
           have hv:=ZfR h o1.1 []
           rw [hd1] at hv
           obtain ⟨vs,hvs,hl,hcell⟩:=hv
           have hl1:vs.toList.length=1:=hl
           cases hvl:vs.toList with
           | nil=>rw [hvl] at hl1;cases hl1
           | cons u us=>
             cases us with
             | cons _ _=>rw [hvl] at hl1;simp at hl1
             | nil=>
               have hu:u=r.val g:=hcell 0 u (.ref r) (by rw [hvl];rfl) rfl
               refine ⟨.func (.func f') (fs.map a.eval) (cs.map a.eval),by simp [execOp,hop,Instr.makeFunc],fun k=>?_⟩
               show _=_
               have e1:fs= #[x]:=by apply Array.ext';rw [hfs]
               have e2:cs= #[]:=Array.eq_empty_of_size_eq_zero hcs
               have e3:vs= #[r.val g]:=by apply Array.ext';rw [hvl,hu]
               have e4:a.eval x= .agg #[r.val g]:=hvs.trans (by rw [e3])
               subst e1;subst e2
               simp only [List.map_toArray,List.map_cons,List.map_nil,e4]
   · cases hx
 · cases ho2
end each
end Go.Am
end
