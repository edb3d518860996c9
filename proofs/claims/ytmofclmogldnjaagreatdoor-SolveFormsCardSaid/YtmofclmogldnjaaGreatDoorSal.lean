/- Part. -/
import Derived.Test.YtmofclmogldnjaaGreatDoorSaj
import Derived.Laws.Append
import Derived.Laws.CopyRow
import Derived.Laws.Strings
import Derived.Laws.StructEq
set_option maxRecDepth 999999
set_option maxHeartbeats 0
set_option linter.all false
section
namespace Go.Am
variable [WI]
variable {Pg:Program}
def Zac:OBJS<BOX:=by decide
def OpOut (Pg:Program) (o:Oper) (a:Act) (w:World) (g:G) (e':Env):Prop:=
 ∃(nx:Next) (v:Value) (w':World) (g':G),(execOp a.eval o).run Pg w= .ok nx w'/\(nx= .value v∨(nx= .skip/\v=undef))/\
  St g' e' (a.put o.dst v) w'/\Ext g.T g.pr g.ow w w' g'.pr g'.ow/\g'.ω=g.ω/\g'.T=g.T/\g'.nt=g.nt
def ZcE:Value->C->Bool
 | .int k n,.p (.int k' n')=>k==k' && n==n'
 | .bool b,.p (.bool b')=>b==b'
 | .string s,.p (.str t)=>Zax s==t
 | .slice none 0 0,.tip _ []=>true
 | .slice none 0 0,.p (.sl _ [])=>true
 | .slice none 0 0,.uniq _ []=>true
 | .pointer none,.nilp=>true
 | .func (.func f) first caps,.clo f' [] []=>f==f' && first.size==0 && caps.size==0
 | .nilFunc,.junk=>true
 | _,_=>false
def Za1:Operand->Arg->Bool
 | .tmp t,.k n=>t==n && Nat.blt n OBJS
 | .const v,.c c=>ZcE v c
 | .func f,.c (.clo f' [] [])=>f==f'
 | _,_=>false
theorem Zbn {v:Value} {c:C} (h:ZcE v c=true) (g:G) (w:World) (ℓ:Loc):RepC g w ℓ v c:=by
 unfold ZcE at h
 split at h
 ·simp at h;obtain ⟨rfl,rfl⟩:=h;exact RepP.int _ _
 ·simp at h;subst h;exact RepP.bool _
 ·simp at h;exact RepP.str _ _ h
 ·exact ⟨RepP.nils _ _ _,none,0,rfl,.inl rfl⟩
 ·exact RepP.nils _ _ _
 ·exact ⟨none,0,rfl,.inl ⟨rfl,rfl,rfl⟩⟩
 ·rfl
 ·rename_i first caps _
  simp at h
  obtain ⟨⟨rfl,h1⟩,h2⟩:=h
  have e1:first= #[]:=by simpa using h1
  have e2:caps= #[]:=by simpa using h2
  subst e1;subst e2
  rfl
 ·exact ⟨rfl,fun _ h=>(nomatch h),fun _ h=>(nomatch h)⟩
 ·cases h
theorem Zb2 {g:G} {e:Env} {a:Act} {w:World} (h:St g e a w) {x:Operand} {y:Arg} (hx:Za1 x y=true) (takes:List Nat):
  RepD g w (match y with| .k n=>n| .c _=>0) (a.eval x) (Zaw e takes y):=by
 unfold Za1 at hx
 split at hx
 ·rename_i t n
  simp at hx
  obtain ⟨rfl,hn⟩:=hx
  have:=(h.key t).tm hn
  simp only [Zaw,Act.eval]
  split
  ·exact this
  ·exact this.plain
 ·exact Zbn hx _ _ _
 ·rename_i f f'
  simp at hx
  subst hx
  simp only [Act.eval,Zaw]
  rfl
 ·cases hx
def ZaG {g:G} {e:Env} {a:Act} {w:World} (h:St g e a w) {x:Operand} {y:Arg} (hx:Za1 x y=true) (k:Nat):
  RepD g w k (a.eval x) (Zaw e [] y):=by
 unfold Za1 at hx
 split at hx
 ·rename_i t n
  simp at hx
  obtain ⟨rfl,hn⟩:=hx
  have:=(h.key t).tm hn
  simp only [Zaw,Act.eval]
  exact this.plain
 ·exact Zbn hx _ _ _
 ·rename_i f f'
  simp at hx
  subst hx
  simp only [Act.eval,Zaw]
  rfl
 ·cases hx
def Zao {a:Act} {k:Nat} {v:Value} (h:k<a.tmps.size):(a.put (some k) v).tmps.getD k undef=v:=by
 simp [Act.put,Array.getD,h]
def Zan {a:Act} {k k':Nat} {v:Value} (h:k'≠k):(a.put (some k) v).tmps.getD k' undef=a.tmps.getD k' undef:=by
 simp [Act.put,Array.getElem?_setIfInBounds_ne (Ne.symm h)]
def ZaQ {a:Act} {k:Option Nat} {v:Value}:(a.put k v).tmps.size=a.tmps.size:=by
 cases k<;>simp [Act.put]
def ZaC {a:Act} {k:Option Nat} {v:Value}:(a.put k v).defers=a.defers:=by
 cases k<;>rfl
def St.put {g:G} {e:Env} {a:Act} {w:World} (h:St g e a w) {k:Nat} (hk:k<g.nt) {v:Value} {d:D} (hd:RepD g w k v d):
  St g (e.set k d) (a.put (some k) v) w:=by
 have hk':k<OBJS:=Yq hk h.nt
 have hs:k<a.tmps.size:=Yq hk h.sz
 have hno:OBJS≠k:=Nat.ne_of_gt hk'
 refine h.gen [k] (fun _=>True) (Ext.refl _ _ _ _) h.fr rfl rfl rfl (by rw [ZaC];exact h.df) ZaQ (fun k' hn=>Env.get_set_ne _ _ (fun e=>hn (by simp [e])))
  (fun k' hn _=>Zan (by simpa using hn)) (fun _ _ _ _ b hb=>⟨hb,rfl,rfl⟩) (fun _=> .inl rfl) (fun _ _=>⟨rfl,rfl,rfl⟩) (fun _ _ _ _=>trivial) (fun _ _ _ _ _=>trivial)
  (fun k' hm=>?_) (fun κ hm hκ=>?_) (fun hm=>?_) (fun κ hm hκ=>?_)
 ·simp at hm;subst hm
  refine ⟨fun _=>?_,fun hb=>?_,fun ho=>absurd ho (Ne.symm hno)⟩
  ·rw [Env.get_set_same,Zao hs];exact hd
  ·have:=Zac;omega
 ·simp at hm;subst hm;have:=Zac;omega
 ·simp at hm;exact absurd hm hno
 ·simp at hm;subst hm;have:=Zac;omega
def Zta {g:G} {e:Env} {a:Act} {w:World} (h:St g e a w) {o:Oper} {k:Nat} (hd:o.dst=some k) (hk:k<g.nt) {v:Value} {d:D}
  (hr:(execOp a.eval o).run Pg w= .ok (.value v) w) (hv:RepD g w k v d):OpOut Pg o a w g (e.set k d):=
 ⟨.value v,v,w,g,hr,.inl rfl,by rw [hd];exact h.put hk hv,Ext.refl _ _ _ _,rfl,rfl,rfl⟩
def Zs9 {e e':Env} {ds:List D} {k:Nat} (h:e.sets [k] ds=some e'): ∃d,ds=[d]/\e'=e.set k d:=by
 cases ds with
 | nil=>cases h
 | cons d r=>
   cases r with
   | nil=>simp only [Env.sets] at h;cases h;exact ⟨d,rfl,rfl⟩
   | cons _ _=>simp [Env.sets] at h
def Zhe {F:Zae} {s:SOp} {e e':Env} {k:Nat} (ht:s.takes=[]) (ho:s.outs=[k]) (h:doOp F s e=some e'):
   ∃d,Zai F s.kind (s.ins.map (Zaw e []))=some [d]/\e'=e.set k d:=by
 unfold doOp at h
 rw [ht,ho] at h
 cases hs:Zai F s.kind (s.ins.map (Zaw e [])) with
 | none=>rw [hs] at h;cases h
 | some ds=>
   rw [hs] at h
   obtain ⟨d,rfl,rfl⟩:=Zs9 h
   exact ⟨d,rfl,rfl⟩
def ZbB {g:G} {w:World} {k:Nat} {v:Value} {i:IntKind} {n:Int} (h:RepD g w k v (one (.int i n))):v= .int i n:=by
 have h':RepP g.pr w v (.int i n):=h
 cases h';rfl
def ZfF {g:G} {w:World} {k:Nat} {v:Value} {b:Bool} (h:RepD g w k v (one (.bool b))):v= .bool b:=by
 have h':RepP g.pr w v (.bool b):=h
 cases h';rfl
def Zjw {g:G} {w:World} {k:Nat} {v:Value} {t:List Nat} (h:RepD g w k v (one (.str t))): ∃bs,v= .string bs/\Zax bs=t:=by
 have h':RepP g.pr w v (.str t):=h
 cases h' with
 | str bs _ h=>exact ⟨bs,rfl,h⟩
def Zh8 {g:G} {w:World} {k:Nat} {v:Value} {r:R} (h:RepD g w k v (.a (.one (.ref r)))):v=r.val g:=h
def Zex {g:G} {w:World} {k:Nat} {v:Value} {c:C} {s:Nat} {rows:List (List P)} (h:RepD g w k v (.a (.one c))) (hc:c.rows=some (s,rows)):RepP g.pr w v (.sl s rows):=by
 cases c with
 | p x=>cases x<;>simp [C.rows] at hc;obtain ⟨rfl,rfl⟩:=hc;exact h
 | tip s' r=>simp [C.rows] at hc;obtain ⟨rfl,rfl⟩:=hc;exact h.1
 | _=>simp [C.rows] at hc
section strings
def Zam (bs:ByteArray):Zax bs=bs.toList.map UInt8.toNat:=by rw [ByteArray.toList_eq];rfl
def Zaq (bs:ByteArray):(Zax bs).length=bs.size:=by simp [Zax]
def ZvU (x y:List UInt8):eqS (x.map UInt8.toNat) (y.map UInt8.toNat)=(x==y):=by
 induction x generalizing y with
 | nil=>cases y<;>rfl
 | cons a x ih=>
   cases y with
   | nil=>rfl
   | cons b y=>
     simp only [Yp,eqS,ih]
     rw [List.cons_beq_cons]
     congr 1
     rw [Bool.eq_iff_iff]
     simp [UInt8.toNat_inj]
def Zd0 (x y:ByteArray):eqS (Zax x) (Zax y)=(x.toList==y.toList):=by
 rw [Zam,Zam,ZvU]
def Zj6 (x y:List UInt8):bytesLess (x.map UInt8.toNat) (y.map UInt8.toNat)=Op.bytesLess x y:=by
 induction x generalizing y with
 | nil=>cases y<;>rfl
 | cons a x ih=>
   cases y with
   | nil=>rfl
   | cons b y=>
     simp only [Yp,bytesLess,Op.bytesLess,ih]
     congr 1
     · rw [Bool.eq_iff_iff];simp [UInt8.lt_iff_toNat_lt]
     · congr 1
       rw [Bool.eq_iff_iff]
       simp [UInt8.toNat_inj]
def Zhf (x y:ByteArray):bytesLess (Zax x) (Zax y)=Op.bytesLess x.toList y.toList:=by
 rw [Zam,Zam,Zj6]
def ZjJ (x y:ByteArray):Zax (x++y)=Zax x++Zax y:=by
 simp [Zax,ByteArray.data_append]
end strings
end Go.Am
end
section
namespace Go.Am
variable [WI]
variable {Pg:Program}
def Zgk {F:Zae} {s:SOp} {e e':Env} (ht:s.takes=[]) (h:doOp F s e=some e'):
  ∃ds,Zai F s.kind (s.ins.map (Zaw e []))=some ds/\e.sets s.outs ds=some e':=by
 unfold doOp at h
 rw [ht] at h
 cases hs:Zai F s.kind (s.ins.map (Zaw e [])) with
 | none=>rw [hs] at h;cases h
 | some ds=>rw [hs] at h;exact ⟨ds,rfl,h⟩
def Zep (o:Oper) (s:SOp) (nt:Nat):Bool:=
 match o.dst,s.outs,s.takes with
 | some d,[d'],[]=>d==d' && Nat.blt d nt
 | _,_,_=>false
def ZeW {o:Oper} {s:SOp} {nt:Nat} (h:Zep o s nt=true): ∃d,o.dst=some d/\s.outs=[d]/\s.takes=[]/\d<nt:=by
 unfold Zep at h
 split at h
 ·rename_i d d' h1 h2 h3
  simp at h
  obtain ⟨rfl,hlt⟩:=h
  exact ⟨d,h1,h2,h3,hlt⟩
 ·cases h
def ZbG {F:Zae} {g:G} {e e':Env} {a:Act} {w:World} (h:St g e a w) {o:Oper} {s:SOp} (ho:Zep o s g.nt=true) (hd:doOp F s e=some e')
  (hv: ∀d,Zai F s.kind (s.ins.map (Zaw e []))=some [d]-> ∃v,(execOp a.eval o).run Pg w= .ok (.value v) w/\ ∀k,RepD g w k v d):OpOut Pg o a w g e':=by
 obtain ⟨d,h1,h2,h3,h4⟩:=ZeW ho
 obtain ⟨x,hx,rfl⟩:=Zhe h3 h2 hd
 obtain ⟨v,hr,hrep⟩:=hv x hx
 exact Zta h h1 h4 hr (hrep d)
def ZbZ:List Operand->List Arg->Bool
 | [],[]=>true
 | x::xs,y::ys=>Za1 x y && ZbZ xs ys
 | _,_=>false
def map_some {α:Type} {xs:List D} {f:List D->Option α} {x:α} (h:f xs=some x):f xs=some x:=h
def ok1 (x:Operand) (s:SOp):Bool:=match s.ins with|[y]=>Za1 x y|_=>false
def ok2 (x x':Operand) (s:SOp):Bool:=match s.ins with|[y,y']=>Za1 x y && Za1 x' y'|_=>false
def ok3 (x x' x'':Operand) (s:SOp):Bool:=match s.ins with|[y,y',y'']=>Za1 x y && Za1 x' y' && Za1 x'' y''|_=>false
def ZdU {g:G} {e:Env} {a:Act} {w:World} (h:St g e a w) {x:Operand} {s:SOp} (hx:ok1 x s=true):
  ∃d,s.ins.map (Zaw e [])=[d]/\ ∀k,RepD g w k (a.eval x) d:=by
 unfold ok1 at hx
 split at hx
 ·rename_i y hy;exact ⟨_,by rw [hy];rfl,fun k=>ZaG h hx k⟩
 ·cases hx
def Zfj {g:G} {e:Env} {a:Act} {w:World} (h:St g e a w) {x x':Operand} {s:SOp} (hx:ok2 x x' s=true):
  ∃d d',s.ins.map (Zaw e [])=[d,d']/\(∀k,RepD g w k (a.eval x) d)/\ ∀k,RepD g w k (a.eval x') d':=by
 unfold ok2 at hx
 split at hx
 ·rename_i y y' hy
  rw [Yb] at hx
  exact ⟨_,_,by rw [hy];rfl,fun k=>ZaG h hx.1 k,fun k=>ZaG h hx.2 k⟩
 ·cases hx
def Zu5 {g:G} {e:Env} {a:Act} {w:World} (h:St g e a w) {x x' x'':Operand} {s:SOp} (hx:ok3 x x' x'' s=true):
  ∃d d' d'',s.ins.map (Zaw e [])=[d,d',d'']/\(∀k,RepD g w k (a.eval x) d)/\(∀k,RepD g w k (a.eval x') d')/\ ∀k,RepD g w k (a.eval x'') d'':=by
 unfold ok3 at hx
 split at hx
 ·rename_i y y' y'' hy
  rw [Yb,Yb] at hx
  exact ⟨_,_,_,by rw [hy];rfl,fun k=>ZaG h hx.1.1 k,fun k=>ZaG h hx.1.2 k,fun k=>ZaG h hx.2 k⟩
 ·cases hx
def Zaa (x:Sem Value) (w:World):Sem.run Pg (x>>=fun v=>pure (Next.value v)) w=(x.run Pg w).andThen fun v w'=>Result.ok (Next.value v) w':=by
 rw [Sem.run_bind];rfl
section each
variable {F:Zae} {g:G} {e e':Env} {a:Act} {w:World}
def ZxY (o:Oper) (s:SOp) (nt:Nat):Bool:=
 Zep o s nt && match o.op with
 | .move x=>ok1 x s
 | .assign x=>ok1 x s
 | _=>false
def Zxa (h:St g e a w) {o:Oper} {s:SOp} (hk:s.kind= .mov) (ho:ZxY o s g.nt=true) (hd:doOp F s e=some e'):OpOut Pg o a w g e':=by
 unfold ZxY at ho
 rw [Yb] at ho
 refine ZbG h ho.1 hd fun d hx=>?_
 have ho2:=ho.2
 rw [hk] at hx
 split at ho2<;>first|cases ho2|skip
 all_goals
  rename_i x hop
  obtain ⟨d',h1,h2⟩:=ZdU h ho2
  rw [h1] at hx
  simp only [Zai,Zqe,Ye,Yf,and_true] at hx
  subst hx
  exact ⟨a.eval x,by simp [execOp,hop],h2⟩
def ZsQ (o:Oper) (s:SOp) (nt:Nat):Bool:=
 Zep o s nt && match o.op with
 | .pick c x y=>ok3 c x y s
 | _=>false
def Znk (h:St g e a w) {o:Oper} {s:SOp} (hk:s.kind= .pick) (ho:ZsQ o s g.nt=true) (hd:doOp F s e=some e'):OpOut Pg o a w g e':=by
 unfold ZsQ at ho
 rw [Yb] at ho
 refine ZbG h ho.1 hd fun d hx=>?_
 have ho2:=ho.2
 rw [hk] at hx
 split at ho2
 ·rename_i c x y hop
  obtain ⟨d1,d2,d3,h1,h2,h3,h4⟩:=Zu5 h ho2
  rw [h1] at hx
  simp only [Zai] at hx
  unfold Zpa at hx
  split at hx
  ·rename_i heq
   simp only [Yf,and_true] at heq
   obtain ⟨rfl,rfl,rfl⟩:=heq
   simp only [Zx5,and_true] at hx
   subst hx
   have hc:=ZfF (h2 0)
   refine ⟨_,by simp only [execOp,hop,hc,asBool];rfl,fun k=>?_⟩
   split
   ·exact h3 k
   ·exact h4 k
  ·cases hx
 ·cases ho2
def ZgD (o:Oper) (s:SOp) (nt:Nat):Bool:=
 Zep o s nt && match o.op with
 | .nilCheck x=>ok1 x s
 | _=>false
def ZfB (h:St g e a w) {o:Oper} {s:SOp} (hk:s.kind= .nilCheck) (ho:ZgD o s g.nt=true) (hd:doOp F s e=some e'):OpOut Pg o a w g e':=by
 unfold ZgD at ho
 rw [Yb] at ho
 refine ZbG h ho.1 hd fun d hx=>?_
 have ho2:=ho.2
 rw [hk] at hx
 split at ho2
 ·rename_i x hop
  obtain ⟨d',h1,h2⟩:=ZdU h ho2
  rw [h1] at hx
  simp only [Zai] at hx
  unfold Zfv at hx
  split at hx
  ·rename_i heq
   simp only [Yf,and_true] at heq
   subst heq
   simp only [Zx5,and_true] at hx
   subst hx
   have hv:=Zh8 (h2 0)
   exact ⟨_,by simp [execOp,hop,hv,R.val],fun k=>h2 k⟩
  ·rename_i heq
   simp only [Yf,and_true] at heq
   subst heq
   simp only [Zx5,and_true] at hx
   subst hx
   obtain ⟨b,o',hv,_⟩:=h2 0
   exact ⟨_,by simp [execOp,hop,hv],fun k=>h2 k⟩
  ·cases hx
 ·cases ho2
def Zip (Pg:Program) (t:TypeId) (f:Nat):Option Nat:=
 match Pg.underlying t with
 | some (.struct fs)=>match fs[f]? with
   | some fd=>match Pg.info? fd.type with
     | some i=>if i.size=0 then none else some fd.offset
     | none=>none
   | none=>none
 | _=>none
def Addr.add_eq (b o n:Nat):(⟨b,o,none⟩:Addr).add n=⟨b,o+n,none⟩:=by
 unfold Addr.add;split<;>simp_all
def Zcg {t f off b o:Nat} (h:Zip Pg t f=some off):(Instr.fieldAt t (.pointer (some ⟨b,o,none⟩)) f).run Pg w= .ok (.pointer (some ⟨b,o+off,none⟩)) w:=by
 unfold Zip at h
 split at h
 ·rename_i fs hu
  split at h
  ·rename_i fd hf
   split at h
   ·rename_i i hi
    split at h
    ·cases h
    ·rename_i hz
     cases h
     simp [Instr.fieldAt,run_underlying hu,hf,Instr.sureAddr,fieldPlace,sizeOf,typeInfo,hi,hz,Addr.add_eq]
   ·cases h
  ·cases h
 ·cases h
def Zfz (Pg:Program) (off:Nat) (o:Oper) (s:SOp) (nt:Nat):Bool:=
 Zep o s nt && match o.op with
 | .fieldAddr t x f=>ok1 x s && Zip Pg t f==some off
 | _=>false
def ZeO (h:St g e a w) {o:Oper} {s:SOp} {off:Nat} (hk:s.kind= .fieldAddr off) (ho:Zfz Pg off o s g.nt=true) (hd:doOp F s e=some e'):OpOut Pg o a w g e':=by
 unfold Zfz at ho
 rw [Yb] at ho
 refine ZbG h ho.1 hd fun d hx=>?_
 have ho2:=ho.2
 rw [hk] at hx
 split at ho2
 ·rename_i t x f hop
  rw [Yb,beq_iff_eq] at ho2
  obtain ⟨d',h1,h2⟩:=ZdU h ho2.1
  rw [h1] at hx
  simp only [Zai] at hx
  unfold ZeL at hx
  split at hx
  ·rename_i heq
   simp only [Yf,and_true] at heq
   subst heq
   simp only [Zx5,and_true] at hx
   subst hx
   have hv:=Zh8 (h2 0)
   exact ⟨_,by simp only [execOp,hop,hv,R.val];rw [Zaa,Zcg ho2.2,Result.andThen_ok],fun k=>rfl⟩
  ·rename_i heq
   simp only [Yf,and_true] at heq
   subst heq
   simp only [Zx5,and_true] at hx
   subst hx
   obtain ⟨b,o',hv,hr,hl⟩:=h2 0
   exact ⟨_,by simp only [execOp,hop,hv];rw [Zaa,Zcg ho2.2,Result.andThen_ok],fun k=>⟨b,o',by rw [Nat.add_assoc],hr,hl⟩⟩
  ·cases hx
 ·cases ho2
end each
end Go.Am
end
section
namespace Go.Am
variable [WI]
variable {Pg:Program}
def Zd2 {α β:Type} (xs:List α) (Q:Nat->α->β->Prop) (h: ∀(j:Nat) x,xs[j]? =some x-> ∃v,Q j x v):
   ∃vs:List β,vs.length=xs.length/\ ∀(j:Nat) x v,xs[j]? =some x->vs[j]? =some v->Q j x v:=by
 induction xs generalizing Q with
 | nil=>exact ⟨[],rfl,fun j x v hx=>by simp at hx⟩
 | cons y ys ih=>
   obtain ⟨v,hv⟩:=h 0 y rfl
   obtain ⟨vs,hl,hq⟩:=ih (fun j=>Q (j+1)) (fun j x hx=>h (j+1) x (by simpa using hx))
   refine ⟨v::vs,by simp [hl],fun j x u hx hu=>?_⟩
   cases j with
   | zero=>simp at hx hu;subst hx;subst hu;exact hv
   | succ j=>exact hq j x u (by simpa using hx) (by simpa using hu)
def ZnJ {α:Type} {l xs:List α} {off n:Nat} (h:cut l off n=some xs):off+n<=l.length/\xs.length=n/\ ∀(j:Nat),j<n->xs[j]? =l[off+j]? :=by
 unfold cut at h
 split at h
 ·rename_i hle
  cases h
  refine ⟨hle,by simp;omega,fun j hj=>?_⟩
  simp [YH,hj]
 ·cases h
def valA (n:Option Nat) (vs:List Value):Value:=
 match n with
 | none=>vs.headD undef
 | some _=> .agg vs.toArray
theorem RepCells.wrap {g:G} {w:World} {k c:Nat} {vs:List Value} {cs:List C} (h:RepCells g w k c vs cs) {n:Option Nat} {x:A} (hx:ZoD n cs=some x):RepA g w k c (valA n vs) x:=by
 unfold ZoD at hx
 split at hx
 ·cases hx
  rename_i y
  match vs,h with
  | [v],h=>exact h.2 0 v y rfl rfl
 ·cases hx
 ·cases hx
  exact ⟨vs.toArray,rfl,by simpa using h⟩
def ZdN (Pg:Program) (t:TypeId) (n:Option Nat):Bool:=
 match Pg.underlying t,Pg.info? t with
 | some (.struct _),some i=>n==some i.size
 | some (.array _ _),some i=>n==some i.size
 | some _,some _=>n==none
 | _,_=>false
theorem Zce {t:TypeId} {n:Option Nat} (h:ZdN Pg t n=true) {w:World} {b o:Nat} {vs:List Value} (hl:vs.length=ZcU n)
   (hc: ∀(j:Nat) v,vs[j]? =some v->w.cell? ⟨b,o+j,none⟩=some v):(loadVar t ⟨b,o,none⟩).run Pg w= .ok (valA n vs) w:=by
 have hcs:=run_loadCells_list (P:=Pg) w ⟨b,o,none⟩ vs (fun j v hv=>by rw [Addr.add_eq];exact hc j v hv)
 unfold ZdN at h
 split at h
 · rename_i hu hi
   simp at h;subst h
   simp [loadVar,isAgg,run_underlying hu,sizeOf,typeInfo,hi,valA]
   simp [ZcU] at hl
   rw [<-hl,hcs];simp
 · rename_i hu hi
   simp at h;subst h
   simp [loadVar,isAgg,run_underlying hu,sizeOf,typeInfo,hi,valA]
   simp [ZcU] at hl
   rw [<-hl,hcs];simp
 · rename_i d i hn1 hn2 hu hi
   simp at h;subst h
   match vs,hl with
   | [v],_=>
     have:=hc 0 v rfl
     simp at this
     have hna:(isAgg t).run Pg w= .ok false w:=by
       cases d<;>first|(exact (hn1 _ rfl).elim)|(exact (hn2 _ _ rfl).elim)|simp [isAgg,run_underlying hu]
     simp [loadVar,hna,this,valA]
 · cases h
def Zml {g:G} {w:World} {b o off:Nat} {row xs:List P} {n:Nat} (h:RepRow g.pr w b o row) (hc:cut row off n=some xs) (k c:Nat):
  ∃vs:List Value,vs.length=n/\(∀(j:Nat) v,vs[j]? =some v->w.cell? ⟨b,o+off+j,none⟩=some v)/\RepCells g w k c vs (xs.map .p):=by
 obtain ⟨h1,h2,h3⟩:=ZnJ hc
 obtain ⟨vs,hl,hq⟩:=Zd2 xs (fun j x v=>w.cell? ⟨b,o+off+j,none⟩=some v/\RepP g.pr w v x) (fun j x hx=>by
  have hj:j<n:=by have:=Zab hx;omega
  obtain ⟨v,hv,hr⟩:=h (off+j) x (by rw [<-h3 j hj];exact hx)
  exact ⟨v,by rw [Nat.add_assoc];exact hv,hr⟩)
 refine ⟨vs,by omega,fun j v hv=>?_,by simp [hl],fun j u y hu hy=>?_⟩
 ·have hj:j<xs.length:=by have:=Zab hv;omega
  exact (hq j xs[j] v (Ya hj) hv).1
 ·rw [Yn] at hy
  cases hx:xs[j]? with
  | none=>rw [hx] at hy;cases hy
  | some x=>rw [hx] at hy;cases hy;exact (hq j x u hx hu).2
def RepCells.part {g:G} {w:World} {k c:Nat} {vs:List Value} {cs:List C} (h:RepCells g w k c vs cs) {off n:Nat} (hle:off+n<=cs.length):
  ((vs.drop off).take n).length=n/\ ∀(i:Nat) u x,((vs.drop off).take n)[i]? =some u->((cs.drop off).take n)[i]? =some x->RepC g w (k,c,off+i) u x:=by
 refine ⟨by have:=h.1;simp;omega,fun i u x hu hx=>?_⟩
 have hi:i<n:=by have:=Zab hu;simp at this;omega
 simp [YH,hi] at hu hx
 exact h.2 (off+i) u x hu hx
def ZaH {w:World} {b j:Nat} {cs:Array Value} {t:TypeId} {fr:Nat×Nat} (h:w.heap[b]? =some (.cells cs t fr)):w.cell? ⟨b,j,none⟩=cs[j]? :=cell_of_row w b j cs t fr h
def Zbo (c:C):c.plain.held=false:=by
 cases c<;>rfl
def RepC.any {g:G} {w:World} {ℓ ℓ':Loc} {v:Value} {c:C} (h:RepC g w ℓ v c) (hc:c.held=false):RepC g w ℓ' v c:=by
 cases c<;>first|exact h|cases hc
def plain_plain (c:C):c.plain.plain=c.plain:=by cases c<;>rfl
def A.plain_eq_agg {x:D} {cs:List C} (h:x.plain= .a (.agg cs)): ∃cs₀,x= .a (.agg cs₀)/\cs=cs₀.map C.plain:=by
 cases x with
 | a x=>cases x<;>simp [D.plain,A.plain] at h;exact ⟨_,rfl,h.symm⟩
 | _=>simp [D.plain] at h
def ZiI {α:Type} {l:List α} {m off n:Nat} (h:off+n<=m):((l.take m).drop off).take n=(l.drop off).take n:=by
 rw [List.drop_take,List.take_take,Nat.min_eq_left Zo]
def ZbS {g:G} {w:World} {b k c:Nat} {cs₀:List C} (h:Box g w b k c cs₀) {off:Nat} {n:Option Nat} {x:A} (hx:ZaZ n cs₀ off=some x):
   ∃vs:List Value,vs.length=ZcU n/\(∀(j:Nat) v,vs[j]? =some v->w.cell? ⟨b,off+j,none⟩=some v)/\
     (∀(i:Nat) u y,vs[i]? =some u->((cs₀.drop off).take (ZcU n))[i]? =some y->RepC g w (k,c,off+i) u y)/\off+ZcU n<=cs₀.length/\ZoD n ((cs₀.drop off).take (ZcU n))=some x:=by
 obtain ⟨hmm,hx⟩:=Zgu hx
 obtain ⟨vs,t,hb,⟨hsz,hr⟩,_⟩:=h.cells hmm
 cases hc:cut cs₀ off (ZcU n) with
 | none=>rw [hc] at hx;cases hx
 | some xs=>
   rw [hc] at hx
   have hxs:xs=(cs₀.drop off).take (ZcU n):=by
     unfold cut at hc;split at hc
     · cases hc;rfl
     · cases hc
   obtain ⟨h1,h2,_⟩:=ZnJ hc
   obtain ⟨p1,p2⟩:=hr.part h1
   rw [ZiI h1] at p1 p2
   refine ⟨(vs.toList.drop off).take (ZcU n),p1,fun j v hv=>?_,p2,h1,hxs ▸ hx⟩
   have hj:j<ZcU n:=by have:=Zab hv;simp at this;omega
   simp [YH,hj] at hv
   rw [ZaH hb];exact hv
section each
variable {F:Zae} {g:G} {e e':Env} {a:Act} {w:World}
def Zsm (Pg:Program) (n:Option Nat) (o:Oper) (s:SOp) (nt:Nat):Bool:=
 Zep o s nt && match o.op with
 | .load t x=>ok1 x s && ZdN Pg t n
 | _=>false
def ZoK (h:St g e a w) {o:Oper} {s:SOp} {n:Option Nat} (hk:s.kind= .load n) (ho:Zsm Pg n o s g.nt=true) (hd:doOp F s e=some e'):OpOut Pg o a w g e':=by
 unfold Zsm at ho
 rw [Yb] at ho
 refine ZbG h ho.1 hd fun d hx=>?_
 have ho2:=ho.2
 rw [hk] at hx
 split at ho2
 · rename_i t x hop
   rw [Yb] at ho2
   obtain ⟨d',h1,h2⟩:=ZdU h ho2.1
   rw [h1] at hx
   simp only [Zai] at hx
   unfold ZlW at hx
   split at hx
   · rename_i row off heq
     simp only [Yf,and_true] at heq
     subst heq
     split at hx
     · rename_i xs hxs
       split at hx
       · rename_i y hy
         simp only [Zx5,and_true] at hx
         subst hx
         obtain ⟨b,o',hv,hr,hl⟩:=h2 0
         obtain ⟨vs,v1,v2,_⟩:=Zml hr hxs 0 0
         refine ⟨valA n vs,by simp only [execOp,hop,hv,Instr.loadAt,Instr.sureAddr];rw [Zaa,Sem.run_bind,Sem.run_pure,Result.andThen_ok,Zce ho2.2 v1 v2,Result.andThen_ok],fun k=>?_⟩
         obtain ⟨vs',v1',v2',v3'⟩:=Zml hr hxs k 0
         have:vs'=vs:=by
           apply List.ext_getElem?
           intro j
           cases hj:vs[j]? with
           | none=>exact List.getElem?_eq_none (by rw [List.getElem?_eq_none_iff] at hj;omega)
           | some u=>
             have hlt:=Zab hj
             have hj':vs'[j]? =some vs'[j]:=Ya Zo
             rw [hj',<-v2' j _ hj',v2 j u hj]
         subst this
         exact v3'.wrap hy
       · cases hx
     · cases hx
   · cases hx
 · cases ho2
def Zov (Pg:Program) (κ:Nat) (n:Option Nat) (o:Oper) (s:SOp) (nt:Nat):Bool:=
 Zep o s nt && match o.op,s.ins with
 | .load t x,[y,.k κ']=>Za1 x y && κ'==κ && Nat.ble BOX κ && ZdN Pg t n
 | _,_=>false
def ZsA (h:St g e a w) {o:Oper} {s:SOp} {κ:Nat} {n:Option Nat} (hk:s.kind= .loadB κ n) (ho:Zov Pg κ n o s g.nt=true) (hd:doOp F s e=some e'):OpOut Pg o a w g e':=by
 unfold Zov at ho
 rw [Yb] at ho
 refine ZbG h ho.1 hd fun d hx=>?_
 have ho2:=ho.2
 rw [hk] at hx
 split at ho2
 ·rename_i t x y κ' hop hins
  simp only [Yb,beq_iff_eq,Nat.ble_eq] at ho2
  obtain ⟨⟨⟨o1,rfl⟩,o2⟩,o3⟩:=ho2
  rw [hins] at hx
  simp only [Yp,List.map_nil,Zai] at hx
  unfold Zji at hx
  split at hx
  ·rename_i κ₀ off cs heq
   simp only [Yf,and_true] at heq
   obtain ⟨q1,q2⟩:=heq
   split at hx
   ·rename_i hκ
    simp at hκ;subst hκ
    split at hx
    ·rename_i z hz
     simp only [Zx5,and_true] at hx
     subst hx
     have hv:=ZaG h o1 0
     rw [q1] at hv
     have hv':=Zh8 hv
     have q2':(e.get κ₀).plain= .a (.agg cs):=by simpa [Zaw] using q2
     obtain ⟨cs₀,c1,c2⟩:=A.plain_eq_agg q2'
     have hbox:=(h.key κ₀).bx o2 cs₀ c1
     have hbox':Box g w (g.β κ₀) κ₀ 0 cs:=by
      obtain ⟨_,_,_,hn⟩:=hbox.bk
      refine hbox.lift rfl rfl hn (fun _ _ _ _ h=>h) (fun _=>Yc _) (fun es e=>by rw [c2,e];rfl) ?_
      rintro ⟨vs,t',b1,b2,b3⟩
      exact ⟨vs,t',b1,by rw [c2];exact ⟨by rw [Yh];exact b2.1,by rw [Yh];exact b2.2.plain⟩,b3⟩
     obtain ⟨vs,v1,v2,v3,v4,v5⟩:=ZbS hbox' hz
     refine ⟨valA n vs,by simp only [execOp,hop,hv',R.val,if_true,Instr.loadAt,Instr.sureAddr];rw [Zaa,Sem.run_bind,Sem.run_pure,Result.andThen_ok,Zce o3 v1 v2,Result.andThen_ok],fun k=>?_⟩
     have hcells:RepCells g w k 0 vs ((cs.drop off).take (ZcU n)):=by
      refine ⟨by simp;omega,fun i u x hu hx=>(v3 i u x hu hx).any ?_⟩
      have hm:x∈cs:=List.mem_of_mem_drop (List.mem_of_mem_take (YA hx))
      rw [c2] at hm
      obtain ⟨c,_,hc⟩:=List.mem_map.1 hm
      rw [<-hc];exact Zbo c
     exact (hcells.wrap v5).plain
    ·cases hx
   ·cases hx
  ·cases hx
 ·cases ho2
def ZoL (Pg:Program) (n:Option Nat) (o:Oper) (s:SOp) (nt:Nat):Bool:=
 Zep o s nt && match o.op,s.ins with
 | .load t x,[y,.k κ']=>Za1 x y && κ'==OBJS && ZdN Pg t n
 | _,_=>false
theorem Zsw (h:St g e a w) {o:Oper} {s:SOp} {n:Option Nat} (hk:s.kind= .loadO n) (ho:ZoL Pg n o s g.nt=true) (hd:doOp F s e=some e'):OpOut Pg o a w g e':=by
 unfold ZoL at ho
 rw [Yb] at ho
 refine ZbG h ho.1 hd fun d hx=>?_
 have ho2:=ho.2
 rw [hk] at hx
 split at ho2
 · rename_i t x y κ' hop hins
   simp only [Yb,beq_iff_eq] at ho2
   obtain ⟨⟨o1,rfl⟩,o3⟩:=ho2
   rw [hins] at hx
   simp only [Yp,List.map_nil,Zai] at hx
   unfold Zi5 at hx
   split at hx
   · rename_i k₀ off os heq
     simp only [Yf,and_true] at heq
     obtain ⟨q1,q2⟩:=heq
     split at hx
     · rename_i cs hcs
       split at hx
       · rename_i z hz
         simp only [Zx5,and_true] at hx
         subst hx
         have hv:=ZaG h o1 0
         rw [q1] at hv
         have hv':=Zh8 hv
         have q2':e.get OBJS= .objs os:=by
           have q3:(e.get OBJS).plain= .objs os:=by simpa [Zaw] using q2
           cases he:e.get OBJS with
           | objs os'=>rw [he] at q3;simpa [D.plain] using q3
           | a x=>rw [he] at q3;simp [D.plain] at q3
           | tup xs=>rw [he] at q3;simp [D.plain] at q3
           | undef=>rw [he] at q3;simp [D.plain] at q3
         have hbox:=(h.key OBJS).ob rfl os q2' k₀ cs hcs
         obtain ⟨vs,v1,v2,v3,v4,v5⟩:=ZbS hbox hz
         refine ⟨valA n vs,by simp only [execOp,hop,hv',R.val,Instr.loadAt,Instr.sureAddr];rw [Zaa,Sem.run_bind,Sem.run_pure,Result.andThen_ok];simp only [Yw,if_false];rw [Zce o3 v1 v2,Result.andThen_ok],fun k=>?_⟩
         have hA: ∃ℓ,RepA g w ℓ 0 (valA n vs) z.plain:=by
           have hpl:RepCells g w 0 0 vs (((cs.drop off).take (ZcU n)).map C.plain):=by
             refine ⟨by simp;omega,fun i u x hu hx=>?_⟩
             rw [Yn] at hx
             cases hy:((cs.drop off).take (ZcU n))[i]? with
             | none=>rw [hy] at hx;cases hx
             | some y=>rw [hy] at hx;cases hx;exact (v3 i u y hu hy).plain
           refine ⟨0,?_⟩
           have:ZoD n (((cs.drop off).take (ZcU n)).map C.plain)=some z.plain:=by
             revert v5
             generalize (cs.drop off).take (ZcU n)=l
             intro v5
             unfold ZoD at v5⊢
             cases n with
             | none=>match l,v5 with
               | [c],v5=>cases v5;rfl
             | some m=>cases v5;rfl
           exact hpl.wrap this
         obtain ⟨ℓ,hA⟩:=hA
         have:=hA.plain (k':=k) (c':=0)
         have e2:z.plain.plain=z.plain:=by
           cases z with
           | one c=>simp [A.plain,plain_plain]
           | agg cs=>simp [A.plain,plain_plain]
         rw [e2] at this
         exact this
       · cases hx
     · cases hx
   · cases hx
 · cases ho2
end each
end Go.Am
end
section
namespace Go.Am
variable [WI]
variable {Pg:Program}
section each
variable {F:Zae} {g:G} {e e':Env} {a:Act} {w:World}
def Zlb (Pg:Program) (t:TypeId) (s:Nat):Bool:=
 match Pg.underlying t with
 | some (.slice el)=>match Pg.info? el with
   | some i=>i.size==s && Nat.blt 0 s
   | none=>false
 | _=>false
def Zc6 {t s:Nat} (h:Zlb Pg t s=true): ∃el i,Pg.underlying t=some (.slice el)/\Pg.info? el=some i/\i.size=s/\0<s:=by
 unfold Zlb at h
 split at h
 ·rename_i el hu
  split at h
  ·rename_i i hi
   simp at h
   exact ⟨el,i,hu,hi,h.1,h.2⟩
  ·cases h
 ·cases h
def Zfx (Pg:Program) (z:Nat) (o:Oper) (s:SOp) (nt:Nat):Bool:=
 Zep o s nt && match o.op with
 | .indexAddr t x i=>ok2 x i s && Zlb Pg t z
 | _=>false
def ZeR (h:St g e a w) {o:Oper} {s:SOp} {z:Nat} (hk:s.kind= .indexAddr z) (ho:Zfx Pg z o s g.nt=true) (hd:doOp F s e=some e'):OpOut Pg o a w g e':=by
 unfold Zfx at ho
 rw [Yb] at ho
 refine ZbG h ho.1 hd fun d hx=>?_
 have ho2:=ho.2
 rw [hk] at hx
 split at ho2
 ·rename_i t x i hop
  rw [Yb] at ho2
  obtain ⟨d1,d2,h1,h2,h3⟩:=Zfj h ho2.1
  obtain ⟨el,inf,u1,u2,u3,u4⟩:=Zc6 ho2.2
  rw [h1] at hx
  simp only [Zai] at hx
  unfold Zdn at hx
  split at hx
  ·rename_i r s' m n heq
   simp only [Yf,and_true] at heq
   obtain ⟨rfl,rfl⟩:=heq
   split at hx
   ·rename_i hc
    obtain ⟨rfl,hn,hm⟩:=hc
    simp only [Zx5,and_true] at hx
    subst hx
    obtain ⟨cap,hv',_⟩:=h2 0
    have hi:=ZbB (h3 0)
    refine ⟨.pointer (some ⟨if r.own then g.β r.k else g.ω r.k,r.off+n.toNat*s',none⟩),?_,fun k=>rfl⟩
    simp only [execOp,hop,hv',hi]
    rw [Zaa]
    simp [Instr.indexAt,asIntOf,run_underlying u1,hn,hm,sizeOf,typeInfo,u2,u3,Addr.add_eq]
   ·cases hx
  ·rename_i c n _ heq
   simp only [Yf,and_true] at heq
   obtain ⟨rfl,rfl⟩:=heq
   split at hx
   ·rename_i s' rows hrows
    split at hx
    ·rename_i hc
     obtain ⟨rfl,hn⟩:=hc
     split at hx
     ·rename_i row hrow
      simp only [Zx5,and_true] at hx
      subst hx
      have hv:=Zex (h2 0) hrows
      have hi:=ZbB (h3 0)
      obtain ⟨ad,cap,hv',_⟩:=hv.slice_inv
      rw [hv'] at hv
      obtain ⟨b,o',rfl,hl,hsz,hr,hpr⟩:=hv.row hrow
      have hlt:=Zab hrow
      have hn':n<(rows.length:Int):=by omega
      refine ⟨.pointer (some ⟨b,o'+n.toNat*s',none⟩),?_,fun k=>⟨b,o'+n.toNat*s',rfl,hr,?_⟩⟩
      ·simp only [execOp,hop,hv',hi]
       rw [Zaa]
       simp [Instr.indexAt,asIntOf,run_underlying u1,hn,hn',sizeOf,typeInfo,u2,u3,Addr.add_eq]
      ·have:(n.toNat+1)*s'<=rows.length*s':=YJ _ hlt
       rw [Nat.add_mul] at this
       omega
     ·cases hx
    ·cases hx
   ·cases hx
  ·cases hx
 ·cases ho2
def Zg4 {bs:ByteArray} {i b:Nat} (h:(Zax bs)[i]? =some b): ∃u:UInt8,bs[i]? =some u/\u.toNat=b:=by
 simp only [Zax,Yn] at h
 cases hu:bs.data.toList[i]? with
 | none=>rw [hu] at h;cases h
 | some u=>
   rw [hu] at h
   cases h
   refine ⟨u,?_,rfl⟩
   have hi:i<bs.size:=by have:=Zab hu;simpa using this
   rw [getElem?_pos bs i hi]
   congr 1
   have:bs.data.toList[i]? =some bs.data[i]:=by simp
   rw [this] at hu
   cases hu
   rfl
def ZkV (Pg:Program) (o:Oper) (s:SOp) (nt:Nat):Bool:=
 Zep o s nt && match o.op with
 | .index t x i=>ok2 x i s && (match Pg.underlying t with|some .string=>true|_=>false)
 | _=>false
def ZpD (h:St g e a w) {o:Oper} {s:SOp} (hk:s.kind= .indexS) (ho:ZkV Pg o s g.nt=true) (hd:doOp F s e=some e'):OpOut Pg o a w g e':=by
 unfold ZkV at ho
 rw [Yb] at ho
 refine ZbG h ho.1 hd fun d hx=>?_
 have ho2:=ho.2
 rw [hk] at hx
 split at ho2
 ·rename_i t x i hop
  rw [Yb] at ho2
  obtain ⟨d1,d2,h1,h2,h3⟩:=Zfj h ho2.1
  have hu:Pg.underlying t=some .string:=by
   have:=ho2.2
   split at this
   ·assumption
   ·cases this
  rw [h1] at hx
  simp only [Zai] at hx
  unfold Zgq at hx
  split at hx
  ·rename_i tx n heq
   simp only [Yf,and_true] at heq
   obtain ⟨rfl,rfl⟩:=heq
   split at hx
   ·rename_i hn
    split at hx
    ·rename_i b hb
     simp only [Zx5,and_true] at hx
     subst hx
     obtain ⟨bs,hv,rfl⟩:=Zjw (h2 0)
     have hi:=ZbB (h3 0)
     obtain ⟨u,hu1,rfl⟩:=Zg4 hb
     refine ⟨.int .u8 u.toNat,?_,fun k=>RepP.int _ _⟩
     simp only [execOp,hop,hv,hi]
     rw [Zaa]
     simp [Instr.index,asIntOf,run_underlying hu,hn,hu1]
    ·cases hx
   ·cases hx
  ·cases hx
 ·cases ho2
def Ze6 {op:BinOp} {k:IntKind} {x y:Int} {z:P} (hz:ZcM op k x y=some z) (t:TypeId) (g:G): ∃v,(binOp op t (.int k x) (.int k y)).run Pg w= .ok v w/\RepP g.pr w v z:=by
 cases op<;>simp only [ZcM] at hz<;>first|cases hz|skip
 case shl=>
  unfold shlP at hz
  split at hz
  ·cases hz
  ·rename_i hy
   cases hz
   exact ⟨_,by simp [binOp,Op.shift,hy],.int _ _⟩
 case quo=>split at hz;cases hz;cases hz;rename_i hy;exact ⟨.int k (k.wrap (x.tdiv y)),by simp [binOp,Op.intDiv,hy],.int _ _⟩
 case rem=>split at hz;cases hz;cases hz;rename_i hy;exact ⟨.int k (x.tmod y),by simp [binOp,Op.intDiv,hy],.int _ _⟩
 all_goals first
    | (refine ⟨_,?_,RepP.int _ _⟩;simp [binOp,Op.intArith,Op.intBits,Op.intCmp];done)
    | (refine ⟨_,?_,RepP.bool _⟩;simp [binOp,Op.intArith,Op.intBits,Op.intCmp];done)
def Ze0 {op:BinOp} {x y:ByteArray} {z:P} (hz:Zg5 op (Zax x) (Zax y)=some z) (t:TypeId) (g:G): ∃v,(binOp op t (.string x) (.string y)).run Pg w= .ok v w/\RepP g.pr w v z:=by
 cases op<;>simp only [Zg5] at hz<;>first|cases hz|skip
 case add=>
  split at hz
  ·rename_i hl
   cases hz
   refine ⟨.string (x++y),?_,.str _ _ (ZjJ x y)⟩
   rw [Zaq,Zaq] at hl
   unfold Zim at hl
   have: ¬(((x.size+y.size:Nat):Int)>IntKind.i64.max):=by
    have:IntKind.i64.max=9223372036854775807:=by decide
    rw [this];omega
   simp only [binOp,Op.stringOp,this,if_false,Sem.run_pure]
  ·cases hz
 all_goals
  refine ⟨_,?_,RepP.bool _⟩
  simp [binOp,Op.stringOp,Zd0,Zhf]
def ZyL (op:BinOp) (o:Oper) (s:SOp) (nt:Nat):Bool:=
 Zep o s nt && match o.op with
 | .binOp op' _ x y _=>ok2 x y s && op'==op
 | _=>false
def Ztf (h:St g e a w) {o:Oper} {s:SOp} {op:BinOp} (hk:s.kind= .bin op) (ho:ZyL op o s g.nt=true) (hd:doOp F s e=some e'):OpOut Pg o a w g e':=by
 unfold ZyL at ho
 rw [Yb] at ho
 refine ZbG h ho.1 hd fun d hx=>?_
 have ho2:=ho.2
 rw [hk] at hx
 split at ho2
 ·rename_i op' t x y t' hop
  rw [Yb,beq_iff_eq] at ho2
  obtain ⟨ho3,rfl⟩:=ho2
  obtain ⟨d1,d2,h1,h2,h3⟩:=Zfj h ho3
  rw [h1] at hx
  simp only [Zai] at hx
  unfold ZqA at hx
  split at hx
  ·rename_i px py heq
   simp only [Yf,and_true] at heq
   obtain ⟨rfl,rfl⟩:=heq
   split at hx
   ·rename_i z hz
    simp only [Zx5,and_true] at hx
    subst hx
    unfold pBin at hz
    split at hz
    ·rename_i k n k' n'
     split at hz
     ·rename_i hkk
      subst hkk
      obtain ⟨v,hr,hv⟩:=Ze6 (Pg:=Pg) (w:=w) hz t g
      have e1:=ZbB (h2 0)
      have e2:=ZbB (h3 0)
      refine ⟨v,?_,fun _=>hv⟩
      simp only [execOp,hop,e1,e2]
      rw [Zaa,Sem.run_bind]
      have:(eqGuard op' t x y (.int k n) (.int k n')).run Pg w= .ok () w:=by
       unfold eqGuard;cases op'<;>rfl
      rw [this,Result.andThen_ok,hr,Result.andThen_ok]
     ·split at hz
      ·rename_i hop'
       obtain rfl:op'= .shl:=by simpa using hop'
       unfold shlP at hz
       split at hz
       ·cases hz
       ·rename_i hy
        cases hz
        have e1:=ZbB (h2 0)
        have e2:=ZbB (h3 0)
        refine ⟨_,?_,fun _=>RepP.int k (k.wrap (n*2 ^ (min n'.toNat k.bits)))⟩
        simp only [execOp,hop,e1,e2]
        rw [Zaa,Sem.run_bind]
        have:(eqGuard .shl t x y (.int k n) (.int k' n')).run Pg w= .ok () w:=rfl
        rw [this,Result.andThen_ok]
        simp [binOp,Op.shift,hy]
      ·cases hz
    ·rename_i s1 s2
     obtain ⟨b1,e1,rfl⟩:=Zjw (h2 0)
     obtain ⟨b2,e2,rfl⟩:=Zjw (h3 0)
     obtain ⟨v,hr,hv⟩:=Ze0 (Pg:=Pg) (w:=w) hz t g
     refine ⟨v,?_,fun _=>hv⟩
     simp only [execOp,hop,e1,e2]
     rw [Zaa,Sem.run_bind]
     have:(eqGuard op' t x y (.string b1) (.string b2)).run Pg w= .ok () w:=by
      unfold eqGuard;cases op'<;>rfl
     rw [this,Result.andThen_ok,hr,Result.andThen_ok]
    ·cases hz
   ·cases hx
  ·cases hx
 ·cases ho2
def ZsU (Pg:Program) (op:BinOp) (o:Oper) (s:SOp) (nt:Nat):Bool:=
 Zep o s nt && match o.op with
 | .binOp op' t x y _=>ok2 x y s && op'==op && (match Pg.underlying t with|some .bool=>true|_=>false)
 | _=>false
def Zvb (h:St g e a w) {o:Oper} {s:SOp} {op:BinOp} (hk:s.kind= .binB op) (ho:ZsU Pg op o s g.nt=true) (hd:doOp F s e=some e'):OpOut Pg o a w g e':=by
 unfold ZsU at ho
 rw [Yb] at ho
 refine ZbG h ho.1 hd fun d hx=>?_
 have ho2:=ho.2
 rw [hk] at hx
 split at ho2
 ·rename_i op' t x y t' hop
  rw [Yb,Yb,beq_iff_eq] at ho2
  obtain ⟨⟨ho3,rfl⟩,ho4⟩:=ho2
  have hu:Pg.underlying t=some .bool:=by
   split at ho4
   ·assumption
   ·cases ho4
  obtain ⟨d1,d2,h1,h2,h3⟩:=Zfj h ho3
  rw [h1] at hx
  simp only [Zai] at hx
  unfold Zpd at hx
  split at hx
  ·rename_i p q heq
   simp only [Yf,and_true] at heq
   obtain ⟨rfl,rfl⟩:=heq
   have e1:=ZfF (h2 0)
   have e2:=ZfF (h3 0)
   have heqb:(Op.equal t (.bool p) (.bool q)).run Pg w= .ok (p==q) w:=run_equalIn_bool' w 9999 t p q hu
   split at hx
   ·simp only [Zx5,and_true] at hx
    subst hx
    refine ⟨.bool (p==q),?_,fun _=>RepP.bool _⟩
    simp only [execOp,hop,e1,e2]
    rw [Zaa,Sem.run_bind]
    have:(eqGuard .eql t x y (.bool p) (.bool q)).run Pg w= .ok () w:=rfl
    rw [this,Result.andThen_ok]
    simp [binOp,heqb]
   ·simp only [Zx5,and_true] at hx
    subst hx
    refine ⟨.bool (p !=q),?_,fun _=>RepP.bool _⟩
    simp only [execOp,hop,e1,e2]
    rw [Zaa,Sem.run_bind]
    have:(eqGuard .neq t x y (.bool p) (.bool q)).run Pg w= .ok () w:=rfl
    rw [this,Result.andThen_ok]
    simp [binOp,heqb,bne]
   ·cases hx
  ·cases hx
 ·cases ho2
def ZxF (o:Oper) (s:SOp) (nt:Nat):Bool:=
 Zep o s nt && match o.op with
 | .unOp .not _ x=>ok1 x s
 | _=>false
def Zxi (h:St g e a w) {o:Oper} {s:SOp} (hk:s.kind= .not) (ho:ZxF o s g.nt=true) (hd:doOp F s e=some e'):OpOut Pg o a w g e':=by
 unfold ZxF at ho
 rw [Yb] at ho
 refine ZbG h ho.1 hd fun d hx=>?_
 have ho2:=ho.2
 rw [hk] at hx
 split at ho2
 ·rename_i t x hop
  obtain ⟨d',h1,h2⟩:=ZdU h ho2
  rw [h1] at hx
  simp only [Zai] at hx
  unfold Zst at hx
  split at hx
  ·rename_i b heq
   simp only [Yf,and_true] at heq
   subst heq
   simp only [Zx5,and_true] at hx
   subst hx
   have e1:=ZfF (h2 0)
   exact ⟨.bool (!b),by simp [execOp,hop,e1,Op.unary],fun _=>RepP.bool _⟩
  ·cases hx
 ·cases ho2
def Zxv (o:Oper) (s:SOp) (nt:Nat):Bool:=
 Zep o s nt && match o.op with
 | .unOp .neg _ x=>ok1 x s
 | _=>false
def Zxx (h:St g e a w) {o:Oper} {s:SOp} (hk:s.kind= .neg) (ho:Zxv o s g.nt=true) (hd:doOp F s e=some e'):OpOut Pg o a w g e':=by
 unfold Zxv at ho
 rw [Yb] at ho
 refine ZbG h ho.1 hd fun d hx=>?_
 have ho2:=ho.2
 rw [hk] at hx
 split at ho2
 ·rename_i t x hop
  obtain ⟨d',h1,h2⟩:=ZdU h ho2
  rw [h1] at hx
  simp only [Zai] at hx
  unfold ZsM at hx
  split at hx
  ·rename_i k n heq
   simp only [Yf,and_true] at heq
   subst heq
   simp only [Zx5,and_true] at hx
   subst hx
   have e1:=ZbB (h2 0)
   exact ⟨.int k (k.wrap (0-n)),by simp [execOp,hop,e1,Op.unary,Op.intArith],fun _=>RepP.int _ _⟩
  ·cases hx
 ·cases ho2
def ZsZ (Pg:Program) (k:IntKind) (o:Oper) (s:SOp) (nt:Nat):Bool:=
 Zep o s nt && match o.op with
 | .convert t t' x=>ok1 x s && (match Pg.underlying t,Pg.underlying t' with|some _,some (.int k')=>k'==k|_,_=>false)
 | _=>false
def Zvu (h:St g e a w) {o:Oper} {s:SOp} {k:IntKind} (hk:s.kind= .conv k) (ho:ZsZ Pg k o s g.nt=true) (hd:doOp F s e=some e'):OpOut Pg o a w g e':=by
 unfold ZsZ at ho
 rw [Yb] at ho
 refine ZbG h ho.1 hd fun d hx=>?_
 have ho2:=ho.2
 rw [hk] at hx
 split at ho2
 ·rename_i t t' x hop
  rw [Yb] at ho2
  obtain ⟨o1,o2⟩:=ho2
  split at o2
  ·rename_i ds k' u1 u2
   simp at o2;subst o2
   obtain ⟨d',h1,h2⟩:=ZdU h o1
   rw [h1] at hx
   simp only [Zai] at hx
   unfold Znx at hx
   split at hx
   ·rename_i k n heq
    simp only [Yf,and_true] at heq
    subst heq
    simp only [Zx5,and_true] at hx
    subst hx
    have e1:=ZbB (h2 0)
    refine ⟨.int k' (k'.wrap n),?_,fun _=>RepP.int _ _⟩
    simp only [execOp,hop,e1]
    rw [Zaa]
    cases ds<;>simp [convert,run_underlying u1,run_underlying u2,Conv.intToInt]
   ·cases hx
  ·cases o2
 ·cases ho2
end each
def Zrx: ∀(x y:List Nat),eqS x y=(x==y)
 | [],[]=>rfl
 | [],_::_=>rfl
 | _::_,[]=>rfl
 | a::x,b::y=>by
   rw [eqS,Zrx x y,List.cons_beq_cons,show Nat.beq a b=(a==b) from by rw [Bool.eq_iff_iff,Nat.beq_eq,beq_iff_eq]]
def Zqj (Pg:Program) (t:TypeId):Bool:=
  (match Pg.underlying t with
    | some (.struct fs)=>(match fs.toList with
      | [f, g] => f.name != "_" && g.name != "_" && f.offset == 0 && g.offset == 1 && (match Pg.underlying f.type with | some (.int _) => true | _ => false) && (match Pg.underlying g.type with | some .string => true | _ => false)
      | _=>false)
    | _=>false) && !Pg.stoodInHeld t && !Pg.eqGuardType Pg.depth t
theorem ZhP {t : TypeId} (h : Zqj Pg t = true) : ∃ f g k, Pg.underlying t = some (.struct (Pg.fieldsOf t)) ∧ (Pg.fieldsOf t).toList = [f, g] ∧ f.name ≠ "_" ∧ g.name ≠ "_" ∧ f.offset = 0 ∧ g.offset = 1 ∧
    Pg.underlying f.type=some (.int k)∧Pg.underlying g.type=some .string∧Pg.stoodInHeld t=false∧Pg.eqGuardType Pg.depth t=false:=by
  unfold Zqj at h
  rw [Bool.and_eq_true,Bool.and_eq_true] at h
  obtain ⟨⟨h,h2⟩,h3⟩:=h
  split at h
  · rename_i fs hu
    split at h
    · rename_i f g hl
      simp only [Bool.and_eq_true,bne_iff_ne,beq_iff_eq] at h
      obtain ⟨⟨⟨⟨⟨a1,a2⟩,a3⟩,a4⟩,a5⟩,a6⟩:=h
      have e:Pg.fieldsOf t=fs:=by unfold Program.fieldsOf;rw [hu]
      split at a5
      · rename_i k hk
        split at a6
        · rename_i hs
          exact ⟨f,g,k,by rw [e];exact hu,by rw [e];exact hl,a1,a2,a3,a4,hk,hs,by simpa using h2,by simpa using h3⟩
        · cases a6
      · cases a5
    · cases h
  · cases h
def Zo1 {w:World} {t:TypeId} (h:Zqj Pg t=true) (k:IntKind) (a b:Int) (s s':ByteArray):
  (Op.equalIn 10000 t (.agg #[.int k a,.string s]) (.agg #[.int k b,.string s'])).run Pg w= .ok (a==b && s.toList==s'.toList) w:=by
 obtain ⟨f,g,k',h1,h2,h3,h4,h5,h6,h7,h8,h9,_⟩:=ZhP h
 rw [run_equalIn_agg w 9999 t _ _ h1 h9,h2]
 have p1: ∀(x:Int) (y:ByteArray),(part f.type #[.int k x,.string y] f.offset).run Pg w= .ok (.int k x) w:=fun x y=>by
  rw [h5];simp [part,isAgg,run_underlying h7]
 have p2: ∀(x:Int) (y:ByteArray),(part g.type #[.int k x,.string y] g.offset).run Pg w= .ok (.string y) w:=fun x y=>by
  rw [h6];simp [part,isAgg,run_underlying h8]
 have q1:(Op.equalIn 9999 f.type (.int k a) (.int k b)).run Pg w= .ok (a==b) w:=run_equalIn_int w 9998 f.type k k' a b h7
 have q2:(Op.equalIn 9999 g.type (.string s) (.string s')).run Pg w= .ok (s.toList==s'.toList) w:=run_equalIn_string w 9998 g.type s s' h8
 simp only [Op.eqFields,h3,h4,ne_eq,not_false_eq_true,if_true,Sem.run_bind,p1,p2,q1,q2,Result.andThen_ok]
 cases hab:a==b
 ·simp
 ·simp only [Bool.not_true,Yw,if_false,Sem.run_bind,p2,q2,Result.andThen_ok,Bool.true_and]
  cases s.toList==s'.toList<;>simp
def ZrB (Pg:Program) (o:Oper) (s:SOp) (nt:Nat):Bool:=
 Zep o s nt && match o.op with
 | .binOp op' t x y _=>ok2 x y s && op'== .neq && Zqj Pg t
 | _=>false
theorem Zor {g:G} {w:World} {k:Nat} {v:Value} {i:IntKind} {n:Int} {t:List Nat} (h:RepD g w k v (.a (.agg [.p (.int i n),.p (.str t)]))): ∃bs,v= .agg #[.int i n,.string bs]/\Zax bs=t:=by
 obtain ⟨vs,rfl,hl,hr⟩:=h
 obtain ⟨l⟩:=vs
 match l,hl,hr with
 | [u,v],_,hr=>
   have h1:RepP g.pr w u (.int i n):=hr 0 u _ rfl rfl
   have h2:RepP g.pr w v (.str t):=hr 1 v _ rfl rfl
   cases h1
   cases h2 with
   | str bs _ h=>exact ⟨bs,rfl,h⟩
def Zt7 {F:Zae} {g:G} {e e':Env} {a:Act} {w:World} (h:St g e a w) {o:Oper} {s:SOp} (hk:s.kind= .neqS) (ho:ZrB Pg o s g.nt=true) (hd:doOp F s e=some e'):OpOut Pg o a w g e':=by
 unfold ZrB at ho
 rw [Yb] at ho
 refine ZbG h ho.1 hd fun d hx=>?_
 have ho2:=ho.2
 rw [hk] at hx
 split at ho2
 ·rename_i op' t x y t' hop
  rw [Yb,Yb,beq_iff_eq] at ho2
  obtain ⟨⟨ho3,rfl⟩,ho4⟩:=ho2
  obtain ⟨d1,d2,h1,h2,h3⟩:=Zfj h ho3
  rw [h1] at hx
  simp only [Zai] at hx
  unfold Zoa at hx
  split at hx
  ·rename_i k n s1 k' n' s2 heq
   simp only [Yf,and_true] at heq
   obtain ⟨rfl,rfl⟩:=heq
   split at hx
   ·rename_i hkk
    subst hkk
    simp only [Zx5,and_true] at hx
    subst hx
    obtain ⟨b1,e1,hb1⟩:=Zor (h2 0)
    obtain ⟨b2,e2,hb2⟩:=Zor (h3 0)
    refine ⟨.bool (n !=n'||s1 !=s2),?_,fun _=>RepP.bool _⟩
    simp only [execOp,hop,e1,e2]
    rw [Zaa,Sem.run_bind]
    rw [run_eqGuard_agg w .neq t x y _ _ (ZhP ho4).choose_spec.choose_spec.choose_spec.2.2.2.2.2.2.2.2.2,Result.andThen_ok,run_neq_struct,Zo1 ho4,Result.andThen_ok]
    have h4:(Zax b1==Zax b2)=(b1.toList==b2.toList):=by rw [<-Zd0];exact (Zrx _ _).symm
    show Result.ok (Next.value (.bool !(n==n' && b1.toList==b2.toList))) w=_
    rw [<-hb1,<-hb2,<-h4]
    cases h5:n==n'<;>cases h6:Zax b1==Zax b2<;>simp [bne,h5,h6]
   ·cases hx
  ·cases hx
 ·cases ho2
end Go.Am
end
section
namespace Go.Am
variable [WI]
variable {Pg:Program}
section each
variable {F:Zae} {g:G} {e e':Env} {a:Act} {w:World}
def Zxc (Pg:Program) (o:Oper) (s:SOp) (nt:Nat):Bool:=
 Zep o s nt && match o.op with
 | .call c=>(match c.callee,c.args.toList,c.argTypes.toList with
   | .builtin .len,[x],t::_=>ok1 x s && (match Pg.underlying t with|some (.slice _)=>true|_=>false)
   | _,_,_=>false)
 | _=>false
def ZsN (Pg:Program) (o:Oper) (s:SOp) (nt:Nat):Bool:=
 Zep o s nt && match o.op with
 | .call c=>(match c.callee,c.args.toList,c.argTypes.toList with
   | .builtin .len,[x],t::_=>ok1 x s && (match Pg.underlying t with|some .string=>true|_=>false)
   | _,_,_=>false)
 | _=>false
def Zu7 (h:St g e a w) {o:Oper} {s:SOp} (hk:s.kind= .lenS) (ho:ZsN Pg o s g.nt=true) (hd:doOp F s e=some e'):OpOut Pg o a w g e':=by
 unfold ZsN at ho
 rw [Yb] at ho
 refine ZbG h ho.1 hd fun d hx=>?_
 have ho2:=ho.2
 rw [hk] at hx
 split at ho2
 ·rename_i c hop
  split at ho2
  ·rename_i x t ts hc ha ht
   rw [Yb] at ho2
   have hu:Pg.underlying t=some .string:=by
    have:=ho2.2
    split at this
    ·assumption
    ·cases this
   obtain ⟨d',h1,h2⟩:=ZdU h ho2.1
   rw [h1] at hx
   simp only [Zai] at hx
   unfold Znj at hx
   split at hx
   ·rename_i tx heq
    simp only [Yf,and_true] at heq
    subst heq
    simp only [Zx5,and_true] at hx
    subst hx
    obtain ⟨bs,hv,rfl⟩:=Zjw (h2 0)
    refine ⟨.int .i64 (Zax bs).length,?_,fun k=>RepP.int _ _⟩
    obtain ⟨callee,args,argTypes⟩:=c
    obtain ⟨args⟩:=args
    obtain ⟨argTypes⟩:=argTypes
    simp only at hc ha ht
    subst hc;subst ha;subst ht
    simp [execOp,hop,resolve,invoke,builtin,Builtin.len_,run_underlying hu,hv,goInt,Zaq]
   ·cases hx
  ·cases ho2
 ·cases ho2
def Zxl (h:St g e a w) {o:Oper} {s:SOp} (hk:s.kind= .len) (ho:Zxc Pg o s g.nt=true) (hd:doOp F s e=some e'):OpOut Pg o a w g e':=by
 unfold Zxc at ho
 rw [Yb] at ho
 refine ZbG h ho.1 hd fun d hx=>?_
 have ho2:=ho.2
 rw [hk] at hx
 split at ho2
 ·rename_i c hop
  split at ho2
  ·rename_i x t ts hc ha ht
   rw [Yb] at ho2
   obtain ⟨el,hu⟩: ∃el,Pg.underlying t=some (.slice el):=by
    have:=ho2.2
    split at this
    ·exact ⟨_,by assumption⟩
    ·cases this
   obtain ⟨d',h1,h2⟩:=ZdU h ho2.1
   rw [h1] at hx
   simp only [Zai] at hx
   unfold Zs0 at hx
   have key: ∀(n:Nat) (ad:Option Addr) (cap:Nat),a.eval x= .slice ad n cap-> ∃v,(execOp a.eval o).run Pg w= .ok (.value v) w/\ ∀k,RepD g w k v (one (.int .i64 n)):=by
    intro n ad cap hv
    refine ⟨.int .i64 n,?_,fun k=>RepP.int _ _⟩
    obtain ⟨callee,args,argTypes⟩:=c
    obtain ⟨args⟩:=args
    obtain ⟨argTypes⟩:=argTypes
    simp only at hc ha ht
    subst hc;subst ha;subst ht
    simp [execOp,hop,resolve,invoke,builtin,Builtin.len_,run_underlying hu,hv,goInt]
   split at hx
   ·rename_i r s' n heq
    simp only [Yf,and_true] at heq
    subst heq
    simp only [Zx5,and_true] at hx
    subst hx
    obtain ⟨cap,hv,_⟩:=h2 0
    exact key n _ cap hv
   ·rename_i n heq
    simp only [Yf,and_true] at heq
    subst heq
    simp only [Zx5,and_true] at hx
    subst hx
    obtain ⟨ad,cap,hv⟩:=h2 0
    exact key n _ cap hv
   ·rename_i y _ _ heq
    simp only [Yf,and_true] at heq
    subst heq
    split at hx
    ·rename_i s' rows hrows
     simp only [Zx5,and_true] at hx
     subst hx
     obtain ⟨ad,cap,hv,_⟩:=(Zex (h2 0) hrows).slice_inv
     exact key _ _ _ hv
    ·cases hx
   ·cases hx
  ·cases ho2
 ·cases ho2
def ZtA (b:Builtin) (o:Oper) (s:SOp) (nt:Nat):Bool:=
 Zep o s nt && match o.op with
 | .call c=>(match c.callee,c.args.toList with
   | .builtin b',[x,y]=>ok2 x y s && b'==b
   | _,_=>false)
 | _=>false
def ZxN (h:St g e a w) {o:Oper} {s:SOp} (hk:s.kind= .min2) (ho:ZtA .min o s g.nt=true) (hd:doOp F s e=some e'):OpOut Pg o a w g e':=by
 unfold ZtA at ho
 rw [Yb] at ho
 refine ZbG h ho.1 hd fun d hx=>?_
 have ho2:=ho.2
 rw [hk] at hx
 split at ho2
 ·rename_i c hop
  split at ho2
  ·rename_i b' x y hc ha
   rw [Yb,beq_iff_eq] at ho2
   obtain ⟨o1,rfl⟩:=ho2
   obtain ⟨d1,d2,h1,h2,h3⟩:=Zfj h o1
   rw [h1] at hx
   simp only [Zai] at hx
   unfold Zpy at hx
   split at hx
   ·rename_i k p k' q heq
    simp only [Yf,and_true] at heq
    obtain ⟨rfl,rfl⟩:=heq
    split at hx
    ·rename_i hkk
     subst hkk
     simp only [Zx5,and_true] at hx
     subst hx
     have e1:=ZbB (h2 0)
     have e2:=ZbB (h3 0)
     refine ⟨.int k (if q<p then q else p),?_,fun k=>RepP.int _ _⟩
     obtain ⟨callee,args,argTypes⟩:=c
     obtain ⟨args⟩:=args
     simp only at hc ha
     subst hc;subst ha
     simp [execOp,hop,resolve,invoke,builtin,Builtin.min_,Builtin.min2,e1,e2]
    ·cases hx
   ·cases hx
  ·cases ho2
 ·cases ho2
def ZxD (h:St g e a w) {o:Oper} {s:SOp} (hk:s.kind= .max2) (ho:ZtA .max o s g.nt=true) (hd:doOp F s e=some e'):OpOut Pg o a w g e':=by
 unfold ZtA at ho
 rw [Yb] at ho
 refine ZbG h ho.1 hd fun d hx=>?_
 have ho2:=ho.2
 rw [hk] at hx
 split at ho2
 ·rename_i c hop
  split at ho2
  ·rename_i b' x y hc ha
   rw [Yb,beq_iff_eq] at ho2
   obtain ⟨o1,rfl⟩:=ho2
   obtain ⟨d1,d2,h1,h2,h3⟩:=Zfj h o1
   rw [h1] at hx
   simp only [Zai] at hx
   unfold Zsd at hx
   split at hx
   ·rename_i k p k' q heq
    simp only [Yf,and_true] at heq
    obtain ⟨rfl,rfl⟩:=heq
    split at hx
    ·rename_i hkk
     subst hkk
     simp only [Zx5,and_true] at hx
     subst hx
     have e1:=ZbB (h2 0)
     have e2:=ZbB (h3 0)
     refine ⟨.int k (if q>p then q else p),?_,fun k=>RepP.int _ _⟩
     obtain ⟨callee,args,argTypes⟩:=c
     obtain ⟨args⟩:=args
     simp only at hc ha
     subst hc;subst ha
     simp [execOp,hop,resolve,invoke,builtin,Builtin.max_,Builtin.max2,e1,e2]
    ·cases hx
   ·cases hx
  ·cases ho2
 ·cases ho2
def Zn7 (Pg:Program) (t:TypeId) (f:Nat):Option Nat:=
 match Pg.underlying t with
 | some (.struct fs)=>match fs[f]? with
   | some fd=>match Pg.underlying fd.type with
     | some (.struct _)=>none
     | some (.array _ _)=>none
     | some _=>some fd.offset
     | none=>none
   | none=>none
 | _=>none
def Zk3 (Pg:Program) (off:Nat) (o:Oper) (s:SOp) (nt:Nat):Bool:=
 Zep o s nt && match o.op with
 | .field t x f=>ok1 x s && Zn7 Pg t f==some off
 | _=>false
def ZpH (h:St g e a w) {o:Oper} {s:SOp} {off:Nat} (hk:s.kind= .fieldV off) (ho:Zk3 Pg off o s g.nt=true) (hd:doOp F s e=some e'):OpOut Pg o a w g e':=by
 unfold Zk3 at ho
 rw [Yb] at ho
 refine ZbG h ho.1 hd fun d hx=>?_
 have ho2:=ho.2
 rw [hk] at hx
 split at ho2
 ·rename_i t x f hop
  rw [Yb,beq_iff_eq] at ho2
  obtain ⟨o1,o2⟩:=ho2
  obtain ⟨d',h1,h2⟩:=ZdU h o1
  rw [h1] at hx
  simp only [Zai] at hx
  unfold ZiG at hx
  split at hx
  ·rename_i cs heq
   simp only [Yf,and_true] at heq
   subst heq
   split at hx
   ·rename_i z hz
    simp only [Zx5,and_true] at hx
    subst hx
    obtain ⟨vs,hv,hl,hall⟩:=h2 0
    have hiv:off<vs.toList.length:=by have:=Zab hz;omega
    have hg:vs[off]? =some vs.toList[off]:=by rw [<-Array.getElem?_toList];exact Ya hiv
    unfold Zn7 at o2
    split at o2
    ·rename_i fs hu
     split at o2
     ·rename_i fd hf
      have hag: ∀w,(Go.isAgg fd.type).run Pg w= .ok false w:=fun w=>by
       split at o2
       ·cases o2
       ·cases o2
       ·rename_i d2 n1 n2 hu2
        simp only [Go.isAgg,Sem.run_bind,run_underlying hu2,Result.andThen_ok]
        cases d2<;>first|rfl|exact absurd rfl (n1 _)|exact absurd rfl (n2 _ _)
       ·cases o2
      have ho:fd.offset=off:=by
       split at o2<;>first|(cases o2;done)|(injection o2)
      refine ⟨vs.toList[off],?_,fun k=>?_⟩
      ·simp only [execOp,hop,hv]
       simp only [Instr.field,part,asAgg,Sem.run_bind,run_underlying hu,Result.andThen_ok,hf,Sem.run_pure,hag,ho,hg,Yw,if_false]
      ·exact hall off _ _ (Ya hiv) hz
     ·cases o2
    ·cases o2
   ·cases hx
  ·cases hx
 ·cases ho2
def Zir (i:Nat) (o:Oper) (s:SOp) (nt:Nat):Bool:=
 Zep o s nt && match o.op with
 | .extract x i'=>ok1 x s && i'==i
 | _=>false
def ZgX (h:St g e a w) {o:Oper} {s:SOp} {i:Nat} (hk:s.kind= .extract i) (ho:Zir i o s g.nt=true) (hd:doOp F s e=some e'):OpOut Pg o a w g e':=by
 unfold Zir at ho
 rw [Yb] at ho
 refine ZbG h ho.1 hd fun d hx=>?_
 have ho2:=ho.2
 rw [hk] at hx
 split at ho2
 · rename_i x i' hop
   rw [Yb,beq_iff_eq] at ho2
   obtain ⟨o1,rfl⟩:=ho2
   unfold ok1 at o1
   split at o1
   · rename_i y hins
     rw [hins] at hx
     simp only [Yp,List.map_nil,Zai] at hx
     unfold ZdT at hx
     split at hx
     · rename_i xs heq
       simp only [Yf,and_true] at heq
       split at hx
       · rename_i z hz
         simp only [Zx5,and_true] at hx
         subst hx
         have hrep:=ZaG h o1 0
         have hpl:(Zaw e [] y).plain=Zaw e [] y:=by
           cases y with
           | k n=>
             simp only [Zaw]
             cases e.get n with
             | undef=>rfl
             | a x=>cases x<;>simp [D.plain,A.plain,plain_plain]
             | tup xs=>
               simp only [List.elem_eq_mem,List.not_mem_nil,decide_false,Yw,if_false,D.plain,YL]
               congr 1
               apply YD
               intro x _
               cases x<;>simp [A.plain,plain_plain]
             | objs os=>rfl
           | c c=>simp [Zaw] at heq
         rw [heq] at hrep hpl
         obtain ⟨vs,hv,hl,hall⟩:=hrep
         have hi:=Zab hz
         have hiv:i'<vs.toList.length:=by omega
         refine ⟨vs.toList[i'],?_,fun k=>?_⟩
         · have hg:vs[i']? =some vs.toList[i']:=by
             rw [<-Array.getElem?_toList];exact Ya hiv
           simp [execOp,hop,hv,Instr.extract,hg]
         · have hA:=hall i' _ z (Ya hiv) hz
           have hzp:z.plain=z:=by
             simp only [D.plain,D.tup.injEq] at hpl
             have:=congrArg (fun l=>l[i']?) hpl
             simp only [Yn,hz,YN,Ye] at this
             exact this
           have:=hA.plain (k':=k) (c':=0)
           rw [hzp] at this
           exact this
       · cases hx
     · cases hx
   · cases o1
 · cases ho2
def Zjp {g:G} {e:Env} {a:Act} {w:World} (h:St g e a w): ∀(xs:List Operand) (ys:List Arg) (rs:List R),ZbZ xs ys=true->ZbV (ys.map (Zaw e []))=some rs->
   xs.map a.eval=rs.map (R.val g)
 | [],[],rs,_,hr=>by simp [ZbV] at hr;subst hr;rfl
 | x::xs,y::ys,rs,ho,hr=>by
   simp only [ZbZ,Yb] at ho
   simp only [Yp] at hr
   unfold ZbV at hr
   split at hr
   · rename_i heq;cases heq
   · rename_i r rest heq
     simp only [Yf] at heq
     obtain ⟨q1,q2⟩:=heq
     subst q2
     split at hr
     · rename_i rs' hrs
       cases hr
       have ih:=Zjp h xs ys rs' ho.2 hrs
       have hv:=ZaG h ho.1 0
       rw [q1] at hv
       rw [Yp,Yp,ih,Zh8 hv]
     · cases hr
   · cases hr
 | [],_::_,_,ho,_=>by cases ho
 | _::_,[],_,ho,_=>by cases ho
def ZfZ: ∀(xs:List Operand) (ys:List Arg),ZbZ xs ys=true->xs.length=ys.length
 | [],[],_=>rfl
 | _::xs,_::ys,h=>by
   simp only [ZbZ,Yb] at h
   simp [ZfZ xs ys h.2]
 | [],_::_,h=>by cases h
 | _::_,[],h=>by cases h
def Zhl (f first:Nat) (o:Oper) (s:SOp) (nt:Nat):Bool:=
 Zep o s nt && match o.op with
 | .makeFunc (.func f') fs cs=>f'==f && fs.size==first && ZbZ (fs.toList++cs.toList) s.ins
 | _=>false
def ZfP (h:St g e a w) {o:Oper} {s:SOp} {f first:Nat} (hk:s.kind= .makeFunc f first) (ho:Zhl f first o s g.nt=true) (hd:doOp F s e=some e'):OpOut Pg o a w g e':=by
 unfold Zhl at ho
 rw [Yb] at ho
 refine ZbG h ho.1 hd fun d hx=>?_
 have ho2:=ho.2
 rw [hk] at hx
 split at ho2
 ·rename_i f' fs cs hop
  simp only [Yb,beq_iff_eq] at ho2
  obtain ⟨⟨rfl,hfs⟩,o1⟩:=ho2
  simp only [Zai,Zd7] at hx
  split at hx
  ·rename_i rs hrs
   simp only [Zx5,and_true] at hx
   subst hx
   have hv:=Zjp h _ _ _ o1 hrs
   refine ⟨.func (.func f') (fs.map a.eval) (cs.map a.eval),by simp [execOp,hop,Instr.makeFunc],fun k=>?_⟩
   show _=_
   rw [YC] at hv
   have hl:fs.toList.length=first:=by simpa using hfs
   have e1:(rs.take first).map (R.val g)=fs.toList.map a.eval:=by
    rw [List.map_take,<-hv,List.take_append_of_le_length (by simp [hl]),Yg (by simp [hl])]
   have e2:(rs.drop first).map (R.val g)=cs.toList.map a.eval:=by
    rw [List.map_drop,<-hv,List.drop_append_of_le_length (by simp [hl]),List.drop_eq_nil_of_le (by simp [hl]),YP]
   rw [e1,e2]
   congr 1<;>(apply Array.ext';simp)
  ·cases hx
 ·cases ho2
end each
end Go.Am
end
