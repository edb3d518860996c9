/- Part. -/
import Derived.Test.YtcdjoaepciegnaaGreatDoorXbh
set_option maxRecDepth 999999
set_option maxHeartbeats 0
set_option linter.all false
section
namespace Go.Cm
open Go.Am (ZbJ)
attribute [local instance] wi0
variable {P:Program} {F:ZaQ} {e e2:Env} {h h':H} {ov:Option V}
def Zrf: ∀{a b:List Nat},Am.eqS a b=true->a=b
 | [],[],_=>rfl
 | x::a,y::b,h=>by
   simp only [Am.eqS,Yb] at h
   rw [Nat.eq_of_beq_eq_true h.1,Zrf h.2]
 | [],_::_,h=>by cases h
 | _::_,[],h=>by cases h
mutual
def eqV_eq: ∀{a b:V},eqV a b=true->a=b
  | .int k a,b,h=>by
    cases b<;>simp [eqV] at h
    rw [h.1,h.2]
  | .bool a,b,h=>by cases b<;>simp [eqV] at h;rw [h]
  | .str a,b,h=>by
    cases b<;>simp only [eqV] at h<;>first|cases h|skip
    rw [Zrf h]
  | .nilp,b,h=>by cases b<;>simp [eqV] at h;rfl
  | .ptr x y,b,h=>by
    cases b<;>simp [eqV] at h
    rw [h.1,h.2]
  | .nils,b,h=>by cases b<;>simp [eqV] at h;rfl
  | .sl a b c d e x,.sl a' b' c' d' e' x',h=>by
    simp only [eqV,Yb,beq_iff_eq] at h
    obtain ⟨⟨⟨⟨⟨h1,h2⟩,h3⟩,h4⟩,h5⟩,h6⟩:=h
    rw [Nat.eq_of_beq_eq_true h1,Nat.eq_of_beq_eq_true h2,Nat.eq_of_beq_eq_true h3,Nat.eq_of_beq_eq_true h4,Nat.eq_of_beq_eq_true h5,h6]
  | .sl a b c d e x,.int ..,h| .sl a b c d e x,.bool ..,h| .sl a b c d e x,.str ..,h| .sl a b c d e x,.nilp,h| .sl a b c d e x,.ptr ..,h| .sl a b c d e x,.nils,h| .sl a b c d e x,.emp,h| .sl a b c d e x,.nilm,h| .sl a b c d e x,.map ..,h
  | .sl a b c d e x,.nilf,h| .sl a b c d e x,.nili,h| .sl a b c d e x,.fn ..,h| .sl a b c d e x,.agg ..,h| .sl a b c d e x,.tup ..,h=>by simp [eqV] at h
  | .emp,b,h=>by cases b<;>simp [eqV] at h;rfl
  | .nilm,b,h=>by cases b<;>simp [eqV] at h;rfl
  | .map a,b,h=>by cases b<;>simp [eqV] at h;rw [h]
  | .nilf,b,h=>by cases b<;>simp [eqV] at h;rfl
  | .nili,b,h=>by cases b<;>simp [eqV] at h;rfl
  | .fn f x y,b,h=>by
    cases b<;>simp only [eqV,Yb] at h<;>first|(cases h;done)|skip
    obtain ⟨⟨h1,h2⟩,h3⟩:=h
    rw [Nat.eq_of_beq_eq_true h1,eqVs_eq h2,eqVs_eq h3]
  | .agg a,b,h=>by
    cases b<;>simp only [eqV] at h<;>first|cases h|skip
    rw [eqVs_eq h]
  | .tup a,b,h=>by
    cases b<;>simp only [eqV] at h<;>first|cases h|skip
    rw [eqVs_eq h]
def eqVs_eq: ∀{a b:List V},eqVs a b=true->a=b
  | [],b,h=>by cases b<;>simp [eqVs] at h;rfl
  | x::a,b,h=>by
    cases b with
    | nil=>simp [eqVs] at h
    | cons y b=>
      simp only [eqVs,Yb] at h
      rw [eqV_eq h.1,eqVs_eq h.2]
end
def ZMH {v:V} {o:Option V} (h:eqOV v o=true):o=some v:=by
 cases o with
 | none=>cases h
 | some y=>rw [eqV_eq (show eqV v y=true from h)]
def ZMk {x:Option O} {o:O} (h:eqOb x o=true):x=some o:=by
 unfold eqOb at h
 split at h
 ·simp only [Yb] at h
  obtain ⟨⟨⟨h1,h2⟩,h3⟩,h4⟩:=h
  rw [eqVs_eq h1,Nat.eq_of_beq_eq_true h2,Nat.eq_of_beq_eq_true h3,eq_of_beq h4]
 ·rw [Nat.eq_of_beq_eq_true h]
 ·cases h
def ZMA {x y:Option (Nat×Nat)} (h:eqTy x y=true):x=y:=by
 unfold eqTy at h
 split at h
 ·rfl
 ·simp only [Yb] at h
  rw [Nat.eq_of_beq_eq_true h.1,Nat.eq_of_beq_eq_true h.2]
 ·cases h
def Agr (e e2:Env) (l:List Operand):Prop:= ∀x∈l,ev e x=ev e2 x
def Agr.of {l:List Operand} (ht: ∀t∈ZIp l,e.get t=e2.get t):Agr e e2 l:=by
 induction l with
 | nil=>intro x hx;cases hx
 | cons y l ih=>
   intro x hx
   have hl: ∀t∈ZIp l,e.get t=e2.get t:=fun t h=>ht t (by cases y<;>simp [ZIp,h])
   rcases List.mem_cons.1 hx with rfl|hx
   · cases x with
     | tmp t=>exact ht t (by simp [ZIp])
     | _=>rfl
   · exact ih hl x hx
def ZIo: ∀{xs:List Operand},Agr e e2 xs->evs e xs=evs e2 xs
 | [],_=>rfl
 | x::xs,h=>by simp only [evs,h x Zs,ZIo (xs:=xs) fun y hy=>h y (Yk _ hy)]
def ZHQ: ∀{ps:List (Nat×Operand)},Agr e e2 (ps.map (·.2))->ZIN e ps=ZIN e2 ps
 | [],_=>rfl
 | (i,x)::ps,h=>by simp only [ZIN,h x Zs,ZHQ (ps:=ps) fun y hy=>h y (Yk _ hy)]
def ZH2 {x:Option Operand} (h:Agr e e2 x.toList):optV e x=optV e2 x:=by
 cases x with
 | none=>rfl
 | some x=>simp only [optV,h x Zs]
def ZH1 {op:Op} (h:Agr e e2 (ZHl op)):mkV P e op=mkV P e2 op:=by
 cases op with
 | alloc el=>rfl
 | box t x=>simp only [mkV,h x (by simp [ZHl])]
 | buildSlice t n ps=>simp only [mkV,ZHQ (show Agr e e2 (ps.toList.map (·.2)) from h)]
 | makeMap t r=>simp only [mkV,ZH2 (show Agr e e2 r.toList from h)]
 | makeSlice t l c=>simp only [mkV,h l (by simp [ZHl]),h c (by simp [ZHl])]
 | _=>rfl
def ZK6 {op:Op} (ha:Agr e e2 (ZHl op)):opV P F e h op=opV P F e2 h op:=by
 cases op with
 | move x=>simp only [opV,ha x (by simp [ZHl])]
 | assign x=>simp only [opV,ha x (by simp [ZHl])]
 | pick c x y=>simp only [opV,ha c (by simp [ZHl]),ha x (by simp [ZHl]),ha y (by simp [ZHl])]
 | alloc el=>rfl
 | box t x=>simp only [opV,ZH1 ha]
 | build t ps=>simp only [opV,ZHQ (show Agr e e2 (ps.toList.map (·.2)) from ha)]
 | buildSlice t n ps=>simp only [opV,ZH1 ha]
 | load t x=>simp only [opV,ha x (by simp [ZHl])]
 | store t x y=>simp only [opV,ha x (by simp [ZHl]),ha y (by simp [ZHl])]
 | nilCheck x=>simp only [opV,ha x (by simp [ZHl])]
 | binOp op t x y t'=>simp only [opV,ha x (by simp [ZHl]),ha y (by simp [ZHl])]
 | unOp op t x=>simp only [opV,ha x (by simp [ZHl])]
 | convert s d x=>simp only [opV,ha x (by simp [ZHl])]
 | makeFunc f x y=>
   cases f with
   | func f=>
     have h1:evs e x.toList=evs e2 x.toList:=ZIo fun z hz=>ha z (by simp [ZHl] at hz⊢;exact .inl hz)
     have h2:evs e y.toList=evs e2 y.toList:=ZIo fun z hz=>ha z (by simp [ZHl] at hz⊢;exact .inr hz)
     simp only [opV,h1,h2]
   | _=>rfl
 | makeMap t r=>simp only [opV,ZH1 ha]
 | makeSlice t l c=>simp only [opV,ZH1 ha]
 | slice t x lo hi mx=>
   have h1:optV e lo=optV e2 lo:=ZH2 fun z hz=>ha z (by simp [ZHl] at hz⊢;simp [hz])
   have h2:optV e hi=optV e2 hi:=ZH2 fun z hz=>ha z (by simp [ZHl] at hz⊢;simp [hz])
   have h3:optV e mx=optV e2 mx:=ZH2 fun z hz=>ha z (by simp [ZHl] at hz⊢;simp [hz])
   simp only [opV,ha x (by simp [ZHl]),h1,h2,h3]
 | fieldAddr t x f=>simp only [opV,ha x (by simp [ZHl])]
 | field t x f=>simp only [opV,ha x (by simp [ZHl])]
 | indexAddr t x i=>simp only [opV,ha x (by simp [ZHl]),ha i (by simp [ZHl])]
 | index t x i=>simp only [opV,ha x (by simp [ZHl]),ha i (by simp [ZHl])]
 | lookup t x i ok=>simp only [opV,ha x (by simp [ZHl]),ha i (by simp [ZHl])]
 | mapUpdate t m k x=>simp only [opV,ha m (by simp [ZHl]),ha k (by simp [ZHl]),ha x (by simp [ZHl])]
 | insert t m k x=>simp only [opV,ha m (by simp [ZHl]),ha k (by simp [ZHl]),ha x (by simp [ZHl])]
 | range t x=>simp only [opV,ha x (by simp [ZHl])]
 | next x isS=>simp only [opV,ha x (by simp [ZHl])]
 | entry x=>simp only [opV,ha x (by simp [ZHl])]
 | extract t i=>simp only [opV,ha t (by simp [ZHl])]
 | call c=>
   have h1:evs e c.args.toList=evs e2 c.args.toList:=ZIo fun z hz=>ha z (by simp only [ZHl,Ys];exact .inr hz)
   simp only [opV,h1]
   cases hc:c.callee with
   | value f=>
     have h2:=ha f (by simp [ZHl,hc])
     cases evs e2 c.args.toList with
     | none=>rfl
     | some args=>simp only [h2]
   | _=>cases evs e2 c.args.toList<;>rfl
 | _=>rfl
def ZKp {op:Op} (hc:ZIh op=0) (hx:opV P F e h op=some (ov,h')):h'=h/\ ∀h2,opV P F e h2 op=some (ov,h2):=by
 cases op with
 | move x=>
   simp only [opV] at hx⊢
   repeat' split at hx
   all_goals first
     | (cases hx;done)
     | (simp only [Ye,YL] at hx;obtain ⟨rfl,rfl⟩:=hx;exact ⟨rfl,fun _=>by simp_all⟩)
     | (simp only [YF,YL] at hx;obtain ⟨v,h1,rfl,rfl⟩:=hx;exact ⟨rfl,fun _=>by simp_all⟩)
 | assign x=>
   simp only [opV] at hx⊢
   repeat' split at hx
   all_goals first
     | (cases hx;done)
     | (simp only [Ye,YL] at hx;obtain ⟨rfl,rfl⟩:=hx;exact ⟨rfl,fun _=>by simp_all⟩)
     | (simp only [YF,YL] at hx;obtain ⟨v,h1,rfl,rfl⟩:=hx;exact ⟨rfl,fun _=>by simp_all⟩)
 | pick c x y=>
   simp only [opV] at hx⊢
   repeat' split at hx
   all_goals first
     | (cases hx;done)
     | (simp only [Ye,YL] at hx;obtain ⟨rfl,rfl⟩:=hx;exact ⟨rfl,fun _=>by simp_all⟩)
     | (simp only [YF,YL] at hx;obtain ⟨v,h1,rfl,rfl⟩:=hx;exact ⟨rfl,fun _=>by simp_all⟩)
 | build t ps=>
   simp only [opV] at hx⊢
   repeat' split at hx
   all_goals first
     | (cases hx;done)
     | (simp only [Ye,YL] at hx;obtain ⟨rfl,rfl⟩:=hx;exact ⟨rfl,fun _=>by simp_all⟩)
     | (simp only [YF,YL] at hx;obtain ⟨v,h1,rfl,rfl⟩:=hx;exact ⟨rfl,fun _=>by simp_all⟩)
 | nilCheck x=>
   simp only [opV] at hx⊢
   repeat' split at hx
   all_goals first
     | (cases hx;done)
     | (simp only [Ye,YL] at hx;obtain ⟨rfl,rfl⟩:=hx;exact ⟨rfl,fun _=>by simp_all⟩)
     | (simp only [YF,YL] at hx;obtain ⟨v,h1,rfl,rfl⟩:=hx;exact ⟨rfl,fun _=>by simp_all⟩)
 | binOp op t x y t'=>
   simp only [opV] at hx⊢
   repeat' split at hx
   all_goals first
     | (cases hx;done)
     | (simp only [Ye,YL] at hx;obtain ⟨rfl,rfl⟩:=hx;exact ⟨rfl,fun _=>by simp_all⟩)
     | (simp only [YF,YL] at hx;obtain ⟨v,h1,rfl,rfl⟩:=hx;exact ⟨rfl,fun _=>by simp_all⟩)
 | unOp op t x=>
   simp only [opV] at hx⊢
   repeat' split at hx
   all_goals first
     | (cases hx;done)
     | (simp only [Ye,YL] at hx;obtain ⟨rfl,rfl⟩:=hx;exact ⟨rfl,fun _=>by simp_all⟩)
     | (simp only [YF,YL] at hx;obtain ⟨v,h1,rfl,rfl⟩:=hx;exact ⟨rfl,fun _=>by simp_all⟩)
 | slice t x lo hi mx=>
   simp only [opV] at hx⊢
   repeat' split at hx
   all_goals first
     | (cases hx;done)
     | (simp only [Ye,YL] at hx;obtain ⟨rfl,rfl⟩:=hx;exact ⟨rfl,fun _=>by simp_all⟩)
     | (simp only [YF,YL] at hx;obtain ⟨v,h1,rfl,rfl⟩:=hx;exact ⟨rfl,fun _=>by simp_all⟩)
 | fieldAddr t x f=>
   simp only [opV] at hx⊢
   repeat' split at hx
   all_goals first
     | (cases hx;done)
     | (simp only [Ye,YL] at hx;obtain ⟨rfl,rfl⟩:=hx;exact ⟨rfl,fun _=>by simp_all⟩)
     | (simp only [YF,YL] at hx;obtain ⟨v,h1,rfl,rfl⟩:=hx;exact ⟨rfl,fun _=>by simp_all⟩)
 | field t x f=>
   simp only [opV] at hx⊢
   repeat' split at hx
   all_goals first
     | (cases hx;done)
     | (simp only [Ye,YL] at hx;obtain ⟨rfl,rfl⟩:=hx;exact ⟨rfl,fun _=>by simp_all⟩)
     | (simp only [YF,YL] at hx;obtain ⟨v,h1,rfl,rfl⟩:=hx;exact ⟨rfl,fun _=>by simp_all⟩)
 | indexAddr t x i=>
   simp only [opV] at hx⊢
   repeat' split at hx
   all_goals first
     | (cases hx;done)
     | (simp only [Ye,YL] at hx;obtain ⟨rfl,rfl⟩:=hx;exact ⟨rfl,fun _=>by simp_all⟩)
     | (simp only [YF,YL] at hx;obtain ⟨v,h1,rfl,rfl⟩:=hx;exact ⟨rfl,fun _=>by simp_all⟩)
 | index t x i=>
   simp only [opV] at hx⊢
   repeat' split at hx
   all_goals first
     | (cases hx;done)
     | (simp only [Ye,YL] at hx;obtain ⟨rfl,rfl⟩:=hx;exact ⟨rfl,fun _=>by simp_all⟩)
     | (simp only [YF,YL] at hx;obtain ⟨v,h1,rfl,rfl⟩:=hx;exact ⟨rfl,fun _=>by simp_all⟩)
 | extract t i=>
   simp only [opV] at hx⊢
   repeat' split at hx
   all_goals first
     | (cases hx;done)
     | (simp only [Ye,YL] at hx;obtain ⟨rfl,rfl⟩:=hx;exact ⟨rfl,fun _=>by simp_all⟩)
     | (simp only [YF,YL] at hx;obtain ⟨v,h1,rfl,rfl⟩:=hx;exact ⟨rfl,fun _=>by simp_all⟩)
 | makeFunc f x y=>
   cases f with
   | func f=>
     simp only [opV] at hx⊢
     repeat' split at hx
     all_goals first
       | (cases hx;done)
       | (simp only [Ye,YL] at hx;obtain ⟨rfl,rfl⟩:=hx;exact ⟨rfl,fun _=>by simp_all⟩)
       | (simp only [YF,YL] at hx;obtain ⟨v,h1,rfl,rfl⟩:=hx;exact ⟨rfl,fun _=>by simp_all⟩)
   | _=>simp [opV] at hx
 | call c=>
   simp only [ZIh] at hc
   split at hc<;>cases hc
 | _=>simp [ZIh] at hc
def ZKO {op:Op} (hc:ZIh op=1) (hx:opV P F e h op=some (ov,h')):h'=h:=by
 cases op with
 | load t x=>
   simp only [opV] at hx
   split at hx
   · simp only [YF,YL] at hx;obtain ⟨_,_,_,rfl⟩:=hx;rfl
   · cases hx
 | convert s d x=>
   simp only [opV] at hx
   split at hx
   · simp only [YF,YL] at hx;obtain ⟨_,_,_,rfl⟩:=hx;rfl
   · cases hx
 | lookup t x i ok=>
   simp only [opV] at hx
   repeat' split at hx
   all_goals simp_all
 | entry x=>
   simp only [opV] at hx
   split at hx
   · simp only [YF,YL] at hx;obtain ⟨_,_,_,rfl⟩:=hx;rfl
   · cases hx
 | call c=>
   simp only [ZIh] at hc
   have key: ∀(b:Builtin) (ts:List TypeId) (vs:List V) (z:V) (h1:H),(b= .len∨b= .min∨b= .max∨b= .unsafeSliceData)->ZHS P b ts vs h=some (z,h1)->h1=h:=fun b ts vs z h1 hb hz=>by
     unfold ZHS at hz
     rcases hb with rfl|rfl|rfl|rfl<;>
     · split at hz
       · simp only [ZIW,YF,YL] at hz
         first|(obtain ⟨_,_,_,rfl⟩:=hz;rfl)|cases hz
       · simp only [ZIP,YF,YL] at hz
         first|(obtain ⟨_,_,_,rfl⟩:=hz;rfl)|cases hz
       · cases hz
   simp only [opV] at hx
   split at hc
   all_goals first|cases hc|skip
   all_goals
     rename_i hcal
     simp only [hcal] at hx
     split at hx
     · rename_i hh _;cases hh
     · rename_i b args hb hargs
       cases hb
       simp only [YF,YL] at hx
       obtain ⟨⟨z,h1⟩,hz,rfl,rfl⟩:=hx
       exact key _ _ _ _ _ Zs hz
     · cases hx
 | _=>simp [ZIh] at hc
def ZMe {op:Op} (hc:ZIh op=2):opV P F e h op=mkR h (mkV P e op):=by
 cases op with
 | alloc el=>rfl
 | box t x=>rfl
 | buildSlice t n ps=>rfl
 | makeMap t r=>rfl
 | makeSlice t l c=>rfl
 | call c=>
   simp only [ZIh] at hc
   split at hc<;>cases hc
 | _=>simp [ZIh] at hc
def ZHA (F:ZaQ):Prop:= ∀f args h v h',F f args h=some (v,h')->h.next<=h'.next
def ZJK {b o:Nat} {xs:List V} (hx:h.wr b o xs=some h'):h.next<=h'.next:=by
 unfold H.wr at hx
 repeat' split at hx
 all_goals first|cases hx|skip
 all_goals exact Yc _
def ZKA {t:TypeId} {b:Nat} {k x:V} (hx:ZKa P h t b k x=some h'):h.next<=h'.next:=by
 unfold ZKa at hx
 repeat' split at hx
 all_goals first|cases hx|skip
 all_goals exact Yc _
def ZMc {el s:Nat} {a x z:V} (hx:ZJX h el s a x=some (z,h')):h.next<=h'.next:=by
 unfold ZJX ZM3 at hx
 repeat' split at hx
 all_goals first|(cases hx;done)|skip
 all_goals first
    | (simp only [Ye,YL] at hx;obtain ⟨_,rfl⟩:=hx;first|exact Yc _|exact Nat.le_succ _|exact ZJK Za)
def ZME {b:Builtin} {ts:List TypeId} {vs:List V} {z:V} (hx:ZHS P b ts vs h=some (z,h')):h.next<=h'.next:=by
 unfold ZHS at hx
 split at hx
 ·unfold ZIW at hx
  split at hx
  ·simp only [YF,YL] at hx;obtain ⟨_,_,_,rfl⟩:=hx;exact Yc _
  ·simp only [YF,YL] at hx
   obtain ⟨h1,hc,_,rfl⟩:=hx
   unfold ZK2 at hc
   repeat' split at hc
   all_goals first|(cases hc;done)|(cases hc;exact Yc _)|exact ZJK hc
  ·simp only [YF,YL] at hx;obtain ⟨_,_,_,rfl⟩:=hx;exact Yc _
  ·cases hx
 ·unfold ZIP at hx
  split at hx
  ·split at hx
   ·unfold appV at hx
    repeat' split at hx
    all_goals first|(cases hx;done)|exact ZMc hx
   ·cases hx
  ·unfold ZMU at hx
   repeat' split at hx
   all_goals first|(cases hx;done)|skip
   all_goals first
        | (simp only [Ye,YL] at hx;obtain ⟨_,rfl⟩:=hx;first|exact Yc _|exact ZJK Za)
  ·simp only [YF,YL] at hx
   obtain ⟨h1,hc,_,rfl⟩:=hx
   unfold ZJO at hc
   repeat' split at hc
   all_goals first|(cases hc;done)|(cases hc;exact Yc _)
  ·simp only [YF,YL] at hx;obtain ⟨_,_,_,rfl⟩:=hx;exact Yc _
  ·simp only [YF,YL] at hx;obtain ⟨_,_,_,rfl⟩:=hx;exact Yc _
  ·split at hx
   ·unfold ZHV at hx
    repeat' split at hx
    all_goals first
          | (cases hx;done)
          | (cases hx;exact Yc _)
          | (simp only [YF,YL] at hx;obtain ⟨_,_,_,rfl⟩:=hx;exact Yc _)
   ·cases hx
  ·cases hx
 ·cases hx
def ZJA (hF:ZHA F) {op:Op} (hx:opV P F e h op=some (ov,h')):h.next<=h'.next:=by
 by_cases h0:ZIh op=0
 · rw [(ZKp h0 hx).1];exact Yc _
 by_cases h1:ZIh op=1
 · rw [ZKO h1 hx];exact Yc _
 by_cases h2:ZIh op=2
 · rw [ZMe h2] at hx
   simp only [mkR,YF,YL] at hx
   obtain ⟨_,_,_,rfl⟩:=hx
   exact Nat.le_succ _
 cases op with
 | store t x y=>
   simp only [opV] at hx
   split at hx
   · simp only [YF,YL] at hx
     obtain ⟨h1,hs,_,rfl⟩:=hx
     unfold ZLX at hs
     repeat' split at hs
     all_goals first|(cases hs;done)|exact ZJK hs
   · cases hx
 | mapUpdate t m k x=>
   simp only [opV] at hx
   split at hx
   · simp only [YF,YL] at hx
     obtain ⟨h1,hs,_,rfl⟩:=hx
     exact ZKA hs
   · cases hx
 | insert t m k x=>
   simp only [opV] at hx
   split at hx
   · simp only [YF,YL] at hx
     obtain ⟨h1,hs,_,rfl⟩:=hx
     exact ZKA hs
   · cases hx
 | range t x=>
   simp only [opV] at hx
   repeat' split at hx
   all_goals first|(cases hx;done)|(cases hx;exact Nat.le_succ _)
 | next x isS=>
   simp only [opV] at hx
   split at hx
   · simp only [YF,YL] at hx
     obtain ⟨⟨z,h1⟩,hs,_,rfl⟩:=hx
     unfold ZMR at hs
     repeat' (first|split at hs|(simp only at hs;split at hs))
     all_goals first|(cases hs;done)|(cases hs;exact Yc _)
   · cases hx
 | call c=>
   simp only [opV] at hx
   split at hx
   · split at hx
     · simp only [YF,YL] at hx
       obtain ⟨⟨z,h1⟩,hs,_,rfl⟩:=hx
       unfold ZM4 at hs
       split at hs
       · exact hF _ _ _ _ _ hs
       · cases hs
     · cases hx
   · simp only [YF,YL] at hx
     obtain ⟨⟨z,h1⟩,hs,_,rfl⟩:=hx
     exact ZME hs
   · cases hx
 | _=>first|(exact absurd rfl h0)|(exact absurd rfl h1)|(exact absurd rfl h2)|(simp [opV] at hx;done)
end Go.Cm
end
