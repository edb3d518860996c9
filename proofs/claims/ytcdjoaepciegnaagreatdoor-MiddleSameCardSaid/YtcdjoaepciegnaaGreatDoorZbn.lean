/- Part. -/
import Derived.Test.YtcdjoaepciegnaaGreatDoorZbl
import Derived.Orders
set_option maxRecDepth 999999
set_option maxHeartbeats 0
set_option linter.all false
section
namespace Go.Cm
open Go.Am (ZbJ)
attribute [local instance] wi0
variable {P:Program} {F:ZaQ} {e e2:Env} {h h':H} {ov:Option V}
def Zrf: ∀{a b:List Nat},Am.eqS a b=true->a=b
 | [],[],_=>rfl
 | x::a,y::b,h=>by
   simp only [Am.eqS,Yb] at h;rw [Nat.eq_of_beq_eq_true h.1,Zrf h.2]
 | [],_::_,h=>by cases h
 | _::_,[],h=>by cases h
mutual
def eqV_eq: ∀{a b:V},eqV a b=true->a=b
  | .int k a,b,h=>by
    cases b<;>simp [eqV] at h;rw [h.1,h.2]
  | .bool a,b,h=>by cases b<;>simp [eqV] at h;rw [h]
  | .str a,b,h=>by
    cases b<;>simp only [eqV] at h<;>first|cases h|skip
    rw [Zrf h]
  | .nilp,b,h=>by cases b<;>simp [eqV] at h;rfl
  | .ptr x y,b,h=>by
    cases b<;>simp [eqV] at h;rw [h.1,h.2]
  | .nils,b,h=>by cases b<;>simp [eqV] at h;rfl
  | .sl a b c d e x,.sl a' b' c' d' e' x',h=>by
    simp only [eqV,Yb,beq_iff_eq] at h;obtain ⟨⟨⟨⟨⟨h1,h2⟩,h3⟩,h4⟩,h5⟩,h6⟩:=h;rw [Nat.eq_of_beq_eq_true h1,Nat.eq_of_beq_eq_true h2,Nat.eq_of_beq_eq_true h3,Nat.eq_of_beq_eq_true h4,Nat.eq_of_beq_eq_true h5,h6]
  | .sl a b c d e x,.int ..,h| .sl a b c d e x,.bool ..,h| .sl a b c d e x,.str ..,h| .sl a b c d e x,.nilp,h| .sl a b c d e x,.ptr ..,h| .sl a b c d e x,.nils,h| .sl a b c d e x,.emp,h| .sl a b c d e x,.nilm,h| .sl a b c d e x,.map ..,h
  | .sl a b c d e x,.nilf,h| .sl a b c d e x,.nili,h| .sl a b c d e x,.fn ..,h| .sl a b c d e x,.agg ..,h| .sl a b c d e x,.tup ..,h=>by simp [eqV] at h
  | .emp,b,h=>by cases b<;>simp [eqV] at h;rfl
  | .nilm,b,h=>by cases b<;>simp [eqV] at h;rfl
  | .map a,b,h=>by cases b<;>simp [eqV] at h;rw [h]
  | .nilf,b,h=>by cases b<;>simp [eqV] at h;rfl
  | .nili,b,h=>by cases b<;>simp [eqV] at h;rfl
  | .fn f x y,b,h=>by
    cases b<;>simp only [eqV,Yb] at h<;>first|(cases h;done)|skip
    obtain ⟨⟨h1,h2⟩,h3⟩:=h;rw [Nat.eq_of_beq_eq_true h1,eqVs_eq h2,eqVs_eq h3]
  | .agg a,b,h=>by
    cases b<;>simp only [eqV] at h<;>first|cases h|skip
    rw [eqVs_eq h]
  | .tup a,b,h=>by
    cases b<;>simp only [eqV] at h<;>first|cases h|skip
    rw [eqVs_eq h]
def eqVs_eq: ∀{a b:List V},eqVs a b=true->a=b
  | [],b,h=>by cases b<;>simp [eqVs] at h;rfl
  | x::a,b,h=>by
    cases b with
    | nil=>simp [eqVs] at h
    | cons y b=>
      simp only [eqVs,Yb] at h;rw [eqV_eq h.1,eqVs_eq h.2]
end
def ZNL {v:V} {o:Option V} (h:eqOV v o=true):o=some v:=by
 cases o with
 | none=>cases h
 | some y=>rw [eqV_eq (show eqV v y=true from h)]
def ZNB {x:Option O} {o:O} (h:eqOb x o=true):x=some o:=by
 unfold eqOb at h;split at h
 ·simp only [Yb] at h;obtain ⟨⟨⟨h1,h2⟩,h3⟩,h4⟩:=h;rw [eqVs_eq h1,Nat.eq_of_beq_eq_true h2,Nat.eq_of_beq_eq_true h3,eq_of_beq h4]
 ·rw [Nat.eq_of_beq_eq_true h]
 ·cases h
def ZNH {x y:Option (Nat×Nat)} (h:eqTy x y=true):x=y:=by
 unfold eqTy at h;split at h
 ·rfl
 ·simp only [Yb] at h;rw [Nat.eq_of_beq_eq_true h.1,Nat.eq_of_beq_eq_true h.2]
 ·cases h
def Agr (e e2:Env) (l:List Operand):Prop:= ∀x∈l,ev e x=ev e2 x
def Agr.of {l:List Operand} (ht: ∀t∈ZJG l,e.get t=e2.get t):Agr e e2 l:=by
 induction l with
 | nil=>intro x hx;cases hx
 | cons y l ih=>
   intro x hx;have hl: ∀t∈ZJG l,e.get t=e2.get t:=fun t h=>ht t (by cases y<;>simp [ZJG,h]);rcases List.mem_cons.1 hx with rfl|hx
   · cases x with
     | tmp t=>exact ht t (by simp [ZJG])
     | _=>rfl
   · exact ih hl x hx
def ZJo: ∀{xs:List Operand},Agr e e2 xs->evs e xs=evs e2 xs
 | [],_=>rfl
 | x::xs,h=>by simp only [evs,h x Zs,ZJo (xs:=xs) fun y hy=>h y (Yk _ hy)]
def ZIP: ∀{ps:List (Nat×Operand)},Agr e e2 (ps.map (·.2))->ZJS e ps=ZJS e2 ps
 | [],_=>rfl
 | (i,x)::ps,h=>by simp only [ZJS,h x Zs,ZIP (ps:=ps) fun y hy=>h y (Yk _ hy)]
def ZI0 {x:Option Operand} (h:Agr e e2 x.toList):optV e x=optV e2 x:=by
 cases x with
 | none=>rfl
 | some x=>simp only [optV,h x Zs]
def ZI1 {op:Op} (h:Agr e e2 (ZH8 op)):mkV P e op=mkV P e2 op:=by
 cases op with
 | alloc el=>rfl
 | box t x=>simp only [mkV,h x (by simp [ZH8])]
 | buildSlice t n ps=>simp only [mkV,ZIP (show Agr e e2 (ps.toList.map (·.2)) from h)]
 | makeMap t r=>simp only [mkV,ZI0 (show Agr e e2 r.toList from h)]
 | makeSlice t l c=>simp only [mkV,h l (by simp [ZH8]),h c (by simp [ZH8])]
 | _=>rfl
def ZMk {op:Op} (ha:Agr e e2 (ZH8 op)):opV P F e h op=opV P F e2 h op:=by
 cases op with
 | move x=>simp only [opV,ha x (by simp [ZH8])]
 | assign x=>simp only [opV,ha x (by simp [ZH8])]
 | pick c x y=>simp only [opV,ha c (by simp [ZH8]),ha x (by simp [ZH8]),ha y (by simp [ZH8])]
 | alloc el=>rfl
 | box t x=>simp only [opV,ZI1 ha]
 | build t ps=>simp only [opV,ZIP (show Agr e e2 (ps.toList.map (·.2)) from ha)]
 | buildSlice t n ps=>simp only [opV,ZI1 ha]
 | load t x=>simp only [opV,ha x (by simp [ZH8])]
 | store t x y=>simp only [opV,ha x (by simp [ZH8]),ha y (by simp [ZH8])]
 | nilCheck x=>simp only [opV,ha x (by simp [ZH8])]
 | binOp op t x y t'=>simp only [opV,ha x (by simp [ZH8]),ha y (by simp [ZH8])]
 | unOp op t x=>simp only [opV,ha x (by simp [ZH8])]
 | convert s d x=>simp only [opV,ha x (by simp [ZH8])]
 | makeFunc f x y=>
   cases f with
   | func f=>
     have h1:evs e x.toList=evs e2 x.toList:=ZJo fun z hz=>ha z (by simp [ZH8] at hz⊢;exact .inl hz);have h2:evs e y.toList=evs e2 y.toList:=ZJo fun z hz=>ha z (by simp [ZH8] at hz⊢;exact .inr hz);simp only [opV,h1,h2]
   | _=>rfl
 | makeMap t r=>simp only [opV,ZI1 ha]
 | makeSlice t l c=>simp only [opV,ZI1 ha]
 | slice t x lo hi mx=>
   have h1:optV e lo=optV e2 lo:=ZI0 fun z hz=>ha z (by simp [ZH8] at hz⊢;simp [hz]);have h2:optV e hi=optV e2 hi:=ZI0 fun z hz=>ha z (by simp [ZH8] at hz⊢;simp [hz]);have h3:optV e mx=optV e2 mx:=ZI0 fun z hz=>ha z (by simp [ZH8] at hz⊢;simp [hz]);simp only [opV,ha x (by simp [ZH8]),h1,h2,h3]
 | fieldAddr t x f=>simp only [opV,ha x (by simp [ZH8])]
 | field t x f=>simp only [opV,ha x (by simp [ZH8])]
 | indexAddr t x i=>simp only [opV,ha x (by simp [ZH8]),ha i (by simp [ZH8])]
 | index t x i=>simp only [opV,ha x (by simp [ZH8]),ha i (by simp [ZH8])]
 | lookup t x i ok=>simp only [opV,ha x (by simp [ZH8]),ha i (by simp [ZH8])]
 | mapUpdate t m k x=>simp only [opV,ha m (by simp [ZH8]),ha k (by simp [ZH8]),ha x (by simp [ZH8])]
 | insert t m k x=>simp only [opV,ha m (by simp [ZH8]),ha k (by simp [ZH8]),ha x (by simp [ZH8])]
 | range t x=>simp only [opV,ha x (by simp [ZH8])]
 | next x isS=>simp only [opV,ha x (by simp [ZH8])]
 | entry x=>simp only [opV,ha x (by simp [ZH8])]
 | extract t i=>simp only [opV,ha t (by simp [ZH8])]
 | call c=>
   have h1:evs e c.args.toList=evs e2 c.args.toList:=ZJo fun z hz=>ha z (by simp only [ZH8,Ys];exact .inr hz);simp only [opV,h1];cases hc:c.callee with
   | value f=>
     have h2:=ha f (by simp [ZH8,hc]);cases evs e2 c.args.toList with
     | none=>rfl
     | some args=>simp only [h2]
   | _=>cases evs e2 c.args.toList<;>rfl
 | _=>rfl
def ZLO {op:Op} (hc:ZJg op=0) (hx:opV P F e h op=some (ov,h')):h'=h/\ ∀h2,opV P F e h2 op=some (ov,h2):=by
 cases op with
 | move x=>
   simp only [opV] at hx⊢
   repeat' split at hx
   all_goals first
     | (cases hx;done)
     | (simp only [Ye,YL] at hx;obtain ⟨rfl,rfl⟩:=hx;exact ⟨rfl,fun _=>by simp_all⟩)
     | (simp only [YF,YL] at hx;obtain ⟨v,h1,rfl,rfl⟩:=hx;exact ⟨rfl,fun _=>by simp_all⟩)
 | assign x=>
   simp only [opV] at hx⊢
   repeat' split at hx
   all_goals first
     | (cases hx;done)
     | (simp only [Ye,YL] at hx;obtain ⟨rfl,rfl⟩:=hx;exact ⟨rfl,fun _=>by simp_all⟩)
     | (simp only [YF,YL] at hx;obtain ⟨v,h1,rfl,rfl⟩:=hx;exact ⟨rfl,fun _=>by simp_all⟩)
 | pick c x y=>
   simp only [opV] at hx⊢
   repeat' split at hx
   all_goals first
     | (cases hx;done)
     | (simp only [Ye,YL] at hx;obtain ⟨rfl,rfl⟩:=hx;exact ⟨rfl,fun _=>by simp_all⟩)
     | (simp only [YF,YL] at hx;obtain ⟨v,h1,rfl,rfl⟩:=hx;exact ⟨rfl,fun _=>by simp_all⟩)
 | build t ps=>
   simp only [opV] at hx⊢
   repeat' split at hx
   all_goals first
     | (cases hx;done)
     | (simp only [Ye,YL] at hx;obtain ⟨rfl,rfl⟩:=hx;exact ⟨rfl,fun _=>by simp_all⟩)
     | (simp only [YF,YL] at hx;obtain ⟨v,h1,rfl,rfl⟩:=hx;exact ⟨rfl,fun _=>by simp_all⟩)
 | nilCheck x=>
   simp only [opV] at hx⊢
   repeat' split at hx
   all_goals first
     | (cases hx;done)
     | (simp only [Ye,YL] at hx;obtain ⟨rfl,rfl⟩:=hx;exact ⟨rfl,fun _=>by simp_all⟩)
     | (simp only [YF,YL] at hx;obtain ⟨v,h1,rfl,rfl⟩:=hx;exact ⟨rfl,fun _=>by simp_all⟩)
 | binOp op t x y t'=>
   simp only [opV] at hx⊢
   repeat' split at hx
   all_goals first
     | (cases hx;done)
     | (simp only [Ye,YL] at hx;obtain ⟨rfl,rfl⟩:=hx;exact ⟨rfl,fun _=>by simp_all⟩)
     | (simp only [YF,YL] at hx;obtain ⟨v,h1,rfl,rfl⟩:=hx;exact ⟨rfl,fun _=>by simp_all⟩)
 | unOp op t x=>
   simp only [opV] at hx⊢
   repeat' split at hx
   all_goals first
     | (cases hx;done)
     | (simp only [Ye,YL] at hx;obtain ⟨rfl,rfl⟩:=hx;exact ⟨rfl,fun _=>by simp_all⟩)
     | (simp only [YF,YL] at hx;obtain ⟨v,h1,rfl,rfl⟩:=hx;exact ⟨rfl,fun _=>by simp_all⟩)
 | slice t x lo hi mx=>
   simp only [opV] at hx⊢
   repeat' split at hx
   all_goals first
     | (cases hx;done)
     | (simp only [Ye,YL] at hx;obtain ⟨rfl,rfl⟩:=hx;exact ⟨rfl,fun _=>by simp_all⟩)
     | (simp only [YF,YL] at hx;obtain ⟨v,h1,rfl,rfl⟩:=hx;exact ⟨rfl,fun _=>by simp_all⟩)
 | fieldAddr t x f=>
   simp only [opV] at hx⊢
   repeat' split at hx
   all_goals first
     | (cases hx;done)
     | (simp only [Ye,YL] at hx;obtain ⟨rfl,rfl⟩:=hx;exact ⟨rfl,fun _=>by simp_all⟩)
     | (simp only [YF,YL] at hx;obtain ⟨v,h1,rfl,rfl⟩:=hx;exact ⟨rfl,fun _=>by simp_all⟩)
 | field t x f=>
   simp only [opV] at hx⊢
   repeat' split at hx
   all_goals first
     | (cases hx;done)
     | (simp only [Ye,YL] at hx;obtain ⟨rfl,rfl⟩:=hx;exact ⟨rfl,fun _=>by simp_all⟩)
     | (simp only [YF,YL] at hx;obtain ⟨v,h1,rfl,rfl⟩:=hx;exact ⟨rfl,fun _=>by simp_all⟩)
 | indexAddr t x i=>
   simp only [opV] at hx⊢
   repeat' split at hx
   all_goals first
     | (cases hx;done)
     | (simp only [Ye,YL] at hx;obtain ⟨rfl,rfl⟩:=hx;exact ⟨rfl,fun _=>by simp_all⟩)
     | (simp only [YF,YL] at hx;obtain ⟨v,h1,rfl,rfl⟩:=hx;exact ⟨rfl,fun _=>by simp_all⟩)
 | index t x i=>
   simp only [opV] at hx⊢
   repeat' split at hx
   all_goals first
     | (cases hx;done)
     | (simp only [Ye,YL] at hx;obtain ⟨rfl,rfl⟩:=hx;exact ⟨rfl,fun _=>by simp_all⟩)
     | (simp only [YF,YL] at hx;obtain ⟨v,h1,rfl,rfl⟩:=hx;exact ⟨rfl,fun _=>by simp_all⟩)
 | extract t i=>
   simp only [opV] at hx⊢
   repeat' split at hx
   all_goals first
     | (cases hx;done)
     | (simp only [Ye,YL] at hx;obtain ⟨rfl,rfl⟩:=hx;exact ⟨rfl,fun _=>by simp_all⟩)
     | (simp only [YF,YL] at hx;obtain ⟨v,h1,rfl,rfl⟩:=hx;exact ⟨rfl,fun _=>by simp_all⟩)
 | makeFunc f x y=>
   cases f with
   | func f=>
     simp only [opV] at hx⊢
     repeat' split at hx
     all_goals first
       | (cases hx;done)
       | (simp only [Ye,YL] at hx;obtain ⟨rfl,rfl⟩:=hx;exact ⟨rfl,fun _=>by simp_all⟩)
       | (simp only [YF,YL] at hx;obtain ⟨v,h1,rfl,rfl⟩:=hx;exact ⟨rfl,fun _=>by simp_all⟩)
   | _=>simp [opV] at hx
 | call c=>
   simp only [ZJg] at hc;split at hc<;>cases hc
 | _=>simp [ZJg] at hc
def ZLI {op:Op} (hc:ZJg op=1) (hx:opV P F e h op=some (ov,h')):h'=h:=by
 cases op with
 | load t x=>
   simp only [opV] at hx;split at hx
   · simp only [YF,YL] at hx;obtain ⟨_,_,_,rfl⟩:=hx;rfl
   · cases hx
 | convert s d x=>
   simp only [opV] at hx;split at hx
   · simp only [YF,YL] at hx;obtain ⟨_,_,_,rfl⟩:=hx;rfl
   · cases hx
 | lookup t x i ok=>
   simp only [opV] at hx;repeat' split at hx
   all_goals simp_all
 | entry x=>
   simp only [opV] at hx;split at hx
   · simp only [YF,YL] at hx;obtain ⟨_,_,_,rfl⟩:=hx;rfl
   · cases hx
 | call c=>
   simp only [ZJg] at hc;have key: ∀(b:Builtin) (ts:List TypeId) (vs:List V) (z:V) (h1:H),(b= .len∨b= .min∨b= .max∨b= .unsafeSliceData)->ZIN P b ts vs h=some (z,h1)->h1=h:=fun b ts vs z h1 hb hz=>by
     unfold ZIN at hz;rcases hb with rfl|rfl|rfl|rfl<;>
     · split at hz
       · simp only [ZJR,YF,YL] at hz
         first|(obtain ⟨_,_,_,rfl⟩:=hz;rfl)|cases hz
       · simp only [ZJV,YF,YL] at hz
         first|(obtain ⟨_,_,_,rfl⟩:=hz;rfl)|cases hz
       · cases hz
   simp only [opV] at hx;split at hc
   all_goals first|cases hc|skip
   all_goals
     rename_i hcal;simp only [hcal] at hx;split at hx
     · rename_i hh _;cases hh
     · rename_i b args hb hargs;cases hb;simp only [YF,YL] at hx;obtain ⟨⟨z,h1⟩,hz,rfl,rfl⟩:=hx;exact key _ _ _ _ _ Zs hz
     · cases hx
 | _=>simp [ZJg] at hc
def ZNj {op:Op} (hc:ZJg op=2):opV P F e h op=mkR h (mkV P e op):=by
 cases op with
 | alloc el=>rfl
 | box t x=>rfl
 | buildSlice t n ps=>rfl
 | makeMap t r=>rfl
 | makeSlice t l c=>rfl
 | call c=>
   simp only [ZJg] at hc;split at hc<;>cases hc
 | _=>simp [ZJg] at hc
def ZIu (F:ZaQ):Prop:= ∀f args h v h',F f args h=some (v,h')->h.next<=h'.next
def ZKK {b o:Nat} {xs:List V} (hx:h.wr b o xs=some h'):h.next<=h'.next:=by
 unfold H.wr at hx
 repeat' split at hx
 all_goals first|cases hx|skip
 all_goals exact Yc _
def ZLy {t:TypeId} {b:Nat} {k x:V} (hx:ZLk P h t b k x=some h'):h.next<=h'.next:=by
 unfold ZLk at hx
 repeat' split at hx
 all_goals first|cases hx|skip
 all_goals exact Yc _
def ZMS {el s:Nat} {a x z:V} (hx:ZKW h el s a x=some (z,h')):h.next<=h'.next:=by
 unfold ZKW ZOj at hx
 repeat' split at hx
 all_goals first|(cases hx;done)|skip
 all_goals first
    | (simp only [Ye,YL] at hx;obtain ⟨_,rfl⟩:=hx;first|exact Yc _|exact Nat.le_succ _|exact ZKK Za)
def ZNu {b:Builtin} {ts:List TypeId} {vs:List V} {z:V} (hx:ZIN P b ts vs h=some (z,h')):h.next<=h'.next:=by
 unfold ZIN at hx;split at hx
 ·unfold ZJR at hx;split at hx
  ·simp only [YF,YL] at hx;obtain ⟨_,_,_,rfl⟩:=hx;exact Yc _
  ·simp only [YF,YL] at hx;obtain ⟨h1,hc,_,rfl⟩:=hx;unfold ZL5 at hc
   repeat' split at hc
   all_goals first|(cases hc;done)|(cases hc;exact Yc _)|exact ZKK hc
  ·simp only [YF,YL] at hx;obtain ⟨_,_,_,rfl⟩:=hx;exact Yc _
  ·cases hx
 ·unfold ZJV at hx;split at hx
  ·split at hx
   ·unfold appV at hx
    repeat' split at hx
    all_goals first|(cases hx;done)|exact ZMS hx
   ·cases hx
  ·unfold ZN2 at hx
   repeat' split at hx
   all_goals first|(cases hx;done)|skip
   all_goals first
        | (simp only [Ye,YL] at hx;obtain ⟨_,rfl⟩:=hx;first|exact Yc _|exact ZKK Za)
  ·simp only [YF,YL] at hx;obtain ⟨h1,hc,_,rfl⟩:=hx;unfold ZKS at hc
   repeat' split at hc
   all_goals first|(cases hc;done)|(cases hc;exact Yc _)
  ·simp only [YF,YL] at hx;obtain ⟨_,_,_,rfl⟩:=hx;exact Yc _
  ·simp only [YF,YL] at hx;obtain ⟨_,_,_,rfl⟩:=hx;exact Yc _
  ·split at hx
   ·unfold ZI2 at hx
    repeat' split at hx
    all_goals first
          | (cases hx;done)
          | (cases hx;exact Yc _)
          | (simp only [YF,YL] at hx;obtain ⟨_,_,_,rfl⟩:=hx;exact Yc _)
   ·cases hx
  ·cases hx
 ·cases hx
def ZKC (hF:ZIu F) {op:Op} (hx:opV P F e h op=some (ov,h')):h.next<=h'.next:=by
 by_cases h0:ZJg op=0
 · rw [(ZLO h0 hx).1];exact Yc _
 by_cases h1:ZJg op=1
 · rw [ZLI h1 hx];exact Yc _
 by_cases h2:ZJg op=2
 · rw [ZNj h2] at hx;simp only [mkR,YF,YL] at hx;obtain ⟨_,_,_,rfl⟩:=hx;exact Nat.le_succ _
 cases op with
 | store t x y=>
   simp only [opV] at hx;split at hx
   · simp only [YF,YL] at hx;obtain ⟨h1,hs,_,rfl⟩:=hx;unfold ZMX at hs
     repeat' split at hs
     all_goals first|(cases hs;done)|exact ZKK hs
   · cases hx
 | mapUpdate t m k x=>
   simp only [opV] at hx;split at hx
   · simp only [YF,YL] at hx;obtain ⟨h1,hs,_,rfl⟩:=hx;exact ZLy hs
   · cases hx
 | insert t m k x=>
   simp only [opV] at hx;split at hx
   · simp only [YF,YL] at hx;obtain ⟨h1,hs,_,rfl⟩:=hx;exact ZLy hs
   · cases hx
 | range t x=>
   simp only [opV] at hx
   repeat' split at hx
   all_goals first|(cases hx;done)|(cases hx;exact Nat.le_succ _)
 | next x isS=>
   simp only [opV] at hx;split at hx
   · simp only [YF,YL] at hx;obtain ⟨⟨z,h1⟩,hs,_,rfl⟩:=hx;unfold ZNZ at hs
     repeat' (first|split at hs|(simp only at hs;split at hs))
     all_goals first|(cases hs;done)|(cases hs;exact Yc _)
   · cases hx
 | call c=>
   simp only [opV] at hx;split at hx
   · split at hx
     · simp only [YF,YL] at hx;obtain ⟨⟨z,h1⟩,hs,_,rfl⟩:=hx;unfold ZOb at hs;split at hs
       · exact hF _ _ _ _ _ hs
       · cases hs
     · cases hx
   · simp only [YF,YL] at hx;obtain ⟨⟨z,h1⟩,hs,_,rfl⟩:=hx;exact ZNu hs
   · cases hx
 | _=>first|(exact absurd rfl h0)|(exact absurd rfl h1)|(exact absurd rfl h2)|(simp [opV] at hx;done)
end Go.Cm
end
set_option maxRecDepth 999999
set_option maxHeartbeats 0
set_option linter.all false
section
namespace Go.Cm
attribute [local instance] wi0
variable {P:Program} {F:ZaQ} {ops:Array Oper} {nt:Nat} {e e':Env} {h h':H}
def Cl (ops:Array Oper) (L:Nat->Bool):Prop:= ∀(k:Nat) (o:Oper),ops[k]? =some o->L k=true-> ∀ed∈o.after,Region.binds .any ed=true->L ed.on=true
theorem ZMz (k j:Nat):(1<<<k).testBit j=decide (k=j):=by rw [Nat.one_shiftLeft,Nat.testBit_two_pow]
theorem ZJ8 (A:List Nat): ∀(l:List Edge) (m j:Nat),(l.foldl (ZOa A) m).testBit j=true->m.testBit j=true∨ ∃ed∈l,Region.binds .any ed=true/\(ed.on=j∨(A.getD ed.on 0).testBit j=true)
 | [],m,j,h=> .inl h
 | ed::l,m,j,h=>by
   simp only [List.foldl_cons] at h;rcases ZJ8 A l _ j h with h|⟨e',h1,h2,h3⟩
   · unfold ZOa at h;split at h
     · rename_i hb;simp only [Nat.testBit_or,Bool.or_eq_true,ZMz,decide_eq_true_eq] at h;rcases h with h|h|h
       · exact .inl h
       · exact .inr ⟨ed,by simp,hb,.inl h⟩
       · exact .inr ⟨ed,by simp,hb,.inr h⟩
     · exact .inl h
   · exact .inr ⟨e',by simp [h1],h2,h3⟩
structure Pl (ops:Array Oper):Prop where
 an: ∀i,i<ops.size->ZNl ops i=true
 rd: ∀i,i<ops.size->ZKJ ops i=true
 ds: ∀i j t,ZIE ops i=some t->ZIE ops j=some t->i=j
 ef: ∀(k j i x:Nat),j<k->(effs ops)[k]? =some i->(effs ops)[j]? =some x->(anc ops i).testBit x=true
 sc:ZNm ops (sch ops) 0=some (2 ^ ops.size-1)
 lt: ∀i∈sch ops,i<ops.size
 fi:(sch ops).filter (isE ops)=effs ops
theorem ZJ3 {i t:Nat} (h:ZIE ops i=some t):i<ops.size:=by
 unfold ZIE at h;cases ho:ops[i]? with
 | none=>rw [ho] at h;cases h
 | some o=>exact (Array.getElem?_eq_some_iff.1 ho).1
theorem ZK6 (hp:ZMY ops=true):Pl ops:=by
 unfold ZMY at hp;simp only [Yb,beq_iff_eq] at hp;obtain ⟨⟨⟨⟨h1,h2⟩,h3⟩,h4⟩,h5⟩:=hp;have h1': ∀i,i<ops.size->(ZNl ops i=true/\ZKJ ops i=true)/\ ∀j,j<i->((ZIE ops i).isNone||ZIE ops i !=ZIE ops j)=true:=fun i hi=>by
  have:=List.all_eq_true.1 h1 i (List.mem_range.2 hi);simp only [Yb] at this;exact ⟨this.1,fun j hj=>List.all_eq_true.1 this.2 j (List.mem_range.2 hj)⟩
 have hd: ∀i j t,j<i->ZIE ops i=some t->ZIE ops j=some t->False:=fun i j t hj hi hj'=>by
  have:=(h1' i (ZJ3 hi)).2 j hj;rw [hi,hj'] at this;simp at this
 refine ⟨fun i hi=>(h1' i hi).1.1,fun i hi=>(h1' i hi).1.2,fun i j t hi hj=>?_,fun k j i x hjk hk hj=>?_,h3,fun i hi=>?_,h5⟩
 ·rcases Nat.lt_trichotomy i j with hlt|heq|hlt
  ·exact (hd j i t hlt hj hi).elim
  ·exact heq
  ·exact (hd i j t hlt hi hj).elim
 ·have hkl:=Am.Zaq hk;have:=List.all_eq_true.1 (List.all_eq_true.1 h2 k (List.mem_range.2 hkl)) j (List.mem_range.2 hjk);simpa [List.getD,hk,hj] using this
 ·have:=List.all_eq_true.1 h4 i hi;simpa using this
theorem ZHE (hp:Pl ops) {L:Nat->Bool} (hc:Cl ops L): ∀(i:Nat) (o:Oper),ops[i]? =some o->(∀ed∈o.after,Region.binds .any ed=true->L ed.on=true)-> ∀j,(anc ops i).testBit j=true->L j=true:=by
 intro i
 induction i using Nat.strongRecOn with
 | _ i ih=>
   intro o ho hr j hj;have hi:=(Array.getElem?_eq_some_iff.1 ho).1;have hok:=hp.an i hi;unfold ZNl at hok;rw [ho] at hok;simp only [Yb,beq_iff_eq] at hok;obtain ⟨h1,h2⟩:=hok;rw [h2] at hj;rcases ZJ8 _ _ _ _ hj with hz|⟨ed,e1,e2,e3⟩
   · simp at hz
   · have hL:=hr ed (by simpa using e1) e2;have hlt:=List.all_eq_true.1 h1 ed e1;simp only [e2,Bool.not_true,Bool.false_or,Nat.blt_eq] at hlt;rcases e3 with rfl|e3
     · exact hL
     · have hlt':ed.on<ops.size:=by omega
       have ho':ops[ed.on]? =some (ops[ed.on]'hlt'):=Array.getElem?_eq_getElem _;exact ih ed.on hlt _ ho' (fun ed' h1 h2=>hc _ _ ho' hL ed' h1 h2) j e3
theorem ZIW: ∀(l:List Nat) (m m':Nat),ZNm ops l m=some m'->(∀j,m'.testBit j=true↔m.testBit j=true∨j∈l)/\(l.Nodup/\ ∀j∈l,m.testBit j=false)/\
   ∀(p i:Nat),l[p]? =some i-> ∀j,(anc ops i).testBit j=true->m.testBit j=true∨ ∃q,q<p/\l[q]? =some j
 | [],m,m',h=>by
   simp only [ZNm,Ye] at h;subst h;exact ⟨fun j=>by simp,⟨List.nodup_nil,fun j hj=>by cases hj⟩,fun p i hi=>by simp at hi⟩
 | i::r,m,m',h=>by
   simp only [ZNm] at h;split at h
   · rename_i hc;simp only [Yb,Bool.not_eq_true',beq_iff_eq] at hc;obtain ⟨c1,c2⟩:=hc;obtain ⟨h1,⟨h2,h3⟩,h4⟩:=ZIW r _ _ h;have hb: ∀j,(m|||1<<<i).testBit j=true↔m.testBit j=true∨i=j:=fun j=>by simp only [Nat.testBit_or,Bool.or_eq_true,ZMz,decide_eq_true_eq]
     refine ⟨fun j=>?_,⟨List.nodup_cons.2 ⟨fun hm=>?_,h2⟩,fun j hj=>?_⟩,fun p k hk j hj=>?_⟩
     · rw [h1,hb];simp only [Yv,or_assoc,eq_comm]
     · have:=h3 i hm;rw [Bool.eq_false_iff] at this;exact this ((hb i).2 (.inr rfl))
     · rcases List.mem_cons.1 hj with rfl|hj
       · exact c1
       · have:=h3 j hj;rw [Bool.eq_false_iff] at this⊢;exact fun hh=>this ((hb j).2 (.inl hh))
     · cases p with
       | zero=>
         simp only [Yi,Ye] at hk;subst hk
         left
         rw [<-c2,Nat.testBit_and,Yb] at hj;exact hj.2
       | succ p=>
         rcases h4 p k (by simpa using hk) j hj with hm|⟨q,q1,q2⟩
         · rcases (hb j).1 hm with hm|rfl
           · exact .inl hm
           · exact .inr ⟨0,by omega,by simp⟩
         · exact .inr ⟨q+1,by omega,by simpa using q2⟩
   · cases h
theorem Pl.nodup (hp:Pl ops):(sch ops).Nodup:=(ZIW _ _ _ hp.sc).2.1.1
theorem Pl.pos (hp:Pl ops) {i:Nat} (hi:i<ops.size): ∃p:Nat,(sch ops)[p]? =some i:=by
 have:=((ZIW _ _ _ hp.sc).1 i).1 (by rw [Nat.testBit_two_pow_sub_one];simpa using hi);rcases this with h|h
 ·simp at h
 ·exact List.mem_iff_getElem?.1 h
theorem Pl.before (hp:Pl ops) {p i j:Nat} (hi:(sch ops)[p]? =some i) (hj:(anc ops i).testBit j=true): ∃q:Nat,q<p/\(sch ops)[q]? =some j:=by
 rcases (ZIW _ _ _ hp.sc).2.2 p i hi j hj with h|h
 ·simp at h
 ·exact h
theorem Pl.uniq (hp:Pl ops) {p q i:Nat} (hi:(sch ops)[p]? =some i) (hj:(sch ops)[q]? =some i):p=q:=by
 have h1:=Am.Zaq hi;have h2:=Am.Zaq hj;rw [Ya h1,Ye] at hi;rw [Ya h2,Ye] at hj;exact (List.getElem_inj hp.nodup).1 (hi.trans hj.symm)
theorem ZgW {d:Option Tmp} {v:Option V} {e1:Env} (hp:putE nt e d v=some e1):(∀t:Nat,d=some t->t<nt/\e1.get t=some (v.getD (.tup [])))/\ ∀t:Nat,d≠some t->e1.get t=e.get t:=by
 cases d with
 | none=>
   simp only [putE,Ye] at hp;subst hp;exact ⟨fun t h=>(by cases h),fun t _=>rfl⟩
 | some t=>
   obtain ⟨t,rfl⟩: ∃t₀:Nat,t₀=t:=⟨t,rfl⟩
   simp only [putE] at hp;split at hp
   · rename_i ht;simp only [Ye] at hp;subst hp;refine ⟨fun u h=>?_,fun u h=>?_⟩
     · cases h;exact ⟨ht,T.get_set_same _ _ _⟩
     · exact T.get_set_ne _ _ (fun hh=>h (by rw [hh]))
   · cases hp
theorem ZIx {o:Oper} {x:Env×H} (hx:ZKy P F nt ops o e h=some x): ∃b ov,goes ops o e=some b/\(b=true->opV P F e h o.op=some (ov,x.2))/\(b=false->ov=none/\x.2=h)/\putE nt e o.dst ov=some x.1:=by
 unfold ZKy at hx;split at hx
 ·rename_i hg;split at hx
  ·rename_i v h1 ho;simp only [YF] at hx;obtain ⟨e1,hp,rfl⟩:=hx;exact ⟨true,v,hg,fun _=>ho,(fun h=>by cases h),hp⟩
  ·cases hx
 ·rename_i hg;simp only [YF] at hx;obtain ⟨e1,hp,rfl⟩:=hx;exact ⟨false,none,hg,(fun h=>by cases h),fun _=>⟨rfl,rfl⟩,hp⟩
 ·cases hx
structure Tr (P:Program) (F:ZaQ) (nt:Nat) (ops:Array Oper) (l:List Nat) (s:List Snap) (st:Nat->Env×H):Prop where
 at_: ∀p i,l[p]? =some i->s[p]? =some (i,(st p).1,(st p).2)/\ ∃o,ops[i]? =some o/\ZKy P F nt ops o (st p).1 (st p).2=some (st (p+1))
 len:s.length=l.length
theorem ZMu: ∀(l:List Nat) {e:Env} {h:H} {s:List Snap} {e':Env} {h':H},runS ops P F nt l e h=some (s,e',h')-> ∃st,st 0=(e,h)/\st l.length=(e',h')/\Tr P F nt ops l s st
 | [],e,h,s,e',h',hx=>by
   simp only [runS,Ye,YL] at hx;obtain ⟨rfl,rfl,rfl⟩:=hx;exact ⟨fun _=>(e,h),rfl,rfl,fun p i hi=>by simp at hi,rfl⟩
 | i::r,e,h,s,e',h',hx=>by
   simp only [runS] at hx;split at hx
   · rename_i o ho;split at hx
     · rename_i e1 h1 hst;split at hx
       · rename_i s1 e2 h2 hr;simp only [Ye,YL] at hx;obtain ⟨rfl,rfl,rfl⟩:=hx;obtain ⟨st,t1,t2,t3⟩:=ZMu r hr;refine ⟨fun p=>match p with|0=>(e,h)|p+1=>st p,rfl,t2,fun p k hk=>?_,by simp [t3.len]⟩;cases p with
         | zero=>
           simp only [Yi,Ye] at hk;subst hk;exact ⟨rfl,o,ho,(show ZKy P F nt ops o e h=some (st 0) by rw [t1];exact hst)⟩
         | succ p=>exact t3.at_ p k (by simpa using hk)
       · cases hx
     · cases hx
   · cases hx
section
variable {l:List Nat} {s:List Snap} {st:Nat->Env×H} (ht:Tr P F nt ops l s st)
include ht
theorem Tr.keep {t a b:Nat} (hab:a<=b) (hb:b<=l.length) (hn: ∀r i,a<=r->r<b->l[r]? =some i->ZIE ops i≠some t):(st b).1.get t=(st a).1.get t:=by
 induction b with
 | zero=>
   obtain rfl:a=0:=by omega
   rfl
 | succ b ih=>
   rcases Yt a (b+1) with hlt|hge
   · have hi:l[b]? =some (l[b]'(by omega)):=Ya _;obtain ⟨_,o,ho,hst⟩:=ht.at_ b _ hi;obtain ⟨_,ov,_,_,_,hp⟩:=ZIx hst;have hd:o.dst≠some t:=fun hh=>hn b _ Zo (Yz _) hi (by unfold ZIE;rw [ho];exact hh);rw [(ZgW hp).2 t hd];exact ih Zo Zo fun r i h1 h2=>hn r i h1 Zo
   · obtain rfl:a=b+1:=by omega
     rfl
theorem Tr.mono (hF:ZIu F) {a b:Nat} (hab:a<=b) (hb:b<=l.length):(st a).2.next<=(st b).2.next:=by
 induction b with
 | zero=>
   obtain rfl:a=0:=by omega
   exact Yc _
 | succ b ih=>
   rcases Yt a (b+1) with hlt|hge
   · have hi:l[b]? =some (l[b]'(by omega)):=Ya _;obtain ⟨_,o,ho,hst⟩:=ht.at_ b _ hi;obtain ⟨bb,ov,_,h1,h2,_⟩:=ZIx hst;refine Yy (ih Zo Zo) ?_;cases bb with
     | true=>exact ZKC hF (h1 rfl)
     | false=>rw [(h2 rfl).2];exact Yc _
   · obtain rfl:a=b+1:=by omega
     exact Yc _
theorem Tr.heap {h':H} (hh':(st l.length).2=h'): ∀(n p:Nat),p+n=l.length-> ∃q,p<=q/\q<=l.length/\(ZHQ ops (s.drop p) h')[0]? =some (st q).2/\(∀r i,p<=r->r<q->l[r]? =some i->isE ops i=false)/\(q<l.length-> ∃i,l[q]? =some i/\isE ops i=true):=by
 intro n
 induction n with
 | zero=>
   intro p hp;have:s.drop p=[]:=by rw [List.drop_of_length_le];rw [ht.len];omega
   rw [this];exact ⟨p,Yc _,by omega,by simp [ZHQ,<-hh',show p=l.length by omega],fun r i h1 h2=>by omega,fun h=>by omega⟩
 | succ n ih=>
   intro p hp;have hi:l[p]? =some (l[p]'(by omega)):=Ya _;obtain ⟨hs,_⟩:=ht.at_ p _ hi;have hd:s.drop p=(l[p]'(by omega),(st p).1,(st p).2)::s.drop (p+1):=by
     have hlt:=Am.Zaq hs;rw [List.drop_eq_getElem_cons hlt];rw [Ya hlt,Ye] at hs;rw [hs]
   rw [hd];simp only [ZHQ];by_cases hE:isE ops (l[p]'(by omega))=true
   · rw [if_pos hE];exact ⟨p,Yc _,by omega,rfl,fun r i h1 h2=>by omega,fun _=>⟨_,hi,hE⟩⟩
   · rw [if_neg hE];obtain ⟨q,q1,q2,q3,q4,q5⟩:=ih (p+1) Zo;refine ⟨q,by omega,q2,q3,fun r i h1 h2 hr=>?_,q5⟩;by_cases hrp:r=p
     · subst hrp;rw [hi,Ye] at hr;rw [<-hr];simpa using hE
     · exact q4 r i Zo h2 hr
def cntE (ops:Array Oper) (l:List Nat) (p:Nat):Nat:=((l.take p).filter (isE ops)).length
theorem Tr.heaps {h':H}: ∀(p:Nat),p<=l.length-> ∀k,(ZHQ ops s h')[cntE ops l p+k]? =(ZHQ ops (s.drop p) h')[k]? :=by
 intro p
 induction p with
 | zero=>intro _ k;simp [cntE]
 | succ p ih=>
   intro hp k;have hi:l[p]? =some (l[p]'(by omega)):=Ya _;obtain ⟨hs,_⟩:=ht.at_ p _ hi;have hd:s.drop p=(l[p]'(by omega),(st p).1,(st p).2)::s.drop (p+1):=by
     have hlt:=Am.Zaq hs;rw [List.drop_eq_getElem_cons hlt];rw [Ya hlt,Ye] at hs;rw [hs]
   have hc:cntE ops l (p+1)=cntE ops l p+if isE ops (l[p]'(by omega))=true then 1 else 0:=by
     unfold cntE;rw [List.take_succ_eq_append_getElem Zo,List.filter_append,YE];congr 1;split<;>simp_all
   have:=ih Zo;by_cases hE:isE ops (l[p]'(by omega))=true
   · rw [if_pos hE] at hc;have h1:=this (k+1);rw [hd] at h1;simp only [ZHQ,hE,if_true,Yj] at h1;rw [hc,<-h1];congr 1;omega
   · rw [if_neg hE] at hc;have h1:=this k;rw [hd] at h1;simp only [ZHQ,hE,Yw,if_false] at h1;rw [hc,<-h1];rfl
end
theorem ZJZ {α:Type} {p q:α->Bool}: ∀{l:List α},(∀x∈l,p x=true->q x=true)->(l.filter p).length<=(l.filter q).length
 | [],_=>Yc _
 | x::l,h=>by
   have ih:=ZJZ (p:=p) (q:=q) (l:=l) fun y hy=>h y (by simp [hy]);simp only [List.filter_cons];by_cases hp:p x=true
   · rw [if_pos hp,if_pos (h x Zs hp)];simpa using ih
   · rw [if_neg hp];split
     · simp;omega
     · exact ih
theorem ZIr {α:Type} {q:α->Bool}: ∀{l:List α} {c:Nat},c<=l.length->(∀k x,l[k]? =some x->(q x=true↔k<c))->(l.filter q).length=c
 | [],c,hc,_=>by simp at hc;simp [hc]
 | x::l,c,hc,h=>by
   simp only [List.filter_cons];cases c with
   | zero=>
     have h0:q x≠true:=fun hh=>by have:=(h 0 x rfl).1 hh;omega
     rw [if_neg h0];exact ZIr (Yd _) fun k y hy=>⟨fun hh=>by have:=(h (k+1) y (by simpa using hy)).1 hh;omega,fun hh=>by omega⟩
   | succ c=>
     rw [if_pos ((h 0 x rfl).2 Zo)];simp only [YN,Nat.add_right_cancel_iff];exact ZIr (by simpa using hc) fun k y hy=>(h (k+1) y (by simpa using hy)).trans Zo
end Go.Cm
end
