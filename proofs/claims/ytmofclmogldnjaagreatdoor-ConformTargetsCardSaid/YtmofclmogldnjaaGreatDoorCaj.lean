/- Part. -/
import Derived.Test.YtmofclmogldnjaaGreatDoorCai
set_option maxRecDepth 999999
set_option maxHeartbeats 0
set_option linter.all false
section
namespace Go.Am.Fe
variable {S:SF} {Q:QF}
attribute [local simp] ZbO if_pos if_neg decide_eq_true decide_eq_false Yi Yj ZgF
variable {l:List Tok} {en pl:Int} {i:Nat}
def ZwJ (H:Has S) {n:Nat} (hV:OkLv S n 0):OkNdF S Zas n:=by
 intro l en pl i Q hL hi hn hQ;refine .code H.ZoM rfl ?_;simp(disch:=omega)[Zfn];refine hV l en _ _ _ hL Zo Zo (fun op n k m a pl' s s2 args ts ls ok j h1 h2 h3=>?_);simp(disch:=omega);exact hQ _ _ _ _ _ _ _ _ _ _ _ _ _ h1 h2 h3
def Zut (H:Has S) {n:Nat} (hE:OkNdF S Zas (n+1)) (hL:Rl l) (hi:i<=l.length) (hn:l.length<n+1+i) (hQ:NdPost l en i Q):Gives S Zde [me] [rd l en i pl] Q:=by
 have hlen:=hL.1;refine .code H.ZnJ rfl ?_;simp(disch:=omega)[ZeQ]
 repeat' (first
    | exact hQ.fail _ _ _ _ _ _ _ _ _ _ _ _ Zo Zo
    | (refine hQ.good _ _ _ _ _ _ _ _ _ _ _ _ Zo Zo ?_;first|exact IsNd.le (IsNd.typed (by first|assumption|exact Str.nil) (by first|assumption|exact IsTy.zero) (IsNds.cons Za IsNds.nil) Zd Zd) (by omega)|exact IsNd.le (IsNd.typed (by first|assumption|exact Str.nil) Za IsNds.nil Zd Zd) Zo)
    | (refine hE l en _ _ _ hL Zo Zo (fun op n k m a pl' s s2 args ts ls ok j h1 h2 h3=>?_);cases ok;rotate_left;obtain ⟨h4,h5⟩:=h3 rfl;all_goals simp(disch:=omega))
    | (refine Zaf (fun hc=>?_) (fun hc=>?_)<;>simp(disch:=omega)[hc])
    | (refine ZaG H hL Zo (fun j h1 h2=>?_) ?_<;>simp(disch:=omega))
    | (refine ZbT H hL Zo (fun j h1 h2=>?_) ?_<;>simp(disch:=omega))
    | (refine Za8 H hL Zo (fun j s h1 h2 hs=>?_) ?_<;>simp(disch:=omega))
    | (refine ZaD H hL Zo (fun a=>?_);simp(disch:=omega))
    | (refine Zba H hL Zo (fun b hb=>?_);cases b;rotate_left;have hb2:=hb rfl;all_goals simp(disch:=omega))
    | (refine ZaR H hL Zo (fun b hb=>?_);cases b;rotate_left;have hb2:=hb rfl;all_goals simp(disch:=omega))
    | (refine ZaY H (by first|(exact Str.len Za)|decide) (fun z hz=>?_);simp(disch:=omega))
    | (refine Zb1 H hL Zo (fun k s m args ok j h1 h2 h3=>?_);cases ok;rotate_left;obtain ⟨h4,h5⟩:=h3 rfl;all_goals simp(disch:=omega)))
def Zhx (H:Has S) {n:Nat} (hE:OkNdF S Zas (n+1)) (hB:OkNdF S Zax n) (hC:OkNdF S ZaF n) (hL:Rl l) (hi:i<=l.length) (hn:l.length<n+1+i) (hQ:NdPost l en i Q):Gives S ZaF [me] [rd l en i pl] Q:=by
 have hlen:=hL.1;refine .code H.ZhU rfl ?_;simp(disch:=omega)[Zcz]
 repeat' (first
    | exact hQ.fail _ _ _ _ _ _ _ _ _ _ _ _ Zo Zo
    | (refine hQ.good _ _ _ _ _ _ _ _ _ _ _ _ Zo Zo ?_;first|exact IsNd.le (IsNd.over Str.nil (IsNds.cons Za (IsNds.cons Za IsNds.nil)) Zd Zd) (by omega)|exact IsNd.le (IsNd.over Str.nil (IsNds.cons Za (IsNds.cons Za (IsNds.cons Za IsNds.nil))) Zd Zd) Zo)
    | (refine hE l en _ _ _ hL Zo Zo (fun op n k m a pl' s s2 args ts ls ok j h1 h2 h3=>?_);cases ok;rotate_left;obtain ⟨h4,h5⟩:=h3 rfl;all_goals simp(disch:=omega))
    | (refine hB l en _ _ _ hL Zo Zo (fun op n k m a pl' s s2 args ts ls ok j h1 h2 h3=>?_);cases ok;rotate_left;obtain ⟨h4,h5⟩:=h3 rfl;all_goals simp(disch:=omega))
    | (refine hC l en _ _ _ hL Zo Zo (fun op n k m a pl' s s2 args ts ls ok j h1 h2 h3=>?_);cases ok;rotate_left;obtain ⟨h4,h5⟩:=h3 rfl;all_goals simp(disch:=omega))
    | (refine Zaf (fun hc=>?_) (fun hc=>?_)<;>simp(disch:=omega)[hc])
    | (refine ZaG H hL Zo (fun j h1 h2=>?_) ?_<;>simp(disch:=omega))
    | (refine ZbT H hL Zo (fun j h1 h2=>?_) ?_<;>simp(disch:=omega))
    | (refine Za8 H hL Zo (fun j s h1 h2 hs=>?_) ?_<;>simp(disch:=omega))
    | (refine ZaD H hL Zo (fun a=>?_);simp(disch:=omega))
    | (refine Zba H hL Zo (fun b hb=>?_);cases b;rotate_left;have hb2:=hb rfl;all_goals simp(disch:=omega))
    | (refine ZaR H hL Zo (fun b hb=>?_);cases b;rotate_left;have hb2:=hb rfl;all_goals simp(disch:=omega))
    | (refine ZaY H (by first|(exact Str.len Za)|decide) (fun z hz=>?_);simp(disch:=omega))
    | (refine Zb1 H hL Zo (fun k s m args ok j h1 h2 h3=>?_);cases ok;rotate_left;obtain ⟨h4,h5⟩:=h3 rfl;all_goals simp(disch:=omega)))
def Zru (H:Has S) {n:Nat} (hP:OkNdF S ZaO n) (hL:Rl l) (hi:i<=l.length) (hn:l.length<n+1+i) (hQ:NdPost l en i Q):Gives S ZaO [me] [rd l en i pl] Q:=by
 have hlen:=hL.1;refine .code H.Zle rfl ?_;simp(disch:=omega)[ZdB]
 repeat' (first
    | exact hQ.fail _ _ _ _ _ _ _ _ _ _ _ _ Zo Zo
    | (refine hQ.good _ _ _ _ _ _ _ _ _ _ _ _ Zo Zo ?_;first|exact IsNd.le (IsNd.leaf (by first|assumption|exact Str.nil) Zd Zd) (by omega)|exact IsNd.le (IsNd.over (by first|assumption|exact Str.nil) k3 Zd Zd) Zo)
    | exact RdN.mk (_,_,j,_) rfl ⟨dO,dO,IsNds.le (IsNds.snoc k3 Za) dO⟩ dC
    | (refine Lp.rule (fun (b:LP×Bool×Nat×Int)=>[(0,.a me),fR 2,fR 4,(15,.a (.one (.tip 10 b.1))),(16,.a (pb b.2.1)),(9999,.objs [rd l en b.2.2.1 b.2.2.2]),(10002,.a (aN0)),(10004,.a (.agg [.i 45,.s s,.i 0,.i 0,.s [],.i 0,.tip 4 [],.tip 4 [],.tip 10 [],.i a]))]) (fun b=>i<b.2.2.1/\b.2.2.1<=l.length/\IsNds (8*(b.2.2.1-i-1)) b.1) (fun b=>2*(l.length-b.2.2.1)+cond b.2.1 1 0) (a₀:=([],true,j,pl)) Zs ⟨dO,dO,IsNds.nil.le Zo⟩ ?_;rintro ⟨ls,b,j,pl⟩ ⟨k1,k2,k3⟩;dsimp only at k1 k2 k3;have k5:=k3.len;have hstr:=hs;cases b<;>simp(disch:=omega))
    | (refine hP l en _ _ _ hL Zo Zo (fun op n k m a pl' s s2 args ts ls ok j h1 h2 h3=>?_);cases ok;rotate_left;obtain ⟨h4,h5⟩:=h3 rfl;all_goals simp(disch:=omega))
    | (refine Zaf (fun hc=>?_) (fun hc=>?_)<;>simp(disch:=omega)[hc])
    | (refine ZaG H hL Zo (fun j h1 h2=>?_) ?_<;>simp(disch:=omega))
    | (refine ZbT H hL Zo (fun j h1 h2=>?_) ?_<;>simp(disch:=omega))
    | (refine Za8 H hL Zo (fun j s h1 h2 hs=>?_) ?_<;>simp(disch:=omega))
    | (refine ZaD H hL Zo (fun a=>?_);simp(disch:=omega))
    | (refine Zba H hL Zo (fun b hb=>?_);cases b;rotate_left;have hb2:=hb rfl;all_goals simp(disch:=omega))
    | (refine ZaR H hL Zo (fun b hb=>?_);cases b;rotate_left;have hb2:=hb rfl;all_goals simp(disch:=omega))
    | (refine ZaY H (by first|(exact Str.len Za)|decide) (fun z hz=>?_);simp(disch:=omega))
    | (refine Zb1 H hL Zo (fun k s m args ok j h1 h2 h3=>?_);cases ok;rotate_left;obtain ⟨h4,h5⟩:=h3 rfl;all_goals simp(disch:=omega)))
def ZtW (H:Has S) {n:Nat} (hE:OkNdF S Zas (n+1)) (hB:OkNdF S Zax (n+1)) (hP:OkNdF S ZaO (n+1)) {at_:Int} (hL:Rl l) (hi:i<=l.length) (hn:l.length<n+1+i) (hQ:NdPost l en i Q):Gives S Zc5 [me,pi at_] [rd l en i pl] Q:=by
 have hlen:=hL.1;refine .code H.ZnO rfl ?_;simp(disch:=omega)[ZeN]
 repeat' (first
    | exact hQ.fail _ _ _ _ _ _ _ _ _ _ _ _ Zo Zo
    | (refine hQ.good _ _ _ _ _ _ _ _ _ _ _ _ Zo Zo ?_;first|exact IsNd.le (IsNd.over Str.nil k3 Zd Zd) (by omega)|exact IsNd.le (IsNd.over Str.nil (IsNds.snoc k3 (IsNd.over Str.nil (IsNds.cons (IsNd.leaf Str.nil Zd Zd) (IsNds.cons Za IsNds.nil)) Zd Zd)) Zd Zd) Zo)
    | exact RdN.mk (_,j,_) rfl ⟨dO,dO,IsNds.le (IsNds.snoc k3 (IsNd.over Str.nil (IsNds.cons Za (IsNds.cons Za IsNds.nil)) Zd Zd)) dO⟩ dO
    | (refine Lp.rule (fun (b:LP×Nat×Int)=>[(0,.a me),fR 4,fR 6,(9,.a (.one (.tip 10 b.1))),(9999,.objs [rd l en b.2.1 b.2.2]),(10004,.a (aN0)),(10006,.a (.agg [.i 26,.s [],.i 0,.i 0,.s [],.i 0,.tip 4 [],.tip 4 [],.tip 10 [],.i at_]))]) (fun b=>i<b.2.1/\b.2.1<=l.length/\IsNds (8*(b.2.1-i)-8) b.1) (fun b=>l.length-b.2.1) (a₀:=(_,j,pl')) (by simp<;>rfl) ⟨dO,dO,IsNds.le (IsNds.cons h5 IsNds.nil) dO⟩ ?_;rintro ⟨ls,j,pl⟩ ⟨k1,k2,k3⟩;dsimp only at k1 k2 k3;have k5:=k3.len;simp(disch:=omega))
    | (refine hE l en _ _ _ hL Zo Zo (fun op n k m a pl' s s2 args ts ls ok j h1 h2 h3=>?_);cases ok;rotate_left;obtain ⟨h4,h5⟩:=h3 rfl;all_goals simp(disch:=omega))
    | (refine hB l en _ _ _ hL Zo Zo (fun op n k m a pl' s s2 args ts ls ok j h1 h2 h3=>?_);cases ok;rotate_left;obtain ⟨h4,h5⟩:=h3 rfl;all_goals simp(disch:=omega))
    | (refine hP l en _ _ _ hL Zo Zo (fun op n k m a pl' s s2 args ts ls ok j h1 h2 h3=>?_);cases ok;rotate_left;obtain ⟨h4,h5⟩:=h3 rfl;all_goals simp(disch:=omega))
    | (refine Zaf (fun hc=>?_) (fun hc=>?_)<;>simp(disch:=omega)[hc])
    | (refine ZaG H hL Zo (fun j h1 h2=>?_) ?_<;>simp(disch:=omega))
    | (refine ZbT H hL Zo (fun j h1 h2=>?_) ?_<;>simp(disch:=omega))
    | (refine Za8 H hL Zo (fun j s h1 h2 hs=>?_) ?_<;>simp(disch:=omega))
    | (refine ZaD H hL Zo (fun a=>?_);simp(disch:=omega))
    | (refine Zba H hL Zo (fun b hb=>?_);cases b;rotate_left;have hb2:=hb rfl;all_goals simp(disch:=omega))
    | (refine ZaR H hL Zo (fun b hb=>?_);cases b;rotate_left;have hb2:=hb rfl;all_goals simp(disch:=omega))
    | (refine ZaY H (by first|(exact Str.len Za)|decide) (fun z hz=>?_);simp(disch:=omega))
    | (refine Zb1 H hL Zo (fun k s m args ok j h1 h2 h3=>?_);cases ok;rotate_left;obtain ⟨h4,h5⟩:=h3 rfl;all_goals simp(disch:=omega)))
def Ztz (H:Has S) {n:Nat} (hE:OkNdF S Zas (n+1)) (hL:Rl l) (hi:i<=l.length) (hn:l.length<n+1+i) (hQ:NdPost l en i Q):Gives S ZcL [me] [rd l en i pl] Q:=by
 have hlen:=hL.1;refine .code H.ZlU rfl ?_;simp(disch:=omega)[Zeb]
 repeat' (first
    | exact hQ.fail _ _ _ _ _ _ _ _ _ _ _ _ Zo Zo
    | (refine hQ.good _ _ _ _ _ _ _ _ _ _ _ _ Zo Zo ?_;first|exact IsNd.le (IsNd.over Str.nil (IsNds.cons Za IsNds.nil) Zd Zd) (by omega)|exact IsNd.le (IsNd.over Str.nil (IsNds.cons Za (IsNds.cons Za IsNds.nil)) Zd Zd) Zo)
    | (refine hE l en _ _ _ hL Zo Zo (fun op n k m a pl' s s2 args ts ls ok j h1 h2 h3=>?_);cases ok;rotate_left;obtain ⟨h4,h5⟩:=h3 rfl;all_goals simp(disch:=omega))
    | (refine ZtM H Za (fun b=>?_);cases b<;>simp(disch:=omega))
    | (refine Zaf (fun hc=>?_) (fun hc=>?_)<;>simp(disch:=omega)[hc])
    | (refine ZaG H hL Zo (fun j h1 h2=>?_) ?_<;>simp(disch:=omega))
    | (refine ZbT H hL Zo (fun j h1 h2=>?_) ?_<;>simp(disch:=omega))
    | (refine Za8 H hL Zo (fun j s h1 h2 hs=>?_) ?_<;>simp(disch:=omega))
    | (refine ZaD H hL Zo (fun a=>?_);simp(disch:=omega))
    | (refine Zba H hL Zo (fun b hb=>?_);cases b;rotate_left;have hb2:=hb rfl;all_goals simp(disch:=omega))
    | (refine ZaR H hL Zo (fun b hb=>?_);cases b;rotate_left;have hb2:=hb rfl;all_goals simp(disch:=omega))
    | (refine ZaY H (by first|(exact Str.len Za)|decide) (fun z hz=>?_);simp(disch:=omega))
    | (refine Zb1 H hL Zo (fun k s m args ok j h1 h2 h3=>?_);cases ok;rotate_left;obtain ⟨h4,h5⟩:=h3 rfl;all_goals simp(disch:=omega)))
def ZtI (H:Has S) {n:Nat} (hS:OkSts S n) (hL:Rl l) (hi:i<=l.length) (hn:l.length<n+1+i) (hQ:NdPost l en i Q):Gives S Zax [me] [rd l en i pl] Q:=by
 have hlen:=hL.1;refine .code H.ZmY rfl ?_;simp(disch:=omega)[ZeG]
 repeat' (first
    | exact hQ.fail _ _ _ _ _ _ _ _ _ _ _ _ Zo Zo
    | (refine hQ.good _ _ _ _ _ _ _ _ _ _ _ _ Zo Zo ?_;first|exact IsNd.le (IsNd.over Str.nil Za Zd Zd) Zo)
    | (refine hS l en _ _ _ hL Zo Zo (fun ls ok j pl' h1 h2 h3=>?_);cases ok;rotate_left;obtain ⟨h4,h5⟩:=h3 rfl;all_goals simp(disch:=omega))
    | (refine Zaf (fun hc=>?_) (fun hc=>?_)<;>simp(disch:=omega)[hc])
    | (refine ZaG H hL Zo (fun j h1 h2=>?_) ?_<;>simp(disch:=omega))
    | (refine ZbT H hL Zo (fun j h1 h2=>?_) ?_<;>simp(disch:=omega))
    | (refine Za8 H hL Zo (fun j s h1 h2 hs=>?_) ?_<;>simp(disch:=omega))
    | (refine ZaD H hL Zo (fun a=>?_);simp(disch:=omega))
    | (refine Zba H hL Zo (fun b hb=>?_);cases b;rotate_left;have hb2:=hb rfl;all_goals simp(disch:=omega))
    | (refine ZaR H hL Zo (fun b hb=>?_);cases b;rotate_left;have hb2:=hb rfl;all_goals simp(disch:=omega))
    | (refine ZaY H (by first|(exact Str.len Za)|decide) (fun z hz=>?_);simp(disch:=omega))
    | (refine Zb1 H hL Zo (fun k s m args ok j h1 h2 h3=>?_);cases ok;rotate_left;obtain ⟨h4,h5⟩:=h3 rfl;all_goals simp(disch:=omega)))
def ZoR (H:Has S) {n:Nat} (hE:OkNdF S Zas (n+1)) (hB:OkNdF S Zax (n+1)) (hC:OkNdF S ZaF n) (hP:OkNdF S ZaO (n+1)) (hL:Rl l) (hi:i<=l.length) (hn:l.length<n+1+i) (hQ:NdPost l en i Q):Gives S Zbg [me] [rd l en i pl] Q:=by
 have hlen:=hL.1;refine .code H.Zjn rfl ?_;simp(disch:=omega)[ZcS]
 repeat' (first
    | exact hQ.fail _ _ _ _ _ _ _ _ _ _ _ _ Zo Zo
    | (refine hQ.good _ _ _ _ _ _ _ _ _ _ _ _ Zo Zo ?_;first|exact IsNd.le Za (by omega)|exact IsNd.le (IsNd.leaf (by first|assumption|exact Str.nil) Zd Zd) (by omega)|exact IsNd.le (IsNd.over (by first|assumption|exact Str.nil) (IsNds.cons Za IsNds.nil) Zd Zd) (by omega)|exact IsNd.le (IsNd.over (by first|assumption|exact Str.nil) (IsNds.cons Za (IsNds.cons Za IsNds.nil)) Zd Zd) Zo)
    | (refine hE l en _ _ _ hL Zo Zo (fun op n k m a pl' s s2 args ts ls ok j h1 h2 h3=>?_);cases ok;rotate_left;obtain ⟨h4,h5⟩:=h3 rfl;all_goals simp(disch:=omega))
    | (refine hB l en _ _ _ hL Zo Zo (fun op n k m a pl' s s2 args ts ls ok j h1 h2 h3=>?_);cases ok;rotate_left;obtain ⟨h4,h5⟩:=h3 rfl;all_goals simp(disch:=omega))
    | (refine Zut H hE hL Zo Zo (fun op n k m a pl' s s2 args ts ls ok j h1 h2 h3=>?_);cases ok;rotate_left;obtain ⟨h4,h5⟩:=h3 rfl;all_goals simp(disch:=omega))
    | (refine Zhx H hE (hB.mono (Nat.le_succ _)) hC hL Zo Zo (fun op n k m a pl' s s2 args ts ls ok j h1 h2 h3=>?_);cases ok;rotate_left;obtain ⟨h4,h5⟩:=h3 rfl;all_goals simp(disch:=omega))
    | (refine ZtW H hE hB hP hL Zo Zo (fun op n k m a pl' s s2 args ts ls ok j h1 h2 h3=>?_);cases ok;rotate_left;obtain ⟨h4,h5⟩:=h3 rfl;all_goals simp(disch:=omega))
    | (refine Ztz H hE hL Zo Zo (fun op n k m a pl' s s2 args ts ls ok j h1 h2 h3=>?_);cases ok;rotate_left;obtain ⟨h4,h5⟩:=h3 rfl;all_goals simp(disch:=omega))
    | (refine Zaf (fun hc=>?_) (fun hc=>?_)<;>simp(disch:=omega)[hc])
    | (refine ZaG H hL Zo (fun j h1 h2=>?_) ?_<;>simp(disch:=omega))
    | (refine ZbT H hL Zo (fun j h1 h2=>?_) ?_<;>simp(disch:=omega))
    | (refine Za8 H hL Zo (fun j s h1 h2 hs=>?_) ?_<;>simp(disch:=omega))
    | (refine ZaD H hL Zo (fun a=>?_);simp(disch:=omega))
    | (refine Zba H hL Zo (fun b hb=>?_);cases b;rotate_left;have hb2:=hb rfl;all_goals simp(disch:=omega))
    | (refine ZaR H hL Zo (fun b hb=>?_);cases b;rotate_left;have hb2:=hb rfl;all_goals simp(disch:=omega))
    | (refine ZaY H (by first|(exact Str.len Za)|decide) (fun z hz=>?_);simp(disch:=omega))
    | (refine Zb1 H hL Zo (fun k s m args ok j h1 h2 h3=>?_);cases ok;rotate_left;obtain ⟨h4,h5⟩:=h3 rfl;all_goals simp(disch:=omega)))
def Zns (H:Has S) {n:Nat} (hT:OkNdF S Zbg n):OkSts S n:=by
 intro l en pl i Q hL hi hn hQ;have hlen:=hL.1;refine .code H.ZiR rfl ?_;simp(disch:=omega)[ZcG];refine Lp.rule (fun (b:LP×Nat×Int)=>[(0,.a me),(4,.a (.one (.tip 10 b.1))),(9999,.objs [rd l en b.2.1 b.2.2])]) (fun b=>i<=b.2.1/\b.2.1<=l.length/\IsNds (8*(b.2.1-i)) b.1) (fun b=>l.length-b.2.1) (a₀:=([],i,pl)) Zs ⟨Yc _,hi,IsNds.nil.le Zo⟩ ?_;rintro ⟨ls,j,pl⟩ ⟨k1,k2,k3⟩;dsimp only at k1 k2 k3;have k5:=k3.len;have fail: ∀(ls:LP) (j:Nat) (pl':Int),i<=j->j<=l.length->Q [.one (.l 10 ls),pb false] [rd l en j pl']:=fun ls j pl' h1 h2=>hQ ls false j pl' h1 h2 Zs;have good: ∀(ls:LP) (j:Nat) (pl':Int),i<j->j<=l.length->IsNds (8*(j-i-1)) ls->Q [.one (.l 10 ls),pb true] [rd l en j pl']:=fun ls j pl' h1 h2 h3=>hQ ls true j pl' Zo h2 fun _=>⟨h1,h3⟩
 simp(disch:=omega)
 repeat' (first
    | exact fail _ _ _ Zo Zo
    | exact good _ _ _ Zo Zo (k3.le Zo)
    | exact RdN.mk (_,j,_) rfl ⟨dO,dO,IsNds.le (IsNds.snoc k3 Za) dO⟩ dO
    | (refine hT l en _ _ _ hL Zo Zo (fun op n k m a pl' s s2 args ts ls ok j h1 h2 h3=>?_);cases ok;rotate_left;obtain ⟨h4,h5⟩:=h3 rfl;all_goals simp(disch:=omega))
    | (refine Zaf (fun hc=>?_) (fun hc=>?_)<;>simp(disch:=omega)[hc])
    | (refine ZaG H hL Zo (fun j h1 h2=>?_) ?_<;>simp(disch:=omega))
    | (refine ZbT H hL Zo (fun j h1 h2=>?_) ?_<;>simp(disch:=omega))
    | (refine Za8 H hL Zo (fun j s h1 h2 hs=>?_) ?_<;>simp(disch:=omega))
    | (refine ZaD H hL Zo (fun a=>?_);simp(disch:=omega))
    | (refine Zba H hL Zo (fun b hb=>?_);cases b;rotate_left;have hb2:=hb rfl;all_goals simp(disch:=omega))
    | (refine ZaR H hL Zo (fun b hb=>?_);cases b;rotate_left;have hb2:=hb rfl;all_goals simp(disch:=omega))
    | (refine ZaY H (by first|(exact Str.len Za)|decide) (fun z hz=>?_);simp(disch:=omega))
    | (refine Zb1 H hL Zo (fun k s m args ok j h1 h2 h3=>?_);cases ok;rotate_left;obtain ⟨h4,h5⟩:=h3 rfl;all_goals simp(disch:=omega)))
structure Alls (S:SF) (n:Nat):Prop where
 e:OkNdF S Zas n
 u:OkNdF S Za3 n
 p:OkNdF S ZaO n
 b:OkNdF S Zax n
 c:OkNdF S ZaF n
 s:OkSts S n
def alls (H:Has S): ∀n,Alls S n
 | 0=>⟨fun _ _ _ _ _ _ _ h=>by omega,fun _ _ _ _ _ _ _ h=>by omega,fun _ _ _ _ _ _ _ h=>by omega,fun _ _ _ _ _ _ _ h=>by omega,fun _ _ _ _ _ _ _ h=>by omega,fun _ _ _ _ _ _ _ h=>by omega⟩
 | n+1=>by
   have h:=alls H n;have u:OkNdF S Za3 (n+1):=fun l en pl i Q hL hi hn hQ=>Zvf H h.e h.s h.u hL hi hn hQ;have e:OkNdF S Zas (n+1):=ZwJ H (ZeV H Zd (ZeV H Zd (ZeV H Zd (ZeV H Zd (ZeV H Zd (Zrr H u))))));have p:OkNdF S ZaO (n+1):=fun l en pl i Q hL hi hn hQ=>Zru H h.p hL hi hn hQ;have b:OkNdF S Zax (n+1):=fun l en pl i Q hL hi hn hQ=>ZtI H h.s hL hi hn hQ;have c:OkNdF S ZaF (n+1):=fun l en pl i Q hL hi hn hQ=>Zhx H e h.b h.c hL hi hn hQ;have t:OkNdF S Zbg (n+1):=fun l en pl i Q hL hi hn hQ=>ZoR H e b h.c p hL hi hn hQ;exact ⟨e,u,p,b,c,Zns H t⟩
def Zop (H:Has S) (hL:Rl l) (hi:i<=l.length) (hQ:NdPost l en i Q):Gives S Zax [me] [rd l en i pl] Q:=(alls H (l.length+1)).b l en pl i Q hL hi Zo hQ
def IsNd.deinit {n a:Int} {m:Nat} {r:List P} (h:IsNd m r):IsNd (m+2) (rN 15 [] n 0 [] 0 [] [] [r] a):=
 (IsNd.mk Str.nil IsTy.zero IsTys.nil (IsNds.cons h IsNds.nil) (fun _=>by simp) (fun h=>absurd h Zd)).le Zo
def IsNd.withTs {op n a:Int} {s:LN} {m:Nat} {ts:LP} (hs:Str s) (h:IsTys m ts) (h1:op≠15) (h2:op≠12) (h3:(op=42∨op=50)->In64 n:=by first|(intro h;exact absurd h Zd)|(intro h;exact absurd h (by dsimp only;decide))|(intro h;exact absurd h Za)|(intro _;assumption)|(intro _;exact In64.wrap _)|assumption):IsNd (m+2) (rN op s n 0 [] 0 [] ts [] a):=
 (IsNd.mk hs IsTy.zero h IsNds.nil (fun h=>absurd h h1) (fun h=>absurd h h2) h3).le Zo
def Ztn (H:Has S) (hL:Rl l) (hi:i<=l.length) {op nn a:Int} (ho:op≠15) (ho2:op≠12) (ho3: ¬(op=42∨op=50)) (hQ:NdPost l en i Q):
  Gives S Zcc [me,aN op [] nn 0 [] 0 [] [] [] a] [rd l en i pl] Q:=by
 have hlen:=hL.1;refine .code H.Zma rfl ?_;simp(disch:=omega)[Zd8]
 repeat' (first
    | exact hQ.fail _ _ _ _ _ _ _ _ _ _ _ _ Zo Zo
    | (refine hQ.good _ _ _ _ _ _ _ _ _ _ _ _ Zo Zo ?_;first|exact IsNd.le (IsNd.over Za k3 (by first|assumption|decide) (by first|assumption|decide)) (by omega)|exact IsNd.le (IsNd.over Za (IsNds.snoc k3 (IsNd.deinit Za)) (by first|assumption|decide) (by first|assumption|decide)) Zo)
    | exact RdN.mk (_,j,_) rfl ⟨dO,dO,IsNds.le (IsNds.snoc k3 (IsNd.typed (by first|assumption|exact Str.nil) Za IsNds.nil Zd Zd)) dO⟩ dO
    | (refine Lp.rule (fun (b:LP×Nat×Int)=>[(0,.a me),fR 3,fR 4,(8,.a (.one (.tip 10 b.1))),(9999,.objs [rd l en b.2.1 b.2.2]),(10003,.a (aN op s nn 0 [] 0 [] [] [] a)),(10004,.a (aN0))]) (fun b=>i<b.2.1/\b.2.1<=l.length/\IsNds (8*(b.2.1-i)-8) b.1) (fun b=>l.length-b.2.1) (a₀:=(ls,j,pl)) Zs ⟨dO,dO,IsNds.le Za dO⟩ ?_;rintro ⟨ls,j,pl⟩ ⟨k1,k2,k3⟩;dsimp only at k1 k2 k3;have k5:=k3.len;simp(disch:=omega))
    | (refine Zh0 H hL Zo IsNds.nil Zo (fun ls ok j h1 h2 h3=>?_);cases ok;rotate_left;have h4:=h3 rfl;have h5:=h4.len;all_goals simp(disch:=omega))
    | (refine Zop H hL Zo (fun op n k m a pl' s s2 args ts ls ok j h1 h2 h3=>?_);cases ok;rotate_left;obtain ⟨h4,h5⟩:=h3 rfl;all_goals simp(disch:=omega))
    | (refine Zaf (fun hc=>?_) (fun hc=>?_)<;>simp(disch:=omega)[hc])
    | (refine ZaG H hL Zo (fun j h1 h2=>?_) ?_<;>simp(disch:=omega))
    | (refine ZbT H hL Zo (fun j h1 h2=>?_) ?_<;>simp(disch:=omega))
    | (refine Za8 H hL Zo (fun j s h1 h2 hs=>?_) ?_<;>simp(disch:=omega))
    | (refine ZaD H hL Zo (fun a=>?_);simp(disch:=omega))
    | (refine Zba H hL Zo (fun b hb=>?_);cases b;rotate_left;have hb2:=hb rfl;all_goals simp(disch:=omega))
    | (refine ZaR H hL Zo (fun b hb=>?_);cases b;rotate_left;have hb2:=hb rfl;all_goals simp(disch:=omega))
    | (refine ZaY H (by first|(exact Str.len Za)|decide) (fun z hz=>?_);simp(disch:=omega))
    | (refine Zb1 H hL Zo (fun k s m args ok j h1 h2 h3=>?_);cases ok;rotate_left;obtain ⟨h4,h5⟩:=h3 rfl;all_goals simp(disch:=omega)))
def Zwh (H:Has S) (hL:Rl l) (hi:i<=l.length) {op nn a:Int} (ho:op≠15) (ho2:op≠12) (ho3: ¬(op=42∨op=50)) (hQ:NdPost l en i Q):
  Gives S ZdQ [me,aN op [] nn 0 [] 0 [] [] [] a] [rd l en i pl] Q:=by
 have hlen:=hL.1;refine .code H.ZoW rfl ?_;simp(disch:=omega)[Zfw]
 repeat' (first
    | exact hQ.fail _ _ _ _ _ _ _ _ _ _ _ _ Zo Zo
    | (refine hQ.good _ _ _ _ _ _ _ _ _ _ _ _ Zo Zo ?_;first|exact IsNd.le (IsNd.over Za k3 (by first|assumption|decide) (by first|assumption|decide)) Zo)
    | exact RdN.mk (_,j,_) rfl ⟨dO,dO,IsNds.le (IsNds.snoc k3 (IsNd.withTs (by first|assumption|exact Str.nil) (by first|assumption|exact IsTys.nil) Zd Zd)) dO⟩ dO
    | (refine Lp.rule (fun (b:LP×Nat×Int)=>[(0,.a me),fR 3,fR 4,(8,.a (.one (.tip 10 b.1))),(9999,.objs [rd l en b.2.1 b.2.2]),(10003,.a (aN op s nn 0 [] 0 [] [] [] a)),(10004,.a (aN0))]) (fun b=>i<b.2.1/\b.2.1<=l.length/\IsNds (8*(b.2.1-i)-8) b.1) (fun b=>l.length-b.2.1) (a₀:=(ls,j,pl)) Zs ⟨dO,dO,IsNds.le Za dO⟩ ?_;rintro ⟨ls,j,pl⟩ ⟨k1,k2,k3⟩;dsimp only at k1 k2 k3;have k5:=k3.len;simp(disch:=omega))
    | (refine Zh0 H hL Zo IsNds.nil Zo (fun ls ok j h1 h2 h3=>?_);cases ok;rotate_left;have h4:=h3 rfl;have h5:=h4.len;all_goals simp(disch:=omega))
    | (refine Zsk H hL Zo (fun ts ok j h1 h2 h3=>?_);cases ok;rotate_left;obtain ⟨h4,h5⟩:=h3 rfl;all_goals simp(disch:=omega))
    | (refine Zaf (fun hc=>?_) (fun hc=>?_)<;>simp(disch:=omega)[hc])
    | (refine ZaG H hL Zo (fun j h1 h2=>?_) ?_<;>simp(disch:=omega))
    | (refine ZbT H hL Zo (fun j h1 h2=>?_) ?_<;>simp(disch:=omega))
    | (refine Za8 H hL Zo (fun j s h1 h2 hs=>?_) ?_<;>simp(disch:=omega))
    | (refine ZaD H hL Zo (fun a=>?_);simp(disch:=omega))
    | (refine Zba H hL Zo (fun b hb=>?_);cases b;rotate_left;have hb2:=hb rfl;all_goals simp(disch:=omega))
    | (refine ZaR H hL Zo (fun b hb=>?_);cases b;rotate_left;have hb2:=hb rfl;all_goals simp(disch:=omega))
    | (refine ZaY H (by first|(exact Str.len Za)|decide) (fun z hz=>?_);simp(disch:=omega))
    | (refine Zb1 H hL Zo (fun k s m args ok j h1 h2 h3=>?_);cases ok;rotate_left;obtain ⟨h4,h5⟩:=h3 rfl;all_goals simp(disch:=omega)))
def ZhW (H:Has S) {body:Bool} (hL:Rl l) (hi:i<=l.length) (hQ:NdPost l en i Q):Gives S Zbm [me,pb body] [rd l en i pl] Q:=by
 have hlen:=hL.1;refine .code H.Zke rfl ?_;cases body<;>simp(disch:=omega)[Zdl]
 all_goals
  repeat' (first
      | exact hQ.fail _ _ _ _ _ _ _ _ _ _ _ _ Zo Zo
      | (refine hQ.good _ _ _ _ _ _ _ _ _ _ _ _ Zo Zo ?_;first|exact IsNd.le (IsNd.typed Za (by first|assumption|exact IsTy.unit) Za Zd Zd) (by omega)|exact IsNd.le (IsNd.typed Za (by first|assumption|exact IsTy.unit) (IsNds.snoc Za Za) Zd Zd) Zo)
      | (refine Zh0 H hL Zo IsNds.nil Zo (fun ls ok j h1 h2 h3=>?_);cases ok;rotate_left;have h4:=h3 rfl;have h5:=h4.len;all_goals simp(disch:=omega))
      | (refine Zn1 H hL Zo Za Zo (fun ls ok j h1 h2 h3=>?_);cases ok;rotate_left;have h4:=h3 rfl;have h5:=h4.len;all_goals simp(disch:=omega))
      | (refine ZnD H hL Zo Za Zo (fun ls ok j h1 h2 h3=>?_);cases ok;rotate_left;have h4:=h3 rfl;have h5:=h4.len;all_goals simp(disch:=omega))
      | (refine ZnD H hL Zo (IsNds.snoc Za (IsNd.typed (by first|assumption|exact Str.nil) Za IsNds.nil Zd Zd)) Zo (fun ls ok j h1 h2 h3=>?_);cases ok;rotate_left;have h4:=h3 rfl;have h5:=h4.len;all_goals simp(disch:=omega))
      | (refine Zop H hL Zo (fun op n k m a pl' s s2 args ts ls ok j h1 h2 h3=>?_);cases ok;rotate_left;obtain ⟨h4,h5⟩:=h3 rfl;all_goals simp(disch:=omega))
      | (refine Zaf (fun hc=>?_) (fun hc=>?_)<;>simp(disch:=omega)[hc])
      | (refine ZaG H hL Zo (fun j h1 h2=>?_) ?_<;>simp(disch:=omega))
      | (refine ZbT H hL Zo (fun j h1 h2=>?_) ?_<;>simp(disch:=omega))
      | (refine Za8 H hL Zo (fun j s h1 h2 hs=>?_) ?_<;>simp(disch:=omega))
      | (refine ZaD H hL Zo (fun a=>?_);simp(disch:=omega))
      | (refine Zba H hL Zo (fun b hb=>?_);cases b;rotate_left;have hb2:=hb rfl;all_goals simp(disch:=omega))
      | (refine ZaR H hL Zo (fun b hb=>?_);cases b;rotate_left;have hb2:=hb rfl;all_goals simp(disch:=omega))
      | (refine ZaY H (by first|(exact Str.len Za)|decide) (fun z hz=>?_);simp(disch:=omega))
      | (refine Zb1 H hL Zo (fun k s m args ok j h1 h2 h3=>?_);cases ok;rotate_left;obtain ⟨h4,h5⟩:=h3 rfl;all_goals simp(disch:=omega)))
def Zp0 (H:Has S) (hL:Rl l) (hi:i<=l.length) {op nn a:Int} (ho:op≠15) (ho2:op≠12) (ho3: ¬(op=42∨op=50)) (hQ:NdPost l en i Q):
  Gives S Zcj [me,aN op [] nn 0 [] 0 [] [] [] a] [rd l en i pl] Q:=by
 have hlen:=hL.1;refine .code H.Zka rfl ?_;simp(disch:=omega)[Zc8]
 repeat' (first
    | exact hQ.fail _ _ _ _ _ _ _ _ _ _ _ _ Zo Zo
    | (refine hQ.good _ _ _ _ _ _ _ _ _ _ _ _ Zo Zo ?_;first|exact IsNd.le (IsNd.over Za k3 (by first|assumption|decide) (by first|assumption|decide)) Zo)
    | exact RdN.mk (_,j,_) rfl ⟨dO,dO,IsNds.le (IsNds.snoc k3 (IsNd.over Za Za Zd Zd)) dO⟩ dO
    | exact RdN.mk (_,j,_) rfl ⟨dO,dO,IsNds.le (IsNds.snoc k3 Za) dO⟩ dO
    | (refine Lp.rule (fun (b:LP×Nat×Int)=>[(0,.a me),fR 3,fR 4,(8,.a (.one (.tip 10 b.1))),(9999,.objs [rd l en b.2.1 b.2.2]),(10003,.a (aN op s nn 0 [] 0 [] [] [] a)),(10004,.a (aN0))]) (fun b=>i<b.2.1/\b.2.1<=l.length/\IsNds (8*(b.2.1-i)-8) b.1) (fun b=>l.length-b.2.1) (a₀:=(ls,j,pl)) Zs ⟨dO,dO,IsNds.le k3 dO⟩ ?_;rintro ⟨ls,j,pl⟩ ⟨k1,k2,k3⟩;dsimp only at k1 k2 k3;have k5:=k3.len;simp(disch:=omega))
    | (refine Lp.rule (fun (b:LP×Nat×Int)=>[(0,.a me),fR 3,fR 4,(8,.a (.one (.tip 10 b.1))),(9999,.objs [rd l en b.2.1 b.2.2]),(10003,.a (aN op s nn 0 [] 0 [] [] [] a)),(10004,.a (aN0))]) (fun b=>i<b.2.1/\b.2.1<=l.length/\IsNds (8*(b.2.1-i)-8) b.1) (fun b=>l.length-b.2.1) (a₀:=([],j,pl)) Zs ⟨dO,dO,IsNds.nil.le (Yd _)⟩ ?_;rintro ⟨ls,j,pl⟩ ⟨k1,k2,k3⟩;dsimp only at k1 k2 k3;have k5:=k3.len;simp(disch:=omega))
    | (refine ZoE H hL Zo (fun ls ok j h1 h2 h3=>?_);cases ok;rotate_left;have h4:=h3 rfl;have h5:=h4.len;all_goals simp(disch:=omega))
    | (refine ZhW H hL Zo (fun op n k m a pl' s s2 args ts ls ok j h1 h2 h3=>?_);cases ok;rotate_left;obtain ⟨h4,h5⟩:=h3 rfl;all_goals simp(disch:=omega))
    | (refine Zaf (fun hc=>?_) (fun hc=>?_)<;>simp(disch:=omega)[hc])
    | (refine ZaG H hL Zo (fun j h1 h2=>?_) ?_<;>simp(disch:=omega))
    | (refine ZbT H hL Zo (fun j h1 h2=>?_) ?_<;>simp(disch:=omega))
    | (refine Za8 H hL Zo (fun j s h1 h2 hs=>?_) ?_<;>simp(disch:=omega))
    | (refine ZaD H hL Zo (fun a=>?_);simp(disch:=omega))
    | (refine Zba H hL Zo (fun b hb=>?_);cases b;rotate_left;have hb2:=hb rfl;all_goals simp(disch:=omega))
    | (refine ZaR H hL Zo (fun b hb=>?_);cases b;rotate_left;have hb2:=hb rfl;all_goals simp(disch:=omega))
    | (refine ZaY H (by first|(exact Str.len Za)|decide) (fun z hz=>?_);simp(disch:=omega))
    | (refine Zb1 H hL Zo (fun k s m args ok j h1 h2 h3=>?_);cases ok;rotate_left;obtain ⟨h4,h5⟩:=h3 rfl;all_goals simp(disch:=omega)))
def Zsi (H:Has S) (hL:Rl l) (hi:i<=l.length) {op nn a:Int} (ho:op≠15) (ho2:op≠12) (ho3: ¬(op=42∨op=50)) (hQ:NdPost l en i Q):
  Gives S ZcM [me,aN op [] nn 0 [] 0 [] [] [] a] [rd l en i pl] Q:=by
 have hlen:=hL.1;refine .code H.Zl6 rfl ?_;simp(disch:=omega)[Zee];refine Zb1 H hL Zo (fun tk tn tm targs ok jt g1 g2 g3=>?_);cases ok
 ·simp(disch:=omega);exact hQ.fail _ _ _ _ _ _ _ _ _ _ _ _ Zo Zo
 obtain ⟨g4,g5⟩:=g3 rfl;have hjt:=g2;simp(disch:=omega)
 repeat' (first
    | exact hQ.fail _ _ _ _ _ _ _ _ _ _ _ _ Zo Zo
    | (refine hQ.good _ _ _ _ _ _ _ _ _ _ _ _ Zo Zo ?_;first|exact IsNd.le (IsNd.typed Za g5 k3 (by first|assumption|decide) (by first|assumption|decide)) Zo)
    | exact RdN.mk (_,j,_) rfl ⟨dO,dO,IsNds.le (IsNds.snoc k3 (IsNd.typed (by first|assumption|exact Str.nil) Za IsNds.nil Zd Zd)) dO⟩ dO
    | exact RdN.mk (_,j,_) rfl ⟨dO,dO,IsNds.le (IsNds.snoc k3 Za) dO⟩ dO
    | (refine Lp.rule (fun (b:LP×Nat×Int)=>[(0,.a me),fR 3,fR 4,(10,.a (.one (.tip 10 b.1))),(9999,.objs [rd l en b.2.1 b.2.2]),(10003,.a (aN op s nn tk tn tm targs [] [] a)),(10004,.a (aN0))]) (fun b=>jt<b.2.1/\b.2.1<=l.length/\IsNds (8*(b.2.1-jt)-8) b.1) (fun b=>l.length-b.2.1) (a₀:=(ls,j,pl)) Zs ⟨dO,dO,IsNds.le Za dO⟩ ?_;rintro ⟨ls,j,pl⟩ ⟨k1,k2,k3⟩;dsimp only at k1 k2 k3;have k5:=k3.len;simp(disch:=omega))
    | (refine ZnD H hL Zo IsNds.nil Zo (fun ls ok j h1 h2 h3=>?_);cases ok;rotate_left;have h4:=h3 rfl;have h5:=h4.len;all_goals simp(disch:=omega))
    | (refine ZhW H hL Zo (fun op n k m a pl' s s2 args ts ls ok j h1 h2 h3=>?_);cases ok;rotate_left;obtain ⟨h4,h5⟩:=h3 rfl;all_goals simp(disch:=omega))
    | (refine Zaf (fun hc=>?_) (fun hc=>?_)<;>simp(disch:=omega)[hc])
    | (refine ZaG H hL Zo (fun j h1 h2=>?_) ?_<;>simp(disch:=omega))
    | (refine ZbT H hL Zo (fun j h1 h2=>?_) ?_<;>simp(disch:=omega))
    | (refine Za8 H hL Zo (fun j s h1 h2 hs=>?_) ?_<;>simp(disch:=omega))
    | (refine ZaD H hL Zo (fun a=>?_);simp(disch:=omega))
    | (refine Zba H hL Zo (fun b hb=>?_);cases b;rotate_left;have hb2:=hb rfl;all_goals simp(disch:=omega))
    | (refine ZaR H hL Zo (fun b hb=>?_);cases b;rotate_left;have hb2:=hb rfl;all_goals simp(disch:=omega))
    | (refine ZaY H (by first|(exact Str.len Za)|decide) (fun z hz=>?_);simp(disch:=omega))
    | (refine Zb1 H hL Zo (fun k s m args ok j h1 h2 h3=>?_);cases ok;rotate_left;obtain ⟨h4,h5⟩:=h3 rfl;all_goals simp(disch:=omega)))
def Zl1 (H:Has S) (hL:Rl l) (hi:i<=l.length) (hQ:NdPost l en i Q):Gives S ZbF [me] [rd l en i pl] Q:=by
 have hlen:=hL.1;refine .code H.Zh2 rfl ?_;have n1:ZfP .and .i64 3 1=some (.i 1):=rfl;have n2:ZfP .and .i64 1 1=some (.i 1):=rfl;have n3:ZfP .and .i64 2 1=some (.i 0):=rfl;have n4:ZfP .and .i64 0 1=some (.i 0):=rfl;simp(disch:=omega)[Zcm]
 repeat' (first
    | exact hQ.fail _ _ _ _ _ _ _ _ _ _ _ _ Zo Zo
    | (refine hQ.good _ _ _ _ _ _ _ _ _ _ _ _ Zo Zo ?_;first|exact IsNd.le Za Zo)
    | (refine Ztn H hL Zo Zd Zd Zd (fun op n k m a pl' s s2 args ts ls ok j h1 h2 h3=>?_);cases ok;rotate_left;obtain ⟨h4,h5⟩:=h3 rfl;all_goals simp(disch:=omega)[n1,n2,n3,n4])
    | (refine Zwh H hL Zo Zd Zd Zd (fun op n k m a pl' s s2 args ts ls ok j h1 h2 h3=>?_);cases ok;rotate_left;obtain ⟨h4,h5⟩:=h3 rfl;all_goals simp(disch:=omega)[n1,n2,n3,n4])
    | (refine Zp0 H hL Zo Zd Zd Zd (fun op n k m a pl' s s2 args ts ls ok j h1 h2 h3=>?_);cases ok;rotate_left;obtain ⟨h4,h5⟩:=h3 rfl;all_goals simp(disch:=omega)[n1,n2,n3,n4])
    | (refine Zsi H hL Zo Zd Zd Zd (fun op n k m a pl' s s2 args ts ls ok j h1 h2 h3=>?_);cases ok;rotate_left;obtain ⟨h4,h5⟩:=h3 rfl;all_goals simp(disch:=omega)[n1,n2,n3,n4])
    | (refine ZhW H hL Zo (fun op n k m a pl' s s2 args ts ls ok j h1 h2 h3=>?_);cases ok;rotate_left;obtain ⟨h4,h5⟩:=h3 rfl;all_goals simp(disch:=omega)[n1,n2,n3,n4])
    | (refine Zaf (fun hc=>?_) (fun hc=>?_)<;>simp(disch:=omega)[hc,n1,n2,n3,n4])
    | (refine ZaG H hL Zo (fun j h1 h2=>?_) ?_<;>simp(disch:=omega)[n1,n2,n3,n4])
    | (refine ZbT H hL Zo (fun j h1 h2=>?_) ?_<;>simp(disch:=omega)[n1,n2,n3,n4])
    | (refine Za8 H hL Zo (fun j s h1 h2 hs=>?_) ?_<;>simp(disch:=omega)[n1,n2,n3,n4])
    | (refine ZaD H hL Zo (fun a=>?_);simp(disch:=omega)[n1,n2,n3,n4])
    | (refine Zba H hL Zo (fun b hb=>?_);cases b;rotate_left;have hb2:=hb rfl;all_goals simp(disch:=omega)[n1,n2,n3,n4])
    | (refine ZaR H hL Zo (fun b hb=>?_);cases b;rotate_left;have hb2:=hb rfl;all_goals simp(disch:=omega)[n1,n2,n3,n4])
    | (refine ZaY H (by first|(exact Str.len Za)|decide) (fun z hz=>?_);simp(disch:=omega)[n1,n2,n3,n4])
    | (refine Zb1 H hL Zo (fun k s m args ok j h1 h2 h3=>?_);cases ok;rotate_left;obtain ⟨h4,h5⟩:=h3 rfl;all_goals simp(disch:=omega)[n1,n2,n3,n4]))
def IsNds.get {m:Nat} {rs:LP} (h:IsNds m rs) {j:Nat} (hj:j<rs.length): ∃m',m'<=m/\IsNd m' rs[j]:=by
 induction rs generalizing m j with
 | nil=>simp at hj
 | cons r rs ih=>
   obtain ⟨m1,m2,h1,h2,h3⟩:=h.uncons;cases j with
   | zero=>exact ⟨m1,by omega,h2⟩
   | succ j=>
     obtain ⟨m',h4,h5⟩:=ih h3 (j:=j) (by simpa using hj);exact ⟨m',by omega,h5⟩
def ZCh (S:SF) (n:Nat):Prop:= ∀(mm:Nat) (op n' k m a:Int) (s s2:LN) (args ts ls:LP) (Q:QF),mm<n->mm<=1000000->
 IsNd mm (rN op s n' k s2 m args ts ls a)->(∀x y:Int,Q [pi x,pi y] [])->
 Gives S ZhI [aN op s n' k s2 m args ts ls a] [] Q
def ZsZ (H:Has S): ∀n,ZCh S n
 | 0=>fun mm op n' k m a s s2 args ts ls Q h=>by omega
 | n+1=>by
   intro mm op n' k m a s s2 args ts ls Q hm hmm hn hQ;have ih:=ZsZ H n;obtain ⟨m1,m2,m3,g1,g2,g3,g4,g5,g6,g7⟩:=hn.inv;have g8:=g5.len;refine .code H.ZCj rfl ?_;simp(disch:=omega)[Zo4];refine Lp.rule (fun (b:Int×Int×Nat)=>[fR 1,(4,.a (pi b.1)),(5,.a (pi b.2.1)),(6,.a (pi b.2.2)),o9,(10001,.a (aN op s n' k s2 m args ts ls a))])
     (fun b=>b.2.2<=ls.length) (fun b=>ls.length-b.2.2) (a₀:=(1,0,0)) Zs (Yd _) ?_
   rintro ⟨x,y,j⟩ k1;dsimp only at k1;by_cases hj:j<ls.length
   · obtain ⟨m',q1,q2⟩:=g5.get hj;obtain ⟨op2,n2,k2,mm2,a2,s3,s4,args2,ts2,ls2,e⟩:=q2.form;rw [e] at q2;simp(disch:=omega)[e];refine ih m' _ _ _ _ _ _ _ _ _ _ _ Zo Zo q2 fun u v=>?_;simp(disch:=omega);exact RdN.mk (_,_,j+1) rfl hj dO
   · simp(disch:=omega);exact hQ _ _
def Zsq (H:Has S) {mm:Nat} {op n' k m a:Int} {s s2:LN} {args ts ls:LP} (hmm:mm<=1000000)
 (hn:IsNd mm (rN op s n' k s2 m args ts ls a)) (hQ: ∀x y:Int,Q [pi x,pi y] []):
 Gives S ZhI [aN op s n' k s2 m args ts ls a] [] Q:=
 ZsZ H (mm+1) mm _ _ _ _ _ _ _ _ _ _ _ (Yz _) hmm hn hQ
def Zhh (H:Has S) {k a n:Int} {s:LN} (hQ: ∀x:Int,Q [pi x] []):Gives S Zg3 [.agg [.i k,.s s,.i a,.i n]] [] Q:=by
 refine .code H.Zwe rfl ?_;simp(disch:=omega)[Zly]
 repeat' (first
    | exact hQ _
    | (refine Zaf (fun hc=>?_) (fun hc=>?_)<;>simp(disch:=omega)[hc]))
def ZoU (H:Has S) {k a n:Int} {s:LN} (hQ: ∀x:Bool,Q [pb x] []):Gives S Zhn [.agg [.i k,.s s,.i a,.i n]] [] Q:=by
 refine .code H.ZtJ rfl ?_;simp(disch:=omega)[Zi9]
 repeat' (first
    | exact hQ _
    | (refine Zaf (fun hc=>?_) (fun hc=>?_)<;>simp(disch:=omega)[hc]))
def ZjX (H:Has S) (hlen:l.length<=3000) {st at_:Nat} (h1:st<l.length) (h2:st<=at_) (h3:at_<=l.length) (hQ: ∀j:Nat,st<j->j<=l.length->Q [pi j] []):
  Gives S Zen [.one (.l 4 (toks l)),pi st,pi at_] [] Q:=by
 have lp2: ∀(k:Nat) (op:Int),st<k->k<=l.length-> ∀(b:SCode) (kk:List Fr) (Q':X->Env->Prop),
   (∀(k:Nat) (op:Int),st<k->k<=l.length->Go S b [(0,.a (.one (.l 4 (toks l)))),(7,.a (pi k)),(8,.a (pi op)),o9] (.inv (Rd [0,7,8,9999] (fun (a:Nat×Int)=>[(0,.a (.one (.l 4 (toks l)))),(7,.a (pi a.1)),(8,.a (pi a.2)),o9]) (fun a=>st<a.1/\a.1<=l.length) (fun a=>l.length-a.1) (k,op))::kk) Q')->
   Lp S [0,7,8,9999] b [(0,.a (.one (.l 4 (toks l)))),(7,.a (pi k)),(8,.a (pi op)),o9] kk Q':=fun k op e1 e2 b kk Q' h=>
  Lp.rule _ _ _ (a₀:=(k,op)) rfl ⟨e1,e2⟩ fun a ha=>h a.1 a.2 ha.1 ha.2
 have lp1: ∀(k:Nat),st<k->k<=l.length-> ∀(b:SCode) (kk:List Fr) (Q':X->Env->Prop),
   (∀(j:Nat) (op:Int),j<=l.length->Go S b [(0,.a (.one (.l 4 (toks l)))),(7,.a (pi k)),(8,.a (pi op)),(9,.a (pi j)),o9] (.inv (Rd [0,7,8,9,9999] (fun (a:Nat×Int)=>[(0,.a (.one (.l 4 (toks l)))),(7,.a (pi k)),(8,.a (pi a.2)),(9,.a (pi a.1)),o9]) (fun a=>a.1<=l.length) (fun a=>l.length-a.1) (j,op))::kk) Q')->
   Lp S [0,7,8,9,9999] b [(0,.a (.one (.l 4 (toks l)))),(7,.a (pi k)),(8,.a (pi 0)),(9,.a (pi st)),o9] kk Q':=fun k e1 e2 b kk Q' h=>
  Lp.rule _ _ _ (a₀:=(st,0)) rfl (Nat.le_of_lt h1) fun a ha=>h a.1 a.2 ha
 refine .code H.Zqc rfl ?_;by_cases e:at_=st
 ·simp(disch:=omega)[Zes,e];rw [<-jU,<-qU];have hk:st<st+1:=Yz _;have hk2:st+1<=l.length:=h1;generalize st+1=k at hk hk2⊢;refine lp1 k hk hk2 _ _ _ fun j op hj=>?_;by_cases hjk:j<k
  ·have hjl:j<l.length:=by omega
   simp(disch:=omega)[ZcF,Tok.enc];refine Zhh H fun x=>?_;simp(disch:=omega);exact RdN.mk (j+1,_) rfl hjl dO
  ·simp(disch:=omega);refine lp2 k op hk hk2 _ _ _ fun k op hk hk2=>?_;by_cases hkl:k<l.length
   ·simp(disch:=omega)[ZcF,Tok.enc];refine ZoU H fun x=>?_;cases x
    ·simp(disch:=omega)[ZcF,Tok.enc];refine Zhh H fun y=>?_;simp(disch:=omega);exact RdN.mk (k+1,_) rfl ⟨dO,hkl⟩ dO
    ·simp(disch:=omega);refine Zaf (fun hc=>?_) (fun hc=>?_)
     ·simp(disch:=omega)[hc,ZcF,Tok.enc];refine Zhh H fun y=>?_;simp(disch:=omega);exact RdN.mk (k+1,_) rfl ⟨dO,hkl⟩ dO
     ·simp(disch:=omega)[hc];exact hQ k hk hk2
   ·simp(disch:=omega);exact hQ k hk hk2
 ·have hk:st<at_:=by omega
  have hk2:=h3;simp(disch:=omega)[Zes,e];generalize at_=k at hk hk2⊢;refine lp1 k hk hk2 _ _ _ fun j op hj=>?_;by_cases hjk:j<k
  ·have hjl:j<l.length:=by omega
   simp(disch:=omega)[ZcF,Tok.enc];refine Zhh H fun x=>?_;simp(disch:=omega);exact RdN.mk (j+1,_) rfl hjl dO
  ·simp(disch:=omega);refine lp2 k op hk hk2 _ _ _ fun k op hk hk2=>?_;by_cases hkl:k<l.length
   ·simp(disch:=omega)[ZcF,Tok.enc];refine ZoU H fun x=>?_;cases x
    ·simp(disch:=omega)[ZcF,Tok.enc];refine Zhh H fun y=>?_;simp(disch:=omega);exact RdN.mk (k+1,_) rfl ⟨dO,hkl⟩ dO
    ·simp(disch:=omega);refine Zaf (fun hc=>?_) (fun hc=>?_)
     ·simp(disch:=omega)[hc,ZcF,Tok.enc];refine Zhh H fun y=>?_;simp(disch:=omega);exact RdN.mk (k+1,_) rfl ⟨dO,hkl⟩ dO
     ·simp(disch:=omega)[hc];exact hQ k hk hk2
   ·simp(disch:=omega);exact hQ k hk hk2
def Zow (H:Has S) {src:LN} (hl:src.length<ZeA) (hb:Byt src)
  (h1: ∀ls:LP,IsNds 24000 ls->Q [aN 1 [] 0 0 [] 0 [] [] ls 0,.one (.l 2 [])] [])
  (h2: ∀(op n k m a:Int) (s s2:LN) (args ts ls fs:LP),fs≠[]->fs.length<=20->Q [aN op s n k s2 m args ts ls a,.one (.l 2 fs)] []):
  Gives S ZgA [ps src] [] Q:=by
 have hl':=hl;unfold ZeA at hl';refine .code H.ZvQ rfl ?_;simp(disch:=omega)[ZkN];refine Ztp H hl hb (fun l k1 k2 k3=>?_) (fun c a hc=>?_)
 ·have hL:Rl l:=⟨k1,fun t ht=>⟨Yy (k2 t ht).1 k3,(k2 t ht).2⟩⟩
  simp(disch:=omega);refine Lp.rule (fun (b:LP×Int×LP×Nat×Int)=>[fR 2,(4,.a (.one (.l 4 (toks l)))),(6,.a (.one (.ref ⟨true,10031,0⟩))),fR 7,(8,.a (pi b.2.1)),(9,.a (.one (.tip 2 b.2.2.1))),o9,
    (10002,.a (aN0)),(10007,.a (.agg [.i 1,.s [],.i 0,.i 0,.s [],.i 0,.tip 4 [],.tip 4 [],.tip 10 b.1,.i 0])),
    (10031,.a (.agg (rd l src.length b.2.2.2.1 b.2.2.2.2)))])
   (fun b=>IsNds (8*b.2.2.2.1) b.1/\b.2.2.1.length<=20/\b.2.2.2.1<=l.length) (fun b=>l.length-b.2.2.2.1) (a₀:=([],1,[],0, -1)) Zs ⟨IsNds.nil.le (Yd _),by simp,Yd _⟩ ?_
  rintro ⟨ls,nodes,fs,i,pl⟩ ⟨q1,q2,q3⟩;dsimp only at q1 q2 q3;have q4:=q1.len;by_cases hlt:i<l.length
  ·by_cases hfs:fs.length<20
   ·simp(disch:=omega);refine Zl1 H hL q3 fun op n k m a pl' s s2 args ts ns ok j c1 c2 c3=>?_;cases ok
    ·simp(disch:=omega);refine Zaf (fun hc=>?_) (fun hc=>?_)
     ·simp(disch:=omega)[hc];refine ZjX H k1 hlt c1 c2 fun j2 b1 b2=>?_;simp(disch:=omega);exact RdN.mk (_,_,_,j2,_) rfl ⟨q1.le dO,by simp;omega,b2⟩ dO
     ·simp(disch:=omega)[hc];refine ZaD H hL c2 fun a=>?_;simp(disch:=omega);refine ZjX H k1 hlt c1 c2 fun j2 b1 b2=>?_;simp(disch:=omega);exact RdN.mk (_,_,_,j2,_) rfl ⟨q1.le dO,by simp;omega,b2⟩ dO
    ·obtain ⟨c4,c5⟩:=c3 rfl;simp(disch:=omega);refine Zsq H Zo c5 fun u v=>?_;simp(disch:=omega);refine Zaf (fun hc=>?_) (fun hc=>?_)
     ·simp(disch:=omega)[hc,ZcF,Tok.enc];exact RdN.mk (_,_,_,j,_) rfl ⟨q1.le dO,by simp;omega,c2⟩ dO
     ·simp(disch:=omega)[hc];refine Zaf (fun hc2=>?_) (fun hc2=>?_)
      ·simp(disch:=omega)[hc2,ZcF,Tok.enc];exact RdN.mk (_,_,_,j,_) rfl ⟨q1.le dO,by simp;omega,c2⟩ dO
      ·simp(disch:=omega)[hc2];exact RdN.mk (_,_,_,j,_) rfl ⟨(q1.snoc c5).le dO,q2,c2⟩ dO
   ·simp(disch:=omega);exact h2 _ _ _ _ _ _ _ _ _ _ _ (fun e=>hfs (by rw [e];decide)) q2
  ·simp(disch:=omega);by_cases hf:fs=[]
   ·subst hf;exact h1 _ (q1.le Zo)
   ·exact h2 _ _ _ _ _ _ _ _ _ _ _ hf q2
 ·simp(disch:=omega)[hc];exact h2 _ _ _ _ _ _ _ _ _ _ _ Zs Zs
end Go.Am.Fe
end
