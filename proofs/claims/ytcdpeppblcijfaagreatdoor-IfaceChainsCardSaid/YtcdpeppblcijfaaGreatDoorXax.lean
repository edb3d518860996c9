/- Part. -/
import Derived.Test.YtcdpeppblcijfaaGreatDoorXaw
set_option maxRecDepth 999999
set_option maxHeartbeats 0
set_option linter.all false
section
namespace Go.Am.Fe
variable {S:SF} {Q:QF}
attribute [local simp] ZbO if_pos if_neg decide_eq_true decide_eq_false Yi Yj ZgF Ops.callv List.idxOf?_cons
def ZHq {α β:Type} {f:α->List β} {k:Nat}: ∀{l:List α},(∀x∈l,(f x).length<=k)->(l.flatMap f).length<=l.length*k
 | [],_=>by simp
 | x::l,h=>by
   have h1:=h x Yr
   have h2:=ZHq (l:=l) fun y hy=>h y (Yk _ hy)
   rw [List.flatMap_cons,YE,YN,Nat.succ_mul]
   omega
def ZHl {α:Type} {f:α->LN} {l:List α}:(ZDP f l).length<=l.length:=by
 unfold ZDP ZDO
 exact Yy (List.length_filterMap_le _ _) Zs
def ZG6 {α β:Type} {f:α->LN} {g:α->List β} {k:Nat} {l:List α} (hl:l.length<=100000) (h: ∀x∈l,(g x).length<=k):((ZDP f l).flatMap g).length<=100000*k:=by
 refine Yy (ZHq fun x hx=>?_) (Nat.mul_le_mul (Yy ZHl hl) (Yc k))
 obtain ⟨i,hi,e,_⟩:=ZDI hx
 exact h x (e ▸ Yl hi)
def ZG3 {α β:Type} {f:α->β} {p:α->Bool} {l:List α} {n:Nat}:(((l.take n).filter p).map f).length<=l.length:=by
 rw [Yh]
 exact Yy (List.length_filter_le _ _) (List.length_take_le' _ _)
def ZG9 {x y:Mo} (hx:x.Good) (hy:y.Good):(ZD1 x y).length<68719476736:=by
 have a1:((ZDP No.s x.ns).flatMap (No.rs y)).length<=100000*180001:=ZG6 hx.n.1 fun n hn=>by
  have g:=hx.n.2 n hn
  have g1:=g.fl
  have g2:=g.cl
  rw [No.rs]
  split
  ·simp
  ·rw [No.cmp]
   split
   ·split
    ·split<;>simp
    ·rw [No.mems,No.mf,No.mc,YE]
     exact Yy (Nat.add_le_add ZG3 ZG3) Zo
   ·simp
 have a2:((ZDP Pr.s x.ps).flatMap (Pr.rs y)).length<=100000*1:=ZG6 hx.p.1 fun n hn=>by
  rw [Pr.rs]
  split
  ·simp
  ·split<;>simp
 have a3:((ZDP Co.nm x.cs).flatMap (Co.rsn y)).length<=100000*1:=ZG6 hx.c.1 fun n hn=>by
  rw [Co.rsn]
  split
  ·simp
  ·split<;>simp
 have a4:(ZEb x y x.free.length).length<=100000:=by
  rw [ZEb]
  exact Yy ZG3 (Yy Mo.freeTo_len hx.f.1)
 have a5:(ZEa x y y.free.length).length<=100000:=by
  rw [ZEa]
  exact Yy ZG3 (Yy Mo.freeTo_len hy.f.1)
 have a6:((ZDP Pr.s y.ps).flatMap (Pr.chosen x)).length<=100000*100000:=ZG6 hy.p.1 fun n hn=>by
  have g:=(hy.p.2 n hn).2.2.1
  rw [Pr.chosen]
  split
  ·simp
  ·rw [Pr.ch]
   exact Yy ZG3 g
 have a7:((ZDP No.s x.ns).flatMap (No.chosen x y)).length<=100000*90000:=ZG6 hx.n.1 fun n hn=>by
  rw [No.chosen]
  split
  ·simp
  ·rename_i w hf
   split
   ·simp
   ·rw [No.ch]
    exact Yy ZG3 (hy.n.2 w (List.mem_of_find?_eq_some hf)).fl
 have a8:((ZDP Co.nm y.cs).flatMap (Co.news x)).length<=100000*1:=ZG6 hy.c.1 fun n hn=>by
  rw [Co.news]
  split<;>simp
 simp only [ZD1,YE]
 omega
abbrev TabS (S:SF) (src:LN):Prop:= ∀Q:QF,(∀(m:Mo) (ok:Bool),m.Good->(ok=true->m.ns≠[]/\m.Dist/\m.Syms)->Q [.agg m.cs',pb ok] [])->Gives S Zgf [ps src,pi 4000] [] Q
def ZHb (H:HG S) (HL:S ZG4=some (.code ZG5))
  (HA: ∀Q:QF,Q [pb true] []->Gives S Zd3 [] [] Q) {a b c:LN} (H1:TabS S a) (H2:TabS S b) (H3:TabS S c)
  (hQ:Q [pb true] []):Gives S ZG4 [ps a,ps b,ps c] [] Q:=by
 refine .code HL rfl ?_
 simp(disch:=omega)[ZG5]
 refine H1 _ fun x i hx hi=>?_
 simp(disch:=omega)
 refine H2 _ fun y j hy hj=>?_
 simp(disch:=omega)
 refine H3 _ fun z k hz hk=>?_
 simp(disch:=omega)
 cases i
 ·simp(disch:=omega)
  refine HA _ ?_
  simp(disch:=omega)
  exact hQ
 cases j
 ·simp(disch:=omega)
  refine HA _ ?_
  simp(disch:=omega)
  exact hQ
 cases k
 ·simp(disch:=omega)
  refine HA _ ?_
  simp(disch:=omega)
  exact hQ
 simp(disch:=omega)
 refine ZEh H hx.okn hy.okn (ZG9 hx hy) ?_
 by_cases h1:ZD1 x y=[]
 rotate_left
 ·rw [ZDy h1]
  simp(disch:=omega)
  refine HA _ ?_
  simp(disch:=omega)
  exact hQ
 rw [ZDz h1]
 simp(disch:=omega)
 refine ZEh H hy.okn hz.okn (ZG9 hy hz) ?_
 by_cases h2:ZD1 y z=[]
 rotate_left
 ·rw [ZDy h2]
  simp(disch:=omega)
  refine HA _ ?_
  simp(disch:=omega)
  exact hQ
 rw [ZDz h2]
 simp(disch:=omega)
 refine ZFH H hx.okn hz.okn (ZG9 hx hz) ?_
 have hl:((rzs (ZD1 x z)).take 100).length<=100:=List.length_take_le _ _
 have hr: ∀r∈(rzs (ZD1 x z)).take 100,∃(c:Int) (s:LN),r=[.i c,.str s]/\8<=c:=fun r hr=>by
  obtain ⟨w,hw,rfl⟩:=List.mem_map.1 (List.mem_of_mem_take hr)
  exact ⟨w.1,w.2,rfl,ZHg hy hz (hi rfl).2.2 (hj rfl).2.2 h1 h2 w hw⟩
 generalize (rzs (ZD1 x z)).take 100=L at hl hr⊢
 simp(disch:=omega)
 refine Lp.rule (fun (j:Nat)=>[(13,.a (.one (.l 2 L))),(14,.a (pi j)),o9]) (fun j=>j<=L.length) (fun j=>L.length-j) (a₀:=0) rfl (Yd _) ?_
 intro j k1
 by_cases hj:j<L.length
 ·obtain ⟨c,s,e,h8⟩:=hr L[j] (Yl hj)
  have h8': ¬c<8:=by omega
  simp(disch:=omega)[e,h8']
  exact RdN.mk (j+1) Zs hj Zo
 ·simp(disch:=omega)
  refine HA _ ?_
  simp(disch:=omega)
  exact hQ
end Go.Am.Fe
end
