/- Part. -/
import Derived.Test.YtmofclmogldnjaaGreatDoorCat
import Derived.Test.YtmofclmogldnjaaGreatDoorCas
set_option maxRecDepth 999999
set_option maxHeartbeats 0
set_option linter.all false
section
namespace Go.Am.Fe
variable {S:Nat->Option Fn} {Q:List A->List (List C)->Prop}
attribute [local simp] ZbO if_pos if_neg decide_eq_true decide_eq_false Yi Yj ZgF Ops.callv yB
abbrev tyr (l:List Ty):List P:=[.sl 4 (Ty.encs l)]
def At.mem {α:Type} {f:α->List Nat} {l:List α} {s:List Nat} {j:Nat} (h:At f l s j): ∃x∈l,f x=s:=⟨_,Yl h.1,h.2.1⟩
def At.le {α:Type} {f:α->List Nat} {l:List α} {s:List Nat} {j i:Nat} (h:At f l s j) (h':At f l s i):j<=i:=by
 rcases Yt i j with hlt|hge
 ·exfalso;refine h.2.2 (l[i]'h'.1) ?_ h'.2.1;rw [List.mem_take_iff_getElem];exact ⟨i,by have:=h.1;omega,rfl⟩
 ·exact hge
def At.uniq {α:Type} {f:α->List Nat} {l:List α} {s:List Nat} {j i:Nat} (h:At f l s j) (h':At f l s i):j=i:=Nat.le_antisymm (h.le h') (h'.le h)
def ZMk {l:List (List Nat)} {j:Nat} (h:j<(strs l).length):(strs l)[j]=[.str (l[j]'(by simpa [strs] using h))]:=by simp [strs]
end Go.Am.Fe
end
section
namespace Go.Am.Fe
variable {S:Nat->Option Fn} {Q:List A->List (List C)->Prop}
attribute [local simp] ZbO if_pos if_neg decide_eq_true decide_eq_false Yi Yj ZgF Ops.callv yB
inductive Wi where
 | mk (c:Int) (ts:List Ty) (l:List Wi)
mutual
def Wi.enc:Wi->List P
 | .mk c ts l=>[.int .i64 c,.sl 4 (Ty.encs ts),.sl 3 (Wi.encs l)]
def Wi.encs:List Wi->List (List P)
 | []=>[]
 | w::l=>Wi.enc w::Wi.encs l
end
mutual
def Wi.sz:Wi->Nat
 | .mk _ ts l=>1+Ty.szs ts+Wi.szs l
def Wi.szs:List Wi->Nat
 | []=>0
 | w::l=>Wi.sz w+Wi.szs l
end
mutual
def Wi.fv:Wi->Prop
 | .mk _ ts l=>(ts.length<=9223372036854775807/\Ty.fvs ts)/\l.length<=9223372036854775807/\Wi.fvs l
def Wi.fvs:List Wi->Prop
 | []=>True
 | w::l=>Wi.fv w/\Wi.fvs l
end
mutual
def Wi.closed:Wi->Bool
 | .mk c _ l=> !decide (c= -1) && Wi.closeds l
def Wi.closeds:List Wi->Bool
 | []=>true
 | w::l=>Wi.closed w && Wi.closeds l
end
def Wi.c:Wi->Int| .mk c _ _=>c
def Wi.ts:Wi->List Ty| .mk _ t _=>t
def Wi.l:Wi->List Wi| .mk _ _ l=>l
abbrev Wi.row (w:Wi):List P:=[.int .i64 w.c,.sl 4 (Ty.encs w.ts),.sl 3 (Wi.encs w.l)]
abbrev Wi.cs (w:Wi):List C:=[.p (.int .i64 w.c),.p (.sl 4 (Ty.encs w.ts)),.p (.sl 3 (Wi.encs w.l))]
def Wi.enc_row (w:Wi):w.enc=w.row:=by cases w;rfl
def Wi.encs_rows: ∀(l:List Wi),Wi.encs l=l.map Wi.row
 | []=>rfl
 | w::l=>by rw [Wi.encs,Wi.encs_rows l,Wi.enc_row];rfl
def Wi.encs_length {l:List Wi}:(Wi.encs l).length=l.length:=by rw [Wi.encs_rows,Yh]
attribute [local simp] Wi.encs_length
def Wi.encs_get {l:List Wi} {j:Nat} (h:j<(Wi.encs l).length):(Wi.encs l)[j]=(l[j]'(by simpa using h)).row:=by
 simp only [Wi.encs_rows,List.getElem_map]
def Wi.sz_eq {w:Wi}:w.sz=1+Ty.szs w.ts+Wi.szs w.l:=by cases w;rfl
def Wi.szs_get: ∀{l:List Wi} {j:Nat} (h:j<l.length),l[j].sz<=Wi.szs l
 | t::l,0,_=>by simp [Wi.szs]
 | t::l,j+1,h=>by have:=Wi.szs_get (l:=l) (j:=j) (by simpa using h);simp [Wi.szs];omega
def Wi.szs_take {l:List Wi} {j:Nat} (hj:j<l.length):Wi.szs (l.take (j+1))=Wi.szs (l.take j)+l[j].sz:=by
 induction l generalizing j with
 | nil=>simp at hj
 | cons t l ih=>
   cases j with
   | zero=>simp [Wi.szs]
   | succ j=>simp only [List.take_succ_cons,Wi.szs,List.getElem_cons_succ];rw [ih (by simpa using hj)];omega
def Wi.len_le: ∀{l:List Wi},l.length<=Wi.szs l
 | []=>Yc _
 | w::l=>by have:=Wi.len_le (l:=l);have:=Wi.sz_eq (w:=w);simp [Wi.szs];omega
def Wi.fv_ts {w:Wi} (h:w.fv):w.ts.length<=9223372036854775807/\Ty.fvs w.ts:=by cases w;exact h.1
def Wi.fv_l {w:Wi} (h:w.fv):w.l.length<=9223372036854775807/\Wi.fvs w.l:=by cases w;exact h.2
def Wi.fvs_get: ∀{l:List Wi} {j:Nat} (_:Wi.fvs l) (h:j<l.length),l[j].fv
 | t::l,0,hf,_=>hf.1
 | t::l,j+1,hf,h=>Wi.fvs_get (l:=l) hf.2 (by simpa using h)
def Wi.mem_fvs: ∀{l:List Wi},(∀t∈l,t.fv)->Wi.fvs l
 | [],_=>trivial
 | t::l,h=>⟨h t Yr,Wi.mem_fvs fun u hu=>h u (Yk _ hu)⟩
def Wi.closed_eq {w:Wi}:w.closed=(!decide (w.c= -1) && Wi.closeds w.l):=by cases w;rfl
def Wi.closeds_take {l:List Wi} {j:Nat} (hj:j<l.length):Wi.closeds (l.take (j+1))=(Wi.closeds (l.take j) && l[j].closed):=by
 induction l generalizing j with
 | nil=>simp at hj
 | cons t l ih=>
   cases j with
   | zero=>simp [Wi.closeds]
   | succ j=>simp only [List.take_succ_cons,Wi.closeds,List.getElem_cons_succ];rw [ih (by simpa using hj),Bool.and_assoc]
def Wi.closeds_any: ∀{l:List Wi},Wi.closeds l= !l.any fun w=> !w.closed
 | []=>rfl
 | w::l=>by rw [Wi.closeds,Wi.closeds_any (l:=l),List.any_cons];cases w.closed<;>simp
def Wi.closeds_get {l:List Wi} {j:Nat} (hj:j<l.length) (h:l[j].closed=false):Wi.closeds l=false:=by
 rw [Wi.closeds_any];simp only [Bool.not_eq_false'];exact List.any_eq_true.2 ⟨_,Yl hj,by simp [h]⟩
def Ty.encs_snoc {l:List Ty} {t:Ty}:Ty.encs (l++[t])=Ty.encs l++[t.row]:=by simp only [Ty.encs_rows,YC,Yp,List.map_nil]
def Wi.encs_snoc {l:List Wi} {t:Wi}:Wi.encs (l++[t])=Wi.encs l++[t.row]:=by simp only [Wi.encs_rows,YC,Yp,List.map_nil]
def ZJ6 {α:Type} {l:List α} {j:Nat} (h:j<l.length):l.take (j+1)=l.take j++[l[j]]:=by rw [Ym,Ya h];rfl
def Ty.encs_step {l:List Ty} {j:Nat} (h:j<l.length):Ty.encs (l.take (j+1))=Ty.encs (l.take j)++[l[j].row]:=by rw [ZJ6 h,Ty.encs_snoc]
def Wi.encs_step {l:List Wi} {j:Nat} (h:j<l.length):Wi.encs (l.take (j+1))=Wi.encs (l.take j)++[l[j].row]:=by rw [ZJ6 h,Wi.encs_snoc]
def Ty.encs_nil:Ty.encs []=[]:=rfl
def Wi.encs_nil:Wi.encs []=[]:=rfl
def ZNt (H:HasL S) {cf:Nat} {first caps:List R} {os:List (List C)} (ho:Pass os) (h1:PassR os.length first) (h2:PassR os.length caps)
   (hf: ∀(t:Ty) (Q:List A->List (List C)->Prop),t.fw->Q [.agg (Ty.mk 0 [] 0 []).cs,pb false] os->Gives S cf (ZDB first caps [.agg t.cs]) os Q):
   ∀(n:Nat) (t:Ty) (Q:List A->List (List C)->Prop),t.sz<n->t.fw->Q [.agg t.cs] os->Gives S Zdb [.agg t.cs,.one (.clo cf first caps)] os Q
 | 0,_,_,h,_,_=>absurd h (YI _)
 | n+1,t,Q,hs,ht,hQ=>by
   have ih:=ZNt H ho h1 h2 hf n;have hc:=fun κ=>ho.ment (κ:=κ);have hcl:=ZFt h1 h2;refine .code H.typesReplacedq rfl ?_;simp(disch:=omega)[Zk7,ZGc h1 h2,ho.down,hc,hcl];refine hf t _ ht ?_;have ga:=Ty.encs_length (a:=t.a);have hl:=Ty.fw_len ht;simp(disch:=omega)[ho.up,ho.fin,hc,hcl];refine Lp.rule (fun (j:Nat)=>[(1,.a (.one (.clo cf first caps))),(4,.a (.one (.ref ⟨true,10004,0⟩))),(7,.a (.one (.ref ⟨true,10007,0⟩))),(22,.a (.one (.p (.sl 4 (Ty.encs t.a))))),(23,.a (pi t.a.length)),(24,.a (pi j)),(9999,.objs os),(10004,.a (.agg Tx.zT)),(10007,.a (.agg [.p (.int .i64 t.k),.p (.str t.s),.p (.int .i64 t.n),.tip 4 (Ty.encs (t.a.take j))]))]) (fun j=>j<=t.a.length) (fun j=>t.a.length-j) (a₀:=0) (by simp [ga,Ty.encs_nil]) (Yd _) ?_;intro j k1;by_cases hj:j<t.a.length
   · have e:=Ty.encs_get (l:=t.a) (j:=j) Zo;have gb:=Ty.encs_length (a:=t.a.take j);rw [List.length_take] at gb;simp(disch:=omega)[e,ho.down,hc,hcl,ZFh h1 h2];refine ih t.a[j] _ (by have:=Ty.szs_get hj;have:=Ty.sz_a (t:=t);omega) (Ty.fws_get (Ty.fw_a ht) hj) ?_;simp(disch:=omega)[ho.up,ho.fin,hc,hcl];exact RdN.mk (j+1) (by simp [Ty.encs_step hj]) hj Zo
   · simp(disch:=omega)[ho.fin];rw [Yg Zo];exact hQ
def ZNZ (H:HasL S) {s:List Nat} (hQ:Q [pi (-1)] []):Gives S ZcI [.one (.p (.sl 1 [])),ps s] [] Q:=by
 refine .code H.slicesIndexLStringString rfl ?_;simp(disch:=omega)[ZfB];refine Lp.rule (fun (j:Nat)=>[(0,.a (.one (.p (.sl 1 [])))),(1,.a (ps s)),(7,.a (pi 0)),(8,.a (pi j)),(9999,.objs [])]) (fun j=>j=0) (fun j=>0) (a₀:=0) Zs rfl ?_;rintro j rfl;simp(disch:=omega);exact hQ
def ZN2 (H:HasL S) {t:Ty} (ht:t.fw) (hQ:Q [.agg t.cs] []):Gives S ZkQ [.agg t.cs,.one (.tip 1 []),.one (.tip 4 [])] [] Q:=by
 refine .code H.typesSubst rfl ?_;simp(disch:=omega)[Zqd,cloR,yB];refine ZNt H (cf:=Zin) (first:=[]) (caps:=[⟨false,0,0⟩,⟨false,1,0⟩]) (os:=[[.p (.sl 1 [])],[.p (.sl 4 [])]]) ⟨rfl,rfl,by simp [C.clean]⟩ PassR.nil (by simp [PassR]) (fun u Q hu2 hQ=>?_) (t.sz+1) t _ (Yz _) ht ?_
 ·simp [ZDB];refine .code H.typesSubstX1 rfl ?_;simp(disch:=omega)[Znr];by_cases hk:u.k=7
  ·simp(disch:=omega)[hk];refine ZNZ H ?_;simp(disch:=omega);exact hQ
  ·simp(disch:=omega)[hk];exact hQ
 ·simp(disch:=omega);exact hQ
def ZKs (H:HasL S): ∀(n:Nat) (w:Wi) (Q:List A->List (List C)->Prop),w.sz<n->n<=100000->Q [.agg w.cs] []->Gives S ZHa [.agg w.cs] [] Q
 | 0,_,_,h,_,_=>absurd h (YI _)
 | n+1,w,Q,hs,hn,hQ=>by
   have ih:=ZKs H n;have g:=Wi.sz_eq (w:=w);have g1:=Ty.len_le (a:=w.ts);have g2:=Wi.len_le (l:=w.l);have ga:=Ty.encs_length (a:=w.ts);have gb:=Wi.encs_length (l:=w.l);refine .code H.conformFreshq rfl ?_;simp(disch:=omega)[ZHy];refine Lp.rule (fun (j:Nat)=>[(1,.a (.one (.ref ⟨true,10001,0⟩))),(2,.a (.one (.ref ⟨true,10002,0⟩))),(3,.a (.one (.ref ⟨true,10003,0⟩))),(14,.a (.one (.p (.sl 4 (Ty.encs w.ts))))),(15,.a (pi w.ts.length)),(16,.a (pi j)),(9999,.objs []),(10001,.a (.agg w.cs)),(10002,.a (.agg [Tx.ci 0,Tx.ct 4,Tx.ct 3])),(10003,.a (.agg [.p (.int .i64 w.c),.tip 4 (Ty.encs (w.ts.take j)),.tip 3 []]))]) (fun j=>j<=w.ts.length) (fun j=>w.ts.length-j) (a₀:=0) (by simp [ga,Ty.encs_nil]) (Yd _) ?_;intro j k1;by_cases hj:j<w.ts.length
   · have e:=Ty.encs_get (l:=w.ts) (j:=j) Zo;have gc:=Ty.encs_length (a:=w.ts.take j);rw [List.length_take] at gc;simp(disch:=omega)[e];refine ZN2 H (t:=w.ts[j]) (Ty.sz_fw _ (by have:=Ty.szs_get hj;omega)) ?_;simp(disch:=omega);exact RdN.mk (j+1) (by simp [Ty.encs_step hj]) hj Zo
   · have e0:w.ts.take j=w.ts:=Yg Zo;simp(disch:=omega)[e0];refine Lp.rule (fun (i:Nat)=>[(2,.a (.one (.ref ⟨true,10002,0⟩))),(3,.a (.one (.ref ⟨true,10003,0⟩))),(30,.a (.one (.p (.sl 3 (Wi.encs w.l))))),(31,.a (pi w.l.length)),(32,.a (pi i)),(9999,.objs []),(10002,.a (.agg [Tx.ci 0,Tx.ct 4,Tx.ct 3])),(10003,.a (.agg [.p (.int .i64 w.c),.tip 4 (Ty.encs w.ts),.tip 3 (Wi.encs (w.l.take i))]))]) (fun i=>i<=w.l.length) (fun i=>w.l.length-i) (a₀:=0) (by simp [gb,Wi.encs_nil]) (Yd _) ?_;intro i k2;by_cases hi:i<w.l.length
     · have e:=Wi.encs_get (l:=w.l) (j:=i) Zo;have gc:=Wi.encs_length (l:=w.l.take i);rw [List.length_take] at gc;simp(disch:=omega)[e];refine ih w.l[i] _ (by have:=Wi.szs_get hi;omega) Zo ?_;simp(disch:=omega);exact RdN.mk (i+1) (by simp [Wi.encs_step hi]) hi Zo
     · have e1:w.l.take i=w.l:=Yg Zo;simp(disch:=omega)[e1];exact hQ
def ZNs (H:HasL S) {w:Wi} (h:w.sz<=300) (hQ:Q [.agg w.cs] []):Gives S ZHa [.agg w.cs] [] Q:=ZKs H (w.sz+1) w Q (Yz _) Zo hQ
end Go.Am.Fe
end
section
namespace Go.Am.Fe
variable {S:Nat->Option Fn} {Q:List A->List (List C)->Prop}
attribute [local simp] ZbO if_pos if_neg decide_eq_true decide_eq_false Yi Yj ZgF Ops.callv yB Wi.encs_length
def ZJx (H:Has S) (L:HasL S): ∀(nn:Nat) (w:Wi) (mo:Int) (Q:List A->List (List C)->Prop),w.sz<nn->w.fv->1<=mo->mo<=301->(∀x:Int,1<=x->x<=mo+1->(x<mo->(w.sz:Int)<=x)->Q [pi x] [])->Gives S ZHf [.agg w.cs,pi mo] [] Q
 | 0=>fun _ _ _ h=>absurd h (YI _)
 | nn+1=>by
   intro w mo Q hm hw m0 m1 hQ;have ih:=ZJx H L nn;have g:=Wi.sz_eq (w:=w);obtain ⟨v1,v2⟩:=Wi.fv_ts hw;obtain ⟨v3,v4⟩:=Wi.fv_l hw;have ga:=Ty.encs_length (a:=w.ts);have gb:=Wi.encs_length (l:=w.l);refine .code L.law06Weightq rfl ?_;simp(disch:=omega)[ZHF];refine Lp.rule (fun (b:Int×Nat)=>[(1,.a (pi mo)),(2,.a (.one (.ref ⟨true,10002,0⟩))),(5,.a (pi b.1)),(6,.a (pi b.2)),(9999,.objs []),(10002,.a (.agg w.cs))]) (fun b=>b.2<=w.ts.length/\1<=b.1/\b.1<=mo+1/\(b.1<mo->1+(Ty.szs (w.ts.take b.2):Int)<=b.1)) (fun b=>w.ts.length-b.2) (a₀:=(1,0)) Zs ⟨Yd _,by simp,by dsimp only;omega,by simp [Ty.szs]⟩ ?_;rintro ⟨c,j⟩ ⟨k1,k2,k3,k4⟩;dsimp only at k1 k2 k3 k4;by_cases hj:j<w.ts.length/\c<mo
   · obtain ⟨hj,hc⟩:=hj;have e:=Ty.encs_get (l:=w.ts) (j:=j) Zo;have q3:=Ty.szs_take hj;have k5:=k4 hc;simp(disch:=omega)[e,hc];refine tn_g H (mo:=mo-c) Zo Zo (Ty.fvs_get v2 hj) fun x x1 x2 x3=>?_;simp(disch:=omega);refine RdN.mk (_,j+1) rfl ⟨hj,by dsimp only;omega,by dsimp only;omega,fun h=>?_⟩ Zm;dsimp only at h⊢;have:=x3 Zo;rw [q3];omega
   · have k6:c<mo->1+(Ty.szs w.ts:Int)<=c:=fun h=>by
       have k7:=k4 h;rwa [Yg Zo] at k7
     have hx:(¬j<w.ts.length)∨(j<w.ts.length/\ ¬c<mo):=by omega
     rcases hx with hx|⟨hx,hy⟩
     all_goals (
       first
       | simp(disch:=omega)[hy]
       | simp(disch:=omega)
       refine Lp.rule (fun (b:Int×Nat)=>[(1,.a (pi mo)),(2,.a (.one (.ref ⟨true,10002,0⟩))),(5,.a (pi b.1)),(7,.a (pi b.2)),(9999,.objs []),(10002,.a (.agg w.cs))]) (fun b=>b.2<=w.l.length/\1<=b.1/\b.1<=mo+1/\(b.1<mo->1+(Ty.szs w.ts:Int)+(Wi.szs (w.l.take b.2):Int)<=b.1)) (fun b=>w.l.length-b.2) (a₀:=(c,0)) Zs ⟨Yd _,k2,k3,fun h=>by simpa [Wi.szs] using k6 h⟩ ?_;rintro ⟨c2,i⟩ ⟨n1,n2,n3,n4⟩;dsimp only at n1 n2 n3 n4;by_cases hi:i<w.l.length
       · by_cases hc2:c2<mo
         · have e:=Wi.encs_get (l:=w.l) (j:=i) Zo;have q3:=Wi.szs_take hi;have q4:=Wi.szs_get hi;have n5:=n4 hc2;simp(disch:=omega)[e,hc2];refine ih w.l[i] (mo-c2) _ Zo (Wi.fvs_get v4 hi) Zo Zo fun x x1 x2 x3=>?_;simp(disch:=omega);refine RdN.mk (_,i+1) rfl ⟨hi,by dsimp only;omega,by dsimp only;omega,fun h=>?_⟩ Zm;dsimp only at h⊢;have:=x3 Zo;rw [q3];omega
         · simp(disch:=omega)[hc2];exact hQ _ Zo Zo Zo
       · have e1:w.l.take i=w.l:=Yg Zo;rw [e1] at n4;simp(disch:=omega);refine hQ _ Zo Zo fun h=>?_;have:=n4 Zo;omega)
def ZMB (H:Has S) (L:HasL S) {w:Wi} (hw:w.fv) (hQ: ∀x:Int,(x<=300->w.sz<=300)->Q [pi x] []):Gives S ZHf [.agg w.cs,pi 301] [] Q:=
 ZJx H L _ w 301 Q (Yz _) hw Zd Zd fun x _ _ h=>hQ x fun hx=>by have:=h Zo;omega
def EqW (S:Nat->Option Fn) (n:Nat):Prop:= ∀(w:Wi) (Q:List A->List (List C)->Prop),w.sz<n->w.fv->Q [pb true] []->Gives S ZHv [.agg w.cs,.agg w.cs] [] Q
def ZNj (L:HasL S) {n:Nat} (ih:EqW S n) {a:List Wi} (hm:Wi.szs a<n) (hl:a.length<=9223372036854775807) (h1:Wi.fvs a) (hQ:Q [pb true] []):Gives S ZHd [.one (.p (.sl 3 (Wi.encs a))),.one (.p (.sl 3 (Wi.encs a)))] [] Q:=by
 have e1:(Wi.encs a).length=a.length:=Wi.encs_length;refine .code L.zgEqWitnesses rfl ?_;simp(disch:=omega)[ZHx];refine Lp.rule (fun (j:Nat)=>[(0,.a (.one (.p (.sl 3 (Wi.encs a))))),(1,.a (.one (.p (.sl 3 (Wi.encs a))))),(5,.a (pi j)),(9999,.objs [])]) (fun j=>j<=a.length) (fun j=>a.length-j) (a₀:=0) Zs (Yd _) ?_;intro j k1;by_cases hj:j<a.length
 ·have r1:=Wi.encs_get (l:=a) (j:=j) Zo;simp(disch:=omega)[r1];refine ih _ _ (by have:=Wi.szs_get hj;omega) (Wi.fvs_get h1 hj) ?_;simp(disch:=omega);exact RdN.mk (j+1) Zs hj Zo
 ·simp(disch:=omega);exact hQ
def ZMo (H:Has S) (L:HasL S): ∀n,EqW S n
 | 0=>fun _ _ h=>absurd h (YI _)
 | n+1=>fun w Q hs hw hQ=>by
   have g:=Wi.sz_eq (w:=w);obtain ⟨v1,v2⟩:=Wi.fv_ts hw;obtain ⟨v3,v4⟩:=Wi.fv_l hw;refine .code L.zgEqWitness rfl ?_;simp(disch:=omega)[ZHI];refine ZNc H v1 v2 ?_;simp(disch:=omega);refine ZNj L (ZMo H L n) Zo v3 v4 ?_;simp(disch:=omega);exact hQ
def ZN7 (H:Has S) (L:HasL S) {a:List Wi} (hl:a.length<=9223372036854775807) (h1:Wi.fvs a) (hQ:Q [pb true] []):Gives S ZHd [.one (.p (.sl 3 (Wi.encs a))),.one (.p (.sl 3 (Wi.encs a)))] [] Q:=
 ZNj L (ZMo H L _) (Yz _) hl h1 hQ
def ZIE (L:HasL S): ∀(n:Nat) (w:Wi) (Q:List A->List (List C)->Prop),w.sz<n->w.fv->Q [pb w.closed] []->Gives S ZHE [.agg w.cs] [] Q
 | 0,_,_,h,_,_=>absurd h (YI _)
 | n+1,w,Q,hs,hw,hQ=>by
   have g:=Wi.sz_eq (w:=w);obtain ⟨v3,v4⟩:=Wi.fv_l hw;have gb:=Wi.encs_length (l:=w.l);refine .code L.zgClosed rfl ?_;simp(disch:=omega)[ZIG];rw [Wi.closed_eq] at hQ;by_cases hc:w.c= -1
   · simp(disch:=omega)[hc];simpa [hc] using hQ
   · simp(disch:=omega)[hc];have hQ:Q [pb (Wi.closeds w.l)] []:=by simpa [hc] using hQ
     refine Lp.rule (fun (j:Nat)=>[(1,.a (.one (.ref ⟨true,10001,0⟩))),(3,.a (pi j)),(9999,.objs []),(10001,.a (.agg w.cs))]) (fun j=>j<=w.l.length/\Wi.closeds (w.l.take j)=true) (fun j=>w.l.length-j) (a₀:=0) Zs ⟨Yd _,by simp [Wi.closeds]⟩ ?_;rintro j ⟨k1,k2⟩;by_cases hj:j<w.l.length
     · have e:=Wi.encs_get (l:=w.l) (j:=j) Zo;simp(disch:=omega)[e];refine ZIE L n _ _ (by have:=Wi.szs_get hj;omega) (Wi.fvs_get v4 hj) ?_;cases hb:w.l[j].closed with
       | true=>
         simp(disch:=omega);exact RdN.mk (j+1) rfl ⟨hj,by rw [Wi.closeds_take hj,k2,hb];rfl⟩ Zo
       | false=>
         simp(disch:=omega);rw [Wi.closeds_get hj hb] at hQ;exact hQ
     · rw [Yg Zo] at k2;simp(disch:=omega);rw [k2] at hQ;exact hQ
def ZLC (L:HasL S) {w:Wi} (hw:w.fv) (hQ:Q [pb w.closed] []):Gives S ZHE [.agg w.cs] [] Q:=ZIE L _ w Q (Yz _) hw hQ
def ZJL (L:HasL S): ∀(n:Nat) (w:Wi) (Q:List A->List (List C)->Prop),w.sz<n->n<=100000->Q [pb w.closed] []->Gives S ZHc [.agg w.cs] [] Q
 | 0,_,_,h,_,_=>absurd h (YI _)
 | n+1,w,Q,hs,hn,hQ=>by
   have g:=Wi.sz_eq (w:=w);have g2:=Wi.len_le (l:=w.l);refine .code L.conformClosed rfl ?_;simp(disch:=omega)[ZHw];rw [Wi.closed_eq] at hQ;by_cases hc:w.c= -1
   · simp(disch:=omega)[hc];simpa [hc] using hQ
   · simp(disch:=omega)[hc];have hQ:Q [pb (Wi.closeds w.l)] []:=by simpa [hc] using hQ
     rw [Wi.encs_rows];refine ZFa L.slicesContainsFuncLApiWitnessApiWitness L.slicesIndexFuncLApiWitnessApiWitness (l:=w.l) (w:=Wi.row) Zo (fun _ _=>rfl) (p:=fun u=> !u.closed) Pass.nil PassR.nil PassR.nil (fun u hu Q hQ=>?_) ?_
     · rw [ZE7];obtain ⟨j,hj,rfl⟩:=YE hu;refine .code L.conformClosedX1 rfl ?_;simp(disch:=omega)[ZHp];refine ZJL L n _ _ (by have:=Wi.szs_get hj;omega) Zo ?_;simp(disch:=omega);exact hQ
     · simp(disch:=omega);rw [Wi.closeds_any] at hQ;exact hQ
def ZMz (L:HasL S) {w:Wi} (h:w.sz<=300) (hQ:Q [pb w.closed] []):Gives S ZHc [.agg w.cs] [] Q:=ZJL L (w.sz+1) w Q (Yz _) Zo hQ
structure Cf where
 p:List Nat
 k:Int
 u:List Nat
 n:Int
 a:List (List P)
 gs:List (List P)
 qs:List (List P)
 ts:List (List P)
 fs:List (List Nat)
abbrev Cf.row (x:Cf):List P:=[.str x.p,.int .i64 x.k,.str x.u,.int .i64 x.n,.sl 4 x.a,.sl 1 x.gs,.sl 10 x.qs,.sl 4 x.ts,.sl 1 (strs x.fs)]
def Cf.ok (x:Cf):Prop:=x.fs.length<=100000
def CoR.cf (r:List P) (h:CoR r): ∃x:Cf,x.row=r/\x.ok:=by
 obtain ⟨m1,m2,s,k,n,u,a,gs,qs,ts,fs,rfl,h1,h2,h3,h4,h5,h6⟩:=h;exact ⟨⟨s,k,u,n,a,strs gs,qs,ts,fs⟩,rfl,h6.1⟩
def RowsOf.cfs {l:List (List P)} (h:RowsOf CoR l): ∃L:List Cf,L.map Cf.row=l/\Ok Cf.ok L:=h.lift CoR.cf
inductive Tg (l:List Pr) (cs:List Cf) (w:Wi) (q m:List Nat):List Nat->List Ty->List Wi->Int->Prop
 | none:(∀p∈l,p.s≠q)->Tg l cs w q m [] [] [] 40
 | form (j:Nat) (h:At Pr.s l q j):(∀(c:Nat) (k:Cf),w.c=c->cs[c]? =some k->k.p=q->(l[j]'h.1).ms.length<=k.fs.length->False)->Tg l cs w q m [] [] [] 4
 | name (j:Nat) (h:At Pr.s l q j) (c:Nat) (k:Cf):w.c=c->cs[c]? =some k->k.p=q->(l[j]'h.1).ms.length<=k.fs.length->(∀f∈(l[j]'h.1).ms,f.s≠m)->Tg l cs w q m [] [] [] 3
 | at (j:Nat) (h:At Pr.s l q j) (c:Nat) (k:Cf) (i:Nat) (s:List Nat):w.c=c->cs[c]? =some k->k.p=q->(l[j]'h.1).ms.length<=k.fs.length->At Me.s (l[j]'h.1).ms m i->k.fs[i]? =some s->Tg l cs w q m s w.ts w.l 0
def Tg.uniq {l:List Pr} {cs:List Cf} {w:Wi} {q m s s':List Nat} {t t':List Ty} {v v':List Wi} {e e':Int} (h:Tg l cs w q m s t v e) (h':Tg l cs w q m s' t' v' e'):s=s'/\t=t'/\v=v'/\e=e':=by
 cases h with
 | none h=>
   cases h' with
   | none=>exact ⟨rfl,rfl,rfl,rfl⟩
   | form j hj=>obtain ⟨p,h1,h2⟩:=hj.mem;exact absurd h2 (h p h1)
   | name j hj=>obtain ⟨p,h1,h2⟩:=hj.mem;exact absurd h2 (h p h1)
   | «at» j hj=>obtain ⟨p,h1,h2⟩:=hj.mem;exact absurd h2 (h p h1)
 | form j hj h=>
   cases h' with
   | none h2=>obtain ⟨p,h1,h3⟩:=hj.mem;exact absurd h3 (h2 p h1)
   | form=>exact ⟨rfl,rfl,rfl,rfl⟩
   | name j' hj' c k h1 h2 h3 h4=>obtain rfl:=hj.uniq hj';exact (h c k h1 h2 h3 h4).elim
   | «at» j' hj' c k i s h1 h2 h3 h4=>obtain rfl:=hj.uniq hj';exact (h c k h1 h2 h3 h4).elim
 | name j hj c k h1 h2 h3 h4 h=>
   cases h' with
   | none g2=>obtain ⟨p,g1,g3⟩:=hj.mem;exact absurd g3 (g2 p g1)
   | form j' hj' g=>obtain rfl:=hj.uniq hj';exact (g c k h1 h2 h3 h4).elim
   | name=>exact ⟨rfl,rfl,rfl,rfl⟩
   | «at» j' hj' c' k' i s g1 g2 g3 g4 g5=>obtain rfl:=hj.uniq hj';obtain ⟨p,y1,y2⟩:=g5.mem;exact absurd y2 (h p y1)
 | «at» j hj c k i s h1 h2 h3 h4 h5 h6=>
   cases h' with
   | none g2=>obtain ⟨p,g1,g3⟩:=hj.mem;exact absurd g3 (g2 p g1)
   | form j' hj' g=>obtain rfl:=hj.uniq hj';exact (g c k h1 h2 h3 h4).elim
   | name j' hj' c' k' g1 g2 g3 g4 g=>obtain rfl:=hj.uniq hj';obtain ⟨p,y1,y2⟩:=h5.mem;exact absurd y2 (g p y1)
   | «at» j' hj' c' k' i' s' g1 g2 g3 g4 g5 g6=>
     obtain rfl:=hj.uniq hj';obtain rfl:=h5.uniq g5;have hcc:c=c':=by have:=h1.symm.trans g1;omega
     subst hcc;rw [h2] at g2;cases g2;rw [h6] at g6;cases g6;exact ⟨rfl,rfl,rfl,rfl⟩
def ZNI (H:HasL S) {w:Wi} (h:w.sz<=300) {k:Int} (hk:w.c=k) (hQ:Q [.agg [.p (.int .i64 k),.p (.sl 4 (Ty.encs w.ts)),.p (.sl 3 (Wi.encs w.l))]] []):Gives S ZHa [.agg [.p (.int .i64 k),.p (.sl 4 (Ty.encs w.ts)),.p (.sl 3 (Wi.encs w.l))]] [] Q:=by
 subst hk;exact ZNs H h hQ
abbrev mc (n f:List (List P)) (cs:List Cf) (ps:List Pr):List C:=mo n (cs.map Cf.row) f ps
def ZIS {aw:Nat} (N:HN S aw) {n f:List (List P)} {cs:List Cf} {l:List Pr} (hl:Ok Pr.ok l) (hcs:Ok Cf.ok cs) {w:Wi} (hw:w.sz<=300) {q m:List Nat} (hQ: ∀s t v e,Tg l cs w q m s t v e->Q [ps s,.one (.p (.sl 4 (Ty.encs t))),.one (.p (.sl 3 (Wi.encs v))),pi e] []):
  Gives S ZHk [.agg (mc n f cs l),.agg w.cs,ps q,ps m] [] Q:=by
 have g1:=hl.1;have g2:=hcs.1;refine .code N.conformTarget rfl ?_;simp(disch:=omega)[ZHA];refine ZDS N.toHasL hl.1 (fun h=>?_) (fun j h=>?_)
 ·simp(disch:=omega);exact hQ _ _ _ _ (.none h)
 ·have hj:=h.1;have hml:=(hl.get h.1).2.1;by_cases c0:w.c<0
  ·simp(disch:=omega)[c0];exact hQ _ _ _ _ (.form j h fun c k h1=>by omega)
  ·obtain ⟨c,hc⟩:=Int.eq_ofNat_of_zero_le (by omega:0<=w.c);by_cases c1:c<cs.length
   ·have hk:cs[c]? =some cs[c]:=Ya c1;have hkf:cs[c].fs.length<=100000:=hcs.get c1;have g3:(strs cs[c].fs).length=cs[c].fs.length:=by simp [strs]
    by_cases c2:cs[c].p=q
    ·by_cases c3:cs[c].fs.length<l[j].ms.length
     ·simp(disch:=omega)[c0,hc,c1,c2,c3];exact hQ _ _ _ _ (.form j h fun c' k' h1 h2 h3 h4=>by
       have:c'=c:=by omega
       subst this;rw [hk] at h2;cases h2;omega)
     ·simp(disch:=omega)[c0,hc,c1,c2,c3,cloR];refine ZFW N.slicesIndexFuncLApiMethodApiMethod (l:=(l[j]'h.1).ms) (w:=Me.row) hml (fun _ _=>rfl) (os:=[[.p (.str m)]]) (p:=fun g=>dq (g.s=m)) (Pass.dat rfl) PassR.nil (by simp [PassR]) (fun g hg Q hQ=>?_) (fun hno=>?_) (fun i hi hi1 hi2=>?_)
      ·simp [ZDB];refine .code N.conformTargetX1 rfl ?_;simp(disch:=omega)[ZHn];by_cases he:g.s=m
       ·rw [ZDz he] at hQ;simp(disch:=omega)[he];exact hQ
       ·rw [ZDy he] at hQ;simp(disch:=omega)[he];exact hQ
      ·simp(disch:=omega);exact hQ _ _ _ _ (.name j h c _ hc hk c2 Zo fun g hg=>ZEg.1 (hno g hg))
      ·have hat:At Me.s (l[j]'h.1).ms m i:=⟨hi,ZD3.1 hi1,fun y hy=>ZEg.1 (hi2 y hy)⟩
       have hi3:i<cs[c].fs.length:=by omega
       simp(disch:=omega);refine ZNI N.toHasL hw hc ?_;have r1:=ZMk (l:=cs[c].fs) (j:=i) Zo;simp(disch:=omega)[hc,c1,r1];exact hQ _ _ _ _ (.at j h c _ i _ hc hk c2 Zo hat (Ya hi3))
    ·simp(disch:=omega)[c0,hc,c1,c2];exact hQ _ _ _ _ (.form j h fun c' k' h1 h2 h3 h4=>by
      have:c'=c:=by omega
      subst this;rw [hk] at h2;cases h2;exact c2 h3)
   ·simp(disch:=omega)[c0,hc,c1];exact hQ _ _ _ _ (.form j h fun c' k' h1 h2 h3 h4=>by
     have:c'=c:=by omega
     subst this;rw [List.getElem?_eq_none Zo] at h2;cases h2)
def Dn (ms:List Me) (m:List Nat) (b:Int) (k:Nat):Prop:=k<=ms.length/\(b= -1/\(∀y∈ms.drop k,y.s≠m)∨ ∃j:Nat,b=j/\k<=j/\ ∃h:j<ms.length,ms[j].s=m/\ ∀y∈(ms.take j).drop k,y.s≠m)
def Dn.init {ms:List Me} {m:List Nat}:Dn ms m (-1) ms.length:=⟨Yc _,.inl ⟨rfl,fun y hy=>by rw [List.drop_length] at hy;cases hy⟩⟩
def Dn.hit {ms:List Me} {m:List Nat} {b:Int} {k:Nat} (h:Dn ms m b (k+1)) (he:(ms[k]'(by have:=h.1;omega)).s=m):Dn ms m k k:=
 ⟨by have:=h.1;omega,.inr ⟨k,rfl,Yc _,by have:=h.1;omega,he,fun y hy=>by rw [List.drop_of_length_le Ze] at hy;cases hy⟩⟩
def Dn.miss {ms:List Me} {m:List Nat} {b:Int} {k:Nat} (h:Dn ms m b (k+1)) (he:(ms[k]'(by have:=h.1;omega)).s≠m):Dn ms m b k:=by
 obtain ⟨h0,h1⟩:=h;refine ⟨by omega,?_⟩;rcases h1 with ⟨e,h1⟩|⟨j,e,h2,h3,h4,h5⟩
 ·refine .inl ⟨e,fun y hy=>?_⟩;rw [qZ Zo] at hy;rcases List.mem_cons.1 hy with rfl|hy
  ·exact he
  ·exact h1 y hy
 ·refine .inr ⟨j,e,by omega,h3,h4,fun y hy=>?_⟩;rw [qZ Ze] at hy;rcases List.mem_cons.1 hy with rfl|hy
  ·simpa using he
  ·exact h5 y hy
def Dn.bnd {ms:List Me} {m:List Nat} {b:Int} {k:Nat} (h:Dn ms m b k): -1<=b/\b<ms.length:=by
 rcases h.2 with ⟨e,_⟩|⟨j,e,_,h3,_⟩<;>omega
def ZLj (H:Has S) (N:HasL S) {n f:List (List P)} {cs:List Cf} {l:List Pr} (hl:Ok Pr.ok l) (hcs:Ok Cf.ok cs) {w:Wi} (hw:w.sz<=300) {q m:List Nat} (hQ: ∀s t v e,Tg l cs w q m s t v e->Q [ps s,.one (.p (.sl 4 (Ty.encs t))),.one (.p (.sl 3 (Wi.encs v))),pi e] []):
   Gives S ZIc [.agg (mc n f cs l),.agg w.cs,ps q,ps m] [] Q:=by
 have g1:=hl.1;have g2:=hcs.1;have gw:=Wi.sz_eq (w:=w);have gt:=Ty.len_le (a:=w.ts);refine .code N.zgTarget rfl ?_;simp(disch:=omega)[ZIO];refine ZLm N hl.1 (fun h=>?_) (fun j h=>?_)
 · simp(disch:=omega);exact hQ _ _ _ _ (.none h)
 · have hj:=h.1;have hml:=(hl.get h.1).2.1;by_cases c0:w.c<0
   · simp(disch:=omega)[c0];exact hQ _ _ _ _ (.form j h fun c k h1=>by omega)
   · obtain ⟨c,hc⟩:=Int.eq_ofNat_of_zero_le (by omega:0<=w.c);by_cases c1:c<cs.length
     · have hk:cs[c]? =some cs[c]:=Ya c1;have hkf:cs[c].fs.length<=100000:=hcs.get c1;have g3:(strs cs[c].fs).length=cs[c].fs.length:=by simp [strs]
       by_cases c2:cs[c].p=q
       · by_cases c3:cs[c].fs.length<l[j].ms.length
         · simp(disch:=omega)[c0,hc,c1,c2,c3];exact hQ _ _ _ _ (.form j h fun c' k' h1 h2 h3 h4=>by
             have:c'=c:=by omega
             subst this;rw [hk] at h2;cases h2;omega)
         · simp(disch:=omega)[c0,hc,c1,c2,c3];refine Lp.rule (fun (b:Int×Nat)=>[(3,.a (ps m)),(5,.a (.one (.ref ⟨true,10005,0⟩))),(13,.a (.one (.ref ⟨true,10013,0⟩))),(14,.a (.one (.p (.sl 10 (l[j].ms.map Me.row))))),(15,.a (pi b.1)),(16,.a (pi (b.2-1))),(9999,.objs []),(10005,.a (.agg w.cs)),(10013,.a (.agg (cs[c].row.map .p)))]) (fun b=>Dn l[j].ms m b.1 b.2) (fun b=>b.2) (a₀:=(-1,l[j].ms.length)) (by simp [hc,c2]) Dn.init ?_;rintro ⟨b,k⟩ hd;dsimp only at hd;have hb:=hd.bnd;have hd0:=hd.1;cases k with
           | zero=>
             rcases hd.2 with ⟨e,h1⟩|⟨i,e,h2,h3,h4,h5⟩
             · subst e;simp(disch:=omega);exact hQ _ _ _ _ (.name j h c _ hc hk c2 Zo h1)
             · subst e;have hi3:i<cs[c].fs.length:=by omega
               have r1:=ZMk (l:=cs[c].fs) (j:=i) Zo;simp(disch:=omega)[r1];refine ZOh H Zo (Ty.szs_fws _ Zo) ?_;simp(disch:=omega);exact hQ _ _ _ _ (.at j h c _ i _ hc hk c2 Zo ⟨h3,h4,fun y hy=>h5 y (by simpa using hy)⟩ (Ya hi3))
           | succ k=>
             have hkl:k<l[j].ms.length:=by omega
             have e1:((k+1:Nat):Int)-1=k:=by omega
             by_cases he:l[j].ms[k].s=m
             · simp(disch:=omega)[e1,he];exact RdN.mk (_,k) rfl (hd.hit he) Zm
             · simp(disch:=omega)[e1,he];exact RdN.mk (_,k) rfl (hd.miss he) Zm
       · simp(disch:=omega)[c0,hc,c1,c2];exact hQ _ _ _ _ (.form j h fun c' k' h1 h2 h3 h4=>by
           have:c'=c:=by omega
           subst this;rw [hk] at h2;cases h2;exact c2 h3)
     · simp(disch:=omega)[c0,hc,c1];exact hQ _ _ _ _ (.form j h fun c' k' h1 h2 h3 h4=>by
         have:c'=c:=by omega
         subst this;rw [List.getElem?_eq_none Zo] at h2;cases h2)
def Tg.sm {l:List Pr} {cs:List Cf} {w:Wi} (hw:w.sz<=300) (hv:w.fv) {q m s:List Nat} {t:List Ty} {v:List Wi} {e:Int} (h:Tg l cs w q m s t v e):(t.length<=9223372036854775807/\Ty.fvs t)/\v.length<=9223372036854775807/\Wi.fvs v:=by
 cases h with
 | «at» =>exact ⟨Wi.fv_ts hv,Wi.fv_l hv⟩
 | _=>exact ⟨⟨by simp,trivial⟩,by simp,trivial⟩
def ZHU (H:Has S) (HR:HasPr S) (N:HN S ZHL) {src:List Nat} (hb:Byt src) {w:Wi} (hw:w.fv) {q m:List Nat} (hQ:Q [pb true] []):Gives S ZHb [ps src,.agg w.cs,.agg [.p (.str q),.p (.str m)]] [] Q:=by
 refine .code N.law06ConformTargets rfl ?_;simp(disch:=omega)[ZHh];refine ZuG H HR Zd hb fun noms pro cfs fns ok b1 b2 b3 b4=>?_;obtain ⟨l,rfl,hl⟩:=b2.prs;obtain ⟨cs,rfl,hcs⟩:=b3.cfs;have fin: ∀{Q:List A->List (List C)->Prop},Q [pb true] []->Gives S ZHL [] [] Q:=N.aw;cases ok with
 | false=>
   simp(disch:=omega);refine fin ?_;simp(disch:=omega);exact hQ
 | true=>
   simp(disch:=omega);refine ZMB H N.toHasL hw fun x hx=>?_;by_cases c1:x<=300
   · have hsz:=hx c1;simp(disch:=omega)[c1];refine ZIS N hl hcs hsz fun s t v e h1=>?_;simp(disch:=omega);refine ZLj H N.toHasL hl hcs hsz fun s' t' v' e' h2=>?_;obtain ⟨rfl,rfl,rfl,rfl⟩:=h1.uniq h2;obtain ⟨⟨y1,y2⟩,y3,y4⟩:=h1.sm hsz hw;simp(disch:=omega);refine ZNc H y1 y2 ?_;simp(disch:=omega);refine ZN7 H N.toHasL y3 y4 ?_;simp(disch:=omega);refine ZMz N.toHasL hsz ?_;simp(disch:=omega);refine ZLC N.toHasL hw ?_;simp(disch:=omega);refine fin ?_;simp(disch:=omega);exact hQ
   · simp(disch:=omega)[c1];refine fin ?_;simp(disch:=omega);exact hQ
end Go.Am.Fe
end
