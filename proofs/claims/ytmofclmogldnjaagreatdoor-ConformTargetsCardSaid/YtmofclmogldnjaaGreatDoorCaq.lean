/- Part. -/
import Derived.Test.YtmofclmogldnjaaGreatDoorCap
set_option maxRecDepth 999999
set_option maxHeartbeats 0
set_option linter.all false
def j7:=@List.mem_or_eq_of_mem_set
section
namespace Go.Am.Fe
variable {S:SF} {Q:QF}
attribute [local simp] ZbO if_pos if_neg decide_eq_true decide_eq_false Yi Yj ZgF
def hdS (r:List P):LN:=match r with| .str s::_=>s|_=>[]
def nmL (noms:LP):List LN:=noms.map hdS
def Zqv {a b:LP}:nmL (a++b)=nmL a++nmL b:=by simp [nmL]
def ZwK {l L:List LN} (h:l.Nodup) (hs: ∀x∈l,x∈L):l.length<=L.length:=by
 induction l generalizing L with
 | nil=>simp
 | cons x l ih=>
   rw [List.nodup_cons] at h;have hx:=hs x Yr;have:=ih (L:=L.erase x) h.2 fun y hy=>by
     have hne:y≠x:=fun e=>h.1 (e ▸ hy);exact (List.mem_erase_of_ne hne).2 (hs y (Yk _ hy))
   rw [List.length_erase_of_mem hx] at this;have:=List.length_pos_of_mem hx;simp;omega
structure GL (noms:LP) (l:List LN):Prop where
 nd:l.Nodup
 mem: ∀x∈l,x∈nmL noms
 sn: ∀x∈l,Sn x
def GL.len {noms:LP} {l:List LN} (h:GL noms l):l.length<=noms.length:=by
 have:=ZwK h.nd h.mem;simpa [nmL] using this
def GL.nil {noms:LP}:GL noms []:=⟨by simp,by simp,by simp⟩
def GL.snoc {noms:LP} {l:List LN} {s:LN} (h:GL noms l) (h1:s∉l) (h2:s∈nmL noms) (h3:Sn s):GL noms (l++[s]):=
 ⟨by rw [List.nodup_append];exact ⟨h.nd,by simp,fun a ha b hb=>by simp at hb;subst hb;exact fun e=>h1 (e ▸ ha)⟩,
  fun x hx=>by rcases List.mem_append.1 hx with hx|hx;exact h.mem x hx;simp at hx;rw [hx];exact h2,
  fun x hx=>by rcases List.mem_append.1 hx with hx|hx;exact h.sn x hx;simp at hx;rw [hx];exact h3⟩
def Zvv {noms:LP} {j:Nat} (hj:j<noms.length):hdS noms[j]∈nmL noms:=List.mem_map_of_mem (Yl hj)
def Zh4 (H:Has S) {noms mp mc mf:LP} {s:LN} (hn:RowsOf NoR noms) (hQ1:s∉nmL noms->Q [pi (-1)] []) (hQ2: ∀j:Nat,j<noms.length->s∈nmL noms->Q [pi j] []):Gives S Zc0 [.agg [.l 17 noms,.l 3 mp,.l 9 mc,.l 22 mf],ps s] [] Q:=by
 have g:=hn.len;refine .code H.ZqL rfl ?_;simp(disch:=omega)[Zhl];refine Lp.rule (fun (j:Nat)=>[(1,.a (ps s)),fR 2,(5,.a (pi j)),o9,(10002,.a (.agg [.l 17 noms,.l 3 mp,.l 9 mc,.l 22 mf]))]) (fun j=>j<=noms.length/\s∉nmL (noms.take j)) (fun j=>noms.length-j) (a₀:=0) rfl ⟨Yd _,by simp [nmL]⟩ ?_;rintro j ⟨k1,k2⟩;by_cases hj:j<noms.length
 ·have hm:=Zvv hj;have hr:=hn.get hj;obtain ⟨_,s2,_,_,_,_,_,_,_,_,_,_,_,_,_,_,_,_,e,_⟩:=hr;have hh:hdS noms[j]=s2:=by rw [e];rfl
  rw [hh] at hm;by_cases hs:s2=s
  ·subst hs;simp(disch:=omega)[e];exact hQ2 j hj hm
  ·simp(disch:=omega)[e,hs];exact RdN.mk (j+1) rfl ⟨hj,by
    rw [Ym,Ya hj,Zqv,Ys,not_or];exact ⟨k2,by simp [nmL,hh];exact fun h=>hs h.symm⟩⟩ Zo
 ·simp(disch:=omega);rw [Yg Zo] at k2;exact hQ1 k2
def ZmA (H:Has S) {noms mp mc mf:LP} (hn:RowsOf NoR noms): ∀(nn mm:Nat) (k n:Int) (s:LN) (a:LP) (l:List LN) (Q:QF),mm<nn->FTy mm (rT k s n a)->GL noms l->(∀l':List LN,GL noms l'->Q [.one (.tip 1 (strs l'))] [])->Gives S ZeZ [.agg [.l 17 noms,.l 3 mp,.l 9 mc,.l 22 mf],aT k s n a,.one (.tip 1 (strs l))] [] Q
 | 0=>fun _ _ _ _ _ _ _ h=>absurd h (YI _)
 | nn+1=>by
   intro mm k n s a l Q hm ht hl hQ;have ih:=ZmA H hn (mp:=mp) (mc:=mc) (mf:=mf) nn;obtain ⟨m1,g1,g2,g3,g4⟩:=ht.inv;have g5:=g3.len;have g6:=hn.len;have g7:=hl.len;refine .code H.Zw8 rfl ?_;simp(disch:=omega)[ZkO]
   repeat' (first
     | exact hQ _ hl
     | exact hQ _ w2
     | (refine Zh4 H hn (fun hx=>?_) (fun x hx hx2=>?_)<;>simp(disch:=omega)[])
     | (obtain ⟨_,_,_,_,_,_,_,_,_,_,_,_,_,_,_,_,_,_,ex,_⟩:=hn.get hx;simp(disch:=omega)[ex])
     | (refine Zeh H Zo (fun y hy hy2=>?_) (fun y hy hy2=>?_)<;>(try subst hy)<;>simp(disch:=omega)[Zaz])
     | (refine ih _ _ _ _ _ _ _ Zo q2 w2 (fun l4 h4=>?_);simp(disch:=omega))
     | exact RdN.mk (_,j+1) rfl ⟨hj,h4⟩ dO
     | (refine Lp.rule (fun (b:List LN×Nat)=>[(2,.a (.one (.tip 1 (strs b.1)))),fR 3,fR 4,(8,.a (pi b.2)),o9,(10003,.a (.agg [.l 17 noms,.l 3 mp,.l 9 mc,.l 22 mf])),(10004,.a (aT k s n a))]) (fun b=>b.2<=a.length/\GL noms b.1) (fun b=>a.length-b.2) (a₀:=(_,0)) rfl ⟨Yd _,by first|exact hl|exact hl.snoc hy2 hx2 g2⟩ ?_
        rintro ⟨l3,j⟩ ⟨w1,w2⟩;dsimp only at w1 w2;have w3:=w2.len;by_cases hj:j<a.length;rotate_left;simp(disch:=omega);rotate_left;obtain ⟨m',q1,q2⟩:=g3.get hj;obtain ⟨k2,n2,s2,a2,e⟩:=q2.form;rw [e] at q2;simp(disch:=omega)[e])
     | (refine Tcs (fun hc=>?_) (fun hc=>?_)<;>simp(disch:=omega)[hc,ex,Zaz]<;>try simp only [bz] at hc)
     | (refine Tcs (fun hc=>?_) (fun hc=>?_)<;>simp(disch:=omega)[hc,Zaz]<;>try simp only [bz] at hc)
     | (exfalso;omega))
def ZqT (H:Has S) {noms mp mc mf:LP} (hn:RowsOf NoR noms) {mm:Nat} {k n:Int} {s:LN} {a:LP} {l:List LN} (ht:FTy mm (rT k s n a)) (hl:GL noms l) (hQ:(∀l':List LN,GL noms l'->Q [.one (.tip 1 (strs l'))] [])):Gives S ZeZ [.agg [.l 17 noms,.l 3 mp,.l 9 mc,.l 22 mf],aT k s n a,.one (.tip 1 (strs l))] [] Q:=
 ZmA H hn (mm+1) mm _ _ _ _ _ _ (Yz _) ht hl hQ
def ZsB (H:Has S) {noms mp mc mf:LP} (hn:RowsOf NoR noms) {xs:LN} {xk:Int} {xg:List LN} {b1 b2:Bool} {fs cs:LP} {ox nx kx mx zx:Int} {sx ux:LN} {ax tx lx:LP} (hf:RowsOf FiR fs) (hc0:RowsOf CaR cs) (hQ:(∀l':List LN,GL noms l'->Q [.one (.tip 1 (strs l'))] [])):Gives S Zio [.agg [.l 17 noms,.l 3 mp,.l 9 mc,.l 22 mf],.agg [.s xs,.i xk,.l 1 (strs xg),.p (.bool b1),.p (.bool b2),.l 6 fs,.l 3 cs,.i ox,.s sx,.i nx,.i kx,.s ux,.i mx,.l 4 ax,.l 4 tx,.l 10 lx,.i zx]] [] Q:=by
 have g1:=hf.len;have g2:=hc0.len;have g3:=hn.len;refine .code H.ZyE rfl ?_;simp(disch:=omega)[Zm3]
 repeat' (first
   | exact hQ _ GL.nil
   | exact hQ _ u2
   | exact hQ [] GL.nil
   | (refine ZqT H hn e1 (by first|assumption|exact GL.nil) (fun l4 h4=>?_);have h5:=h4.len;simp(disch:=omega)[e])
   | (refine ZqT H hn w9 (by first|assumption|exact GL.nil) (fun l4 h4=>?_);have h5:=h4.len;simp(disch:=omega)[e,e5])
   | exact RdN.mk (_,j+1) rfl ⟨hj6,h4⟩ dO
   | exact RdN.mk (_,i+1) rfl ⟨hii,h4⟩ dO
   | exact RdN.mk (_,j+1) rfl ⟨hj7,v2⟩ dO
   | (refine Lp.rule (fun (b:List LN×Nat)=>[fR 2,fR 3,(5,.a (.one (.tip 1 (strs b.1)))),(6,.a (pi b.2)),o9,(10002,.a (.agg [.l 17 noms,.l 3 mp,.l 9 mc,.l 22 mf])),(10003,.a (.agg [.s xs,.i xk,.l 1 (strs xg),.p (.bool b1),.p (.bool b2),.l 6 fs,.l 3 cs,.i ox,.s sx,.i nx,.i kx,.s ux,.i mx,.l 4 ax,.l 4 tx,.l 10 lx,.i zx]))]) (fun b=>b.2<=fs.length/\GL noms b.1) (fun b=>fs.length-b.2) (a₀:=([],0)) rfl ⟨Yd _,GL.nil⟩ ?_
      rintro ⟨l3,j⟩ ⟨w1,w2⟩;dsimp only at w1 w2;have w3:=w2.len;by_cases hj6:j<fs.length;rotate_left;simp(disch:=omega);rotate_left;obtain ⟨_,_,_,_,_,_,_,e,_,e1⟩:=hf.get hj6;simp(disch:=omega)[e])
   | (refine Lp.rule (fun (b:List LN×Nat)=>[fR 2,fR 3,(5,.a (.one (.tip 1 (strs b.1)))),(7,.a (pi b.2)),o9,(10002,.a (.agg [.l 17 noms,.l 3 mp,.l 9 mc,.l 22 mf])),(10003,.a (.agg [.s xs,.i xk,.l 1 (strs xg),.p (.bool b1),.p (.bool b2),.l 6 fs,.l 3 cs,.i ox,.s sx,.i nx,.i kx,.s ux,.i mx,.l 4 ax,.l 4 tx,.l 10 lx,.i zx]))]) (fun b=>b.2<=cs.length/\GL noms b.1) (fun b=>cs.length-b.2) (a₀:=(_,0)) rfl ⟨Yd _,w2⟩ ?_
      rintro ⟨l3,j⟩ ⟨u1,u2⟩;dsimp only at u1 u2;have u3:=u2.len;by_cases hj7:j<cs.length;rotate_left;simp(disch:=omega);rotate_left;obtain ⟨_,_,ts,ib,e,_,e1⟩:=hc0.get hj7;have e2:=e1.len;simp(disch:=omega)[e])
   | (refine Lp.rule (fun (b:List LN×Nat)=>[fR 2,fR 3,(5,.a (.one (.tip 1 (strs b.1)))),(7,.a (pi j)),(8,.a (pi b.2)),o9,(10002,.a (.agg [.l 17 noms,.l 3 mp,.l 9 mc,.l 22 mf])),(10003,.a (.agg [.s xs,.i xk,.l 1 (strs xg),.p (.bool b1),.p (.bool b2),.l 6 fs,.l 3 cs,.i ox,.s sx,.i nx,.i kx,.s ux,.i mx,.l 4 ax,.l 4 tx,.l 10 lx,.i zx]))]) (fun b=>b.2<=ts.length/\GL noms b.1) (fun b=>ts.length-b.2) (a₀:=(_,0)) rfl ⟨Yd _,u2⟩ ?_
      rintro ⟨l3,i⟩ ⟨v1,v2⟩;dsimp only at v1 v2;have v3:=v2.len;by_cases hii:i<ts.length;rotate_left;simp(disch:=omega)[e];rotate_left;obtain ⟨m5,w8,w9⟩:=e1.get hii;obtain ⟨k5,n5,s5,a5,e5⟩:=w9.form;rw [e5] at w9;simp(disch:=omega)[e,e5])
   | (refine Tcs (fun hc=>?_) (fun hc=>?_)<;>simp(disch:=omega)[hc,e,e5]<;>try simp only [bz] at hc)
   | (refine Tcs (fun hc=>?_) (fun hc=>?_)<;>simp(disch:=omega)[hc,e]<;>try simp only [bz] at hc)
   | (refine Tcs (fun hc=>?_) (fun hc=>?_)<;>simp(disch:=omega)[hc]<;>try simp only [bz] at hc)
   | (exfalso;omega))
def ZrR (H:Has S) {noms mp mc mf:LP} (hn:RowsOf NoR noms) {nm:LN} (hm:nm∈nmL noms) (hQ: ∀x:Bool,Q [pb x] []):Gives S Zgj [.agg [.l 17 noms,.l 3 mp,.l 9 mc,.l 22 mf],ps nm] [] Q:=by
 have g3:=hn.len;refine .code H.ZtA rfl ?_;simp(disch:=omega)[Zh3];refine Zh4 H hn (fun hx=>absurd hm hx) fun x hx _=>?_;obtain ⟨_,_,_,_,_,_,_,_,_,_,_,_,_,_,_,_,_,_,ex,_,_,hf,hc0,_⟩:=hn.get hx;simp(disch:=omega)[ex];refine ZsB H hn hf hc0 fun l4 h4=>?_;have h6:=h4.len;simp(disch:=omega);refine Lp.rule (fun (b:List LN×Nat)=>[(1,.a (ps nm)),fR 2,(5,.a (.one (.tip 1 (strs b.1)))),(6,.a (pi b.2)),o9,(10002,.a (.agg [.l 17 noms,.l 3 mp,.l 9 mc,.l 22 mf]))]) (fun b=>b.2<=b.1.length/\GL noms b.1) (fun b=>noms.length-b.2) (a₀:=(l4,0)) rfl ⟨Yd _,h4⟩ ?_;rintro ⟨l,i⟩ ⟨k0,k1⟩;dsimp only at k0 k1;have k2:=k1.len;by_cases hi:i<l.length
 ·have e1:=Zbh hi;have e2:=k1.mem _ (Yl hi);simp(disch:=omega)[e1];by_cases hq:l[i]=nm
  ·simp(disch:=omega)[hq];exact hQ _
  ·simp(disch:=omega)[hq,e1];refine Zh4 H hn (fun hx=>absurd e2 hx) fun y hy _=>?_;obtain ⟨_,_,_,_,_,_,_,_,_,_,_,_,_,_,_,_,_,_,ey,_,_,hf',hc0',_⟩:=hn.get hy;simp(disch:=omega)[ey,e1];refine ZsB H hn hf' hc0' fun l5 h5=>?_;have h6:=h5.len;simp(disch:=omega);refine Lp.rule (fun (b:List LN×Nat)=>[(1,.a (ps nm)),fR 2,(5,.a (.one (.tip 1 (strs b.1)))),(6,.a (pi i)),(7,.a (.one (.tip 1 (strs l5)))),(8,.a (pi b.2)),o9,(10002,.a (.agg [.l 17 noms,.l 3 mp,.l 9 mc,.l 22 mf]))]) (fun b=>b.2<=l5.length/\GL noms b.1/\l.length<=b.1.length) (fun b=>l5.length-b.2) (a₀:=(l,0)) rfl ⟨Yd _,k1,Yc _⟩ ?_;rintro ⟨l',j⟩ ⟨v0,v1,v2⟩;dsimp only at v0 v1 v2;have v3:=v1.len;by_cases hj:j<l5.length
   ·have e3:=Zbh hj;simp(disch:=omega)[e3];refine Zeh H Zo (fun y hy hy2=>?_) (fun y hy hy2=>?_)
    ·subst hy;simp(disch:=omega)[e3,Zaz];exact RdN.mk (_,j+1) rfl ⟨hj,v1.snoc hy2 (h5.mem _ (Yl hj)) (h5.sn _ (Yl hj)),by simp;omega⟩ dO
    ·simp(disch:=omega)[e3];exact RdN.mk (_,j+1) rfl ⟨hj,v1,v2⟩ dO
   ·simp(disch:=omega);exact RdN.mk (l',i+1) rfl ⟨dO,v1⟩ dO
 ·simp(disch:=omega);exact hQ _
end Go.Am.Fe
end
section
namespace Go.Am.Fe
variable {S:SF} {Q:QF}
attribute [local simp] ZbO if_pos if_neg decide_eq_true decide_eq_false Yi Yj ZgF
@[local simp] def ZDw {x y:Int}:ZfP .and .i64 x y=some (.i (andJ x y)):=rfl
def Zus (H:Has S) {mm:Nat} {o n k m z:Int} {s u:LN} {a t l:LP} (ht:FNd mm (rN o s n k u m a t l z)) (hQ: ∀x:Bool,Q [pb x] []):Gives S ZiA [aN o s n k u m a t l z] [] Q:=by
 obtain ⟨m1,m2,m3,g1,g2,g3,g4,g5,_⟩:=ht.inv;refine .code H.ZvI rfl ?_;simp(disch:=omega)[Zlp];refine Zfs H g5 fun q0 hq0 ho0=>?_;have g60:=hq0.len;simp(disch:=omega);refine Zaf (fun hc=>?_) (fun hc=>?_)<;>simp(disch:=omega)[hc]<;>try simp only [bz] at hc
 · exact hQ _
 refine Zfs H g5 fun q hq ho=>?_;have g6:=hq.len;simp(disch:=omega);refine Lp.rule (fun (j:Nat)=>[(3,.a (.one (.l 10 q))),(4,.a (pi j)),o9]) (fun j=>j<=q.length) (fun j=>q.length-j) (a₀:=0) rfl (Yd _) ?_;intro j k1;by_cases hj:j<q.length
 · obtain ⟨m',q1,q2⟩:=hq.get hj;obtain ⟨o2,n2,k2',m2',z2,s2,u2,a2,t2,l2,e⟩:=q2.form;rw [e] at q2;obtain ⟨_,_,_,_,f1,f2,f3,f4,f5,_⟩:=q2.inv;simp(disch:=omega)[e];have hmid:True:=trivial
   repeat' (first
     | exact hQ _
     | exact RdN.mk (j+1) rfl hj Zo
     | exact RdN.mk (i+1) rfl Zo Zo
     | (refine Ztd H q2 (fun x=>?_);cases x<;>simp(disch:=omega)[e])
     | (refine Zoq H q2 ?_ (fun mm2 o3 n3 k3 m3' z3 s3 u3 a3 t3 l3 h3=>?_);all_goals (simp(disch:=omega)[e]))
     | (obtain ⟨_,_,_,_,_,f23,_⟩:=h3.inv;refine ZhQ H f23 (fun x=>?_);cases x<;>simp(disch:=omega)[e])
     | (refine ZhQ H f2i (fun x=>?_);cases x<;>simp(disch:=omega)[e,ei])
     | (refine ZhQ H f2 (fun x=>?_);cases x<;>simp(disch:=omega)[e])
     | (refine Zfs H f4 (fun p hp hop=>?_);have g7:=hp.len;simp(disch:=omega)[e])
     | (refine Lp.rule (fun (i:Nat)=>[(3,.a (.one (.l 10 q))),(4,.a (pi j)),(5,.a (.one (.l 10 p))),(6,.a (pi i)),o9]) (fun i=>i<=p.length+1) (fun i=>p.length+1-i) (a₀:=1) rfl Zo ?_
        intro i i1;by_cases hi:i<p.length;rotate_left;simp(disch:=omega)[e];rotate_left;obtain ⟨m'i,q1i,q2i⟩:=hp.get hi;obtain ⟨o2i,n2i,k2'i,m2'i,z2i,s2i,u2i,a2i,t2i,l2i,ei⟩:=q2i.form;rw [ei] at q2i;obtain ⟨_,_,_,_,f1i,f2i,f3i,f4i,f5i,_⟩:=q2i.inv;simp(disch:=omega)[e,ei])
     | (refine Tcs (fun hc=>?_) (fun hc=>?_)<;>simp(disch:=omega)[hc,e,ei]<;>try simp only [bz] at hc)
     | (refine Tcs (fun hc=>?_) (fun hc=>?_)<;>simp(disch:=omega)[hc,e]<;>try simp only [bz] at hc)
     | (exfalso;omega))
 · simp(disch:=omega);exact hQ _
def isP (r:List P):Bool:=match r with| .int _ o::_=>decide (o=5)|_=>false
def cntP (l:LP):Nat:=(l.filter isP).length
def Zqj {l:LP} {j:Nat} (hj:j<l.length) {o:Int} {r:List P} (e:l[j]= .i o::r):(o=5/\cntP (l.take (j+1))=cntP (l.take j)+1)∨(o≠5/\cntP (l.take (j+1))=cntP (l.take j)):=by
 rw [Ym,Ya hj,e];by_cases ho:o=5
 ·left;simp [cntP,isP,ho]
 ·right;simp [cntP,isP,ho]
def Zu8 (H:Has S) {mm:Nat} (hmm:mm<=99000) {o n k m z:Int} {s u:LN} {a t l:LP} (ht:FNd mm (rN o s n k u m a t l z)) (hQ:(∀(ty:List LN) (ki ar:List Int) (mo:List Bool) (pr:List LN) (hi:List Bool),Nm ty ki ar mo pr hi->pr.length=1+cntP l->Q [aW ty ki ar mo pr hi] [])):Gives S Zix [aN o s n k u m a t l z] [] Q:=by
 obtain ⟨m1,m2,m3,g1,g2,g3,g4,g5,_⟩:=ht.inv;have g6:=g5.len;have g7:=g5.len_le;refine .code H.Zwl rfl ?_;simp(disch:=omega)[ZkV];refine Lp.rule (fun (b:List LN×List Int×List Int×List Bool×List LN×List Bool×Nat)=>[fR 1,fR 2,fR 3,(4,.a (pi b.2.2.2.2.2.2)),o9,(10001,.a (aN o s n k u m a t l z)),(10002,.a (.agg [.tip 1 [],.tip 1 [],.tip 1 [],.tip 1 [],.tip 1 [],.tip 1 []])),(10003,.a (aU b.1 b.2.1 b.2.2.1 b.2.2.2.1 b.2.2.2.2.1 b.2.2.2.2.2.1))])
  (fun b=>b.2.2.2.2.2.2<=l.length/\b.1.length<=b.2.2.2.2.2.2+1/\(b.2.2.2.2.1.length<=b.2.2.2.2.2.2+1/\b.2.2.2.2.1.length=1+cntP (l.take b.2.2.2.2.2.2))/\Nm b.1 b.2.1 b.2.2.1 b.2.2.2.1 b.2.2.2.2.1 b.2.2.2.2.2.1) (fun b=>l.length-b.2.2.2.2.2.2) (a₀:=([[79,112,116]],[2],[1],[false],[[70,114,111,109,73,110,116]],[true],0)) rfl
  ⟨Yd _,by simp,⟨by simp,by simp [cntP]⟩,⟨⟨by simp,by simp [Sn,Byt]⟩,⟨by simp,by simp [Sn,Byt]⟩,rfl,rfl,rfl,rfl⟩⟩ ?_
 rintro ⟨ty,ki,ar,mo,pr,hi,j⟩ ⟨k0,k1,⟨k2,k3⟩,kw⟩;dsimp only at k0 k1 k2 k3 kw;have w1:=kw.t.1;have w2:=kw.p.1;have w3:=kw.k;have w4:=kw.a;have w5:=kw.m;have w6:=kw.h;by_cases hj:j<l.length
 ·obtain ⟨m',q1,q2⟩:=g5.get hj;obtain ⟨o2,n2,k2',m2',z2,s2,u2,a2,t2,l2,e⟩:=q2.form;rw [e] at q2;obtain ⟨_,_,_,_,f1,f2,f3,f4,f5,_⟩:=q2.inv;have hp:=Zqj hj e;simp(disch:=omega)[e]
  repeat' (first
      | (refine Zsl H (fun kd=>?_);simp(disch:=omega)[e])
      | (refine Zfs H f4 (fun p hp hop=>?_);have g7:=hp.len;simp(disch:=omega)[e,Zaz,ZdV,ZfQ])
      | (refine Zus H q2 (fun x=>?_);simp(disch:=omega)[e,Zaz,ZdV,ZfQ])
      | exact RdN.mk (_,_,_,_,_,_,j+1) rfl ⟨hj,by first|omega|(simp;omega),⟨by first|omega|(simp;omega),by first|omega|(simp;omega)⟩,kw⟩ dO
      | exact RdN.mk (_,_,_,_,_,_,j+1) rfl ⟨hj,by first|omega|(simp;omega),⟨by first|omega|(simp;omega),by first|omega|(simp;omega)⟩,⟨kw.t,kw.p.snoc f1 Zo,w3,w4,w5,by simp [w6]⟩⟩ dO
      | exact RdN.mk (_,_,_,_,_,_,j+1) rfl ⟨hj,by first|omega|(simp;omega),⟨by first|omega|(simp;omega),by first|omega|(simp;omega)⟩,⟨kw.t.snoc f1 Zo,kw.p,by simp [w3],by simp [w4],by simp [w5],w6⟩⟩ dO
      | exact RdN.mk (_,_,_,_,_,_,j+1) rfl ⟨hj,by first|omega|(simp;omega),⟨by first|omega|(simp;omega),by first|omega|(simp;omega)⟩,⟨kw.t.snoc f1 Zo,kw.p.snoc f1 Zo,by simp [w3],by simp [w4],by simp [w5],by simp [w6]⟩⟩ dO
      | (refine Tcs (fun hc=>?_) (fun hc=>?_)<;>simp(disch:=omega)[hc,e,Zaz,ZdV,ZfQ]<;>try simp only [bz] at hc)
      | (exfalso;omega))
 ·simp(disch:=omega);rw [Yg Zo] at k3;exact hQ _ _ _ _ _ _ kw k3
def ZxP (H:Has S) (hQ: ∀(s8:LN) (kd:Int) (gs:List LN) (b1 b2:Bool) (fs cs:LP) (o n k m z:Int) (s u:LN) (a t l:LP),NoR [.str s8,.i kd,.sl 1 (strs gs),.bool b1,.bool b2,.sl 6 fs,.sl 3 cs,.i o,.str s,.i n,.i k,.str u,.i m,.sl 4 a,.sl 4 t,.sl 10 l,.i z]->Q [.agg [.s s8,.i kd,.l 1 (strs gs),.p (.bool b1),.p (.bool b2),.l 6 fs,.l 3 cs,.i o,.s s,.i n,.i k,.s u,.i m,.l 4 a,.l 4 t,.l 10 l,.i z]] []):Gives S ZqH [] [] Q:=by
 refine .code H.ZDc rfl ?_;simp(disch:=omega)[ZsK];refine hQ _ _ [_] _ _ _ _ _ _ _ _ _ _ _ _ _ _ ⟨2,_,_,_,_,_,_,_,_,_,_,_,_,_,_,_,_,_,rfl,⟨by simp,by simp [Byt]⟩,⟨by simp,?_⟩,RowsOf.nil,⟨by simp,?_⟩,FNd.zero⟩
 ·intro x hx;simp at hx;subst hx;exact ⟨by simp,by simp [Byt]⟩
 ·intro x hx;simp at hx;rcases hx with rfl|rfl
  ·exact ⟨0,_,_,_,rfl,⟨by simp,by simp [Byt]⟩,FTys.nil⟩
  ·exact ⟨1,_,_,_,rfl,⟨by simp,by simp [Byt]⟩,FTys.snoc (m:=0) FTys.nil (FTy.mk ⟨by simp,by simp [Byt]⟩ FTys.nil Zo) Zs⟩
def Zrh (H:Has S) (hQ: ∀(s:LN) (as ms:LP),PrR [.str s,.sl 2 as,.sl 10 ms]->Q [.agg [.s s,.l 2 as,.l 10 ms]] []):Gives S Zha [] [] Q:=by
 refine .code H.Zvc rfl ?_;simp(disch:=omega)[ZjA];refine Zk1 H ?_;simp(disch:=omega);refine hQ _ _ _ ⟨_,_,_,rfl,⟨by simp,by simp [Byt]⟩,RowsOf.nil,⟨by simp,?_⟩⟩;intro x hx;simp at hx;subst hx;refine ⟨1,1,_,_,_,_,_,_,_,_,_,_,rfl,⟨by simp,by simp [Byt]⟩,⟨by simp,?_⟩,(FTy.mk (s:=[83,101,108,102]) ⟨by decide,by simp [Byt]⟩ FTys.nil Zo),FTy.zero⟩;intro x hx;simp at hx;subst hx;exact ⟨1,_,_,_,_,_,_,rfl,⟨by simp,by simp [Byt]⟩,FTy.mk ⟨by simp,by simp [Byt]⟩ FTys.nil Zo⟩
end Go.Am.Fe
end
section
namespace Go.Am.Fe
variable {S:SF} {Q:QF}
attribute [local simp] ZbO if_pos if_neg decide_eq_true decide_eq_false Yi Yj ZgF
def Zf6 (l:List Bool):LC:=l.map fun x=> .p (.bool x)
def ZnP (l:List LN):LC:=l.map fun x=> .s x
@[simp] def ZoF {l:List Bool}:(Zf6 l).length=l.length:=by simp [Zf6]
@[simp] def Zvx {l:List LN}:(ZnP l).length=l.length:=by simp [ZnP]
@[simp] def Zwg {l:List Bool}:List.map C.plain (Zf6 l)=Zf6 l:=by simp [Zf6]
@[simp] def Zxh {l:List LN}:List.map C.plain (ZnP l)=ZnP l:=by simp [ZnP]
def Zrm {l:List Bool}:toPs (Zf6 l)=some (l.map fun x=> .bool x):=by
 induction l with
 | nil=>rfl
 | cons x l ih=>simp [Zf6,toPs] at*;simp [ih]
def Zsd {l:List LN}:toPs (ZnP l)=some (l.map fun x=> .str x):=by
 induction l with
 | nil=>rfl
 | cons x l ih=>simp [ZnP,toPs] at*;simp [ih]
def ZrE {l:List Bool} {j:Nat} (h:j<l.length):((Zf6 l).drop j).take 1=[.p (.bool l[j])]:=by
 rw [ZgC (by simpa using h)];simp [Zf6]
def Zoh {l:List LN} {j:Nat} (h:j<l.length):((ZnP l).drop j).take 1=[.p (.str l[j])]:=by
 rw [ZgC (by simpa using h)];simp [ZnP]
def Zs7 {l:List Bool} {j:Nat} {x:Bool} (h:j<l.length):(Zf6 l).take j++ .p (.bool x)::(Zf6 l).drop (j+1)=Zf6 (l.set j x):=by
 simp only [Zf6,<-List.map_take,<-List.map_drop];rw [kO,if_pos h];simp
def ZuZ {l:List LN} {j:Nat} {x:LN} (h:j<l.length):(ZnP l).take j++ .s x::(ZnP l).drop (j+1)=ZnP (l.set j x):=by
 simp only [ZnP,<-List.map_take,<-List.map_drop];rw [kO,if_pos h];simp
def ZfE {k κ:Nat} {e:Env} {l:List Bool} (h:0<l.length):Zpk k 0 κ 1 e (.a (.one (.uniq 1 (Zay l))))=(κ,.a (.agg (Zf6 l)))::(k,.a (.one (.own ⟨true,κ,0⟩ 1 l.length)))::e:=by
 rw [Zq1 (by simpa using h) Zd,Zsu];have:(Zay l).flatten.map C.p=Zf6 l:=by
  clear h;induction l with
  | nil=>rfl
  | cons x l ih=>simp [Zay,Zf6] at*;exact ih
 rw [this]
def ZfD {k κ n:Nat} {e:Env} {l:List Bool} (h:n=l.length):Zqs k 0 κ 1 e (.a (.one (.own ⟨true,κ,0⟩ 1 n))) (.a (.agg (Zf6 l)))=(k,.a (.one (.uniq 1 (Zay l))))::(κ,.undef)::e:=by
 subst h;rw [Zqk Zs,Nat.mul_one,Yg Zs,Zrm,Zn2,ZmQ];rfl
section
variable {k κ:Nat} {e:Env} {c0 c1 c2 c3 c4 c5 c6 c7 c8:C}
def ZpC {l:List LN} (h:0<l.length):Zpk k 8 κ 1 e (.a (.agg [c0,c1,c2,c3,c4,c5,c6,c7,.uniq 1 (strs l)]))=(κ,.a (.agg (ZnP l)))::(k,.a (.agg [c0,c1,c2,c3,c4,c5,c6,c7,.own ⟨true,κ,0⟩ 1 l.length]))::e:=by
 have h2:(strs l).flatten.map C.p=ZnP l:=by
  clear h;induction l with
  | nil=>rfl
  | cons x l ih=>simp [strs,ZnP] at*;exact ih
 rw [<-h2];cases l with
 | nil=>simp at h
 | cons r l=>simp [Zpk,A.setCell,Env.set,strs,A.cells]
def ZnI {l:List LN} {n:Nat} (h:n=l.length):Zqs k 8 κ 1 e (.a (.agg [c0,c1,c2,c3,c4,c5,c6,c7,.own ⟨true,κ,0⟩ 1 n])) (.a (.agg (ZnP l)))=(k,.a (.agg [c0,c1,c2,c3,c4,c5,c6,c7,.uniq 1 (strs l)]))::(κ,.undef)::e:=by
 subst h;have h2:Zo0 1 l.length (l.map fun x=>P.str x)=strs l:=ZmQ;simp [Zqs,A.cells,A.setCell,Env.set,Yg,Zsd,h2]
def Zy3 {x:LP} {s:Nat} {d:D}:Zqs k 8 κ s e (.a (.agg [c0,c1,c2,c3,c4,c5,c6,c7,.uniq 1 x])) d=e:=by
 cases d with
 | a x=>cases x<;>rfl
 | _=>rfl
def Zy4:Zpk k 8 κ 1 e (.a (.agg [c0,c1,c2,c3,c4,c5,c6,c7,.uniq 1 []]))=e:=rfl
def ZCB {s:Nat} {x:LP}:pubG k 8 e (.a (.agg [c0,c1,c2,c3,c4,c5,c6,c7,.uniq s x]))=(k,.a (.agg [c0,c1,c2,c3,c4,c5,c6,c7,.tip s x]))::e:=rfl
def Zzm {s:Nat} {x:LP}:pubG k 8 e (.a (.agg [c0,c1,c2,c3,c4,c5,c6,c7,.tip s x]))=e:=rfl
def ZCF {s:Nat} {x:LP}:pubG k 7 e (.a (.agg [c0,c1,c2,c3,c4,c5,c6,.uniq s x,c8]))=(k,.a (.agg [c0,c1,c2,c3,c4,c5,c6,.tip s x,c8]))::e:=rfl
def Zx0 {s:Nat} {x:LP}:pubG k 7 e (.a (.agg [c0,c1,c2,c3,c4,c5,c6,.tip s x,c8]))=e:=rfl
def crow (l:LP):LC:=l.flatten.map C.p
def Four (l:LP):Prop:= ∀r∈l,r.length=4
def Four.flat: ∀{l:LP},Four l->l.flatten.length=l.length*4
 | [],_=>rfl
 | r::l,h=>by
   have:=h r Yr;have:=Four.flat (l:=l) fun x hx=>h x (Yk _ hx);simp_all;omega
def Four.crow {l:LP} (h:Four l):(crow l).length=l.length*4:=by rw [Fe.crow,Yh,h.flat]
def ZqC: ∀{l:List P},toPs (l.map C.p)=some l
 | []=>rfl
 | x::l=>by simp [toPs,ZqC (l:=l)]
def Zoj: ∀{l:LP},Four l->Zo0 4 l.length l.flatten=l
 | [],_=>rfl
 | r::l,h=>by
   have h1:=h r Yr;have h2:=Zoj (l:=l) fun x hx=>h x (Yk _ hx);simp only [YO,List.flatten_cons,Zo0];rw [List.take_append_of_le_length Zo,Yg Zo,List.drop_append_of_le_length Zo,List.drop_of_length_le Zo,YP,h2]
def Four.put: ∀{l:LP} {j:Nat} {r:List P},Four l->j<l.length->(Fe.crow l).take (j*4)++(r.map C.p++(Fe.crow l).drop (j*4+4))=Fe.crow (l.set j r)
 | x::l,0,r,h,_=>by
   have h1:=h x Yr;simp [Fe.crow,List.drop_append,h1]
 | x::l,j+1,r,h,hj=>by
   have h1:=h x Yr;have h2:=Four.put (l:=l) (j:=j) (r:=r) (fun x hx=>h x (Yk _ hx)) (by simpa using hj);have e1:(j+1)*4=(x.map C.p).length+j*4:=by simp [h1];omega
   have e2:(j+1)*4+4=(x.map C.p).length+(j*4+4):=by simp [h1];omega
   simp only [Fe.crow,List.flatten_cons,YC,List.set_cons_succ];rw [e2,e1,List.take_length_add_append,List.drop_length_add_append,Yu];congr 1
def Four.set {l:LP} {j:Nat} {r:List P} (h:Four l) (hr:r.length=4):Four (l.set j r):=fun x hx=>by
 rcases j7 hx with hx|hx
 ·exact h x hx
 ·rw [hx];exact hr
def ZAK {l:LP} (h:0<l.length):Zpk k 7 κ 4 e (.a (.agg [c0,c1,c2,c3,c4,c5,c6,.uniq 4 l,c8]))=(κ,.a (.agg (crow l)))::(k,.a (.agg [c0,c1,c2,c3,c4,c5,c6,.own ⟨true,κ,0⟩ 4 l.length,c8]))::e:=by
 cases l with
 | nil=>simp at h
 | cons r l=>simp [Zpk,A.setCell,Env.set,A.cells,crow]
def ZBo {l:LP} {n:Nat} (h:n=l.length) (h4:Four l):Zqs k 7 κ 4 e (.a (.agg [c0,c1,c2,c3,c4,c5,c6,.own ⟨true,κ,0⟩ 4 n,c8])) (.a (.agg (crow l)))=(k,.a (.agg [c0,c1,c2,c3,c4,c5,c6,.uniq 4 l,c8]))::(κ,.undef)::e:=by
 subst h;have h2:=h4.crow;have h3:toPs (crow l)=some l.flatten:=ZqC;simp [Zqs,A.cells,A.setCell,Env.set,h2,Yg,h3,Zoj h4]
end
def Ztc {l:LP}:List.map C.plain (crow l)=crow l:=by rw [crow,YL];exact YD fun _ _=>rfl
def ZrD {κ:Nat} {l:List Bool}:(∃x,x∈Zf6 l/\C.ment κ x=true)=False:=by simp only [Zf6,List.mem_map,eq_iff_iff,iff_false];rintro ⟨_,⟨_,_,rfl⟩,h⟩;simp at h
def ZuU {κ:Nat} {l:LP}:(∃x,x∈crow l/\C.ment κ x=true)=False:=by simp only [crow,List.mem_map,eq_iff_iff,iff_false];rintro ⟨_,⟨_,_,rfl⟩,h⟩;simp at h
def FTys.of: ∀{l:LP},l.length<=100000->(∀r∈l,∃m,FTy m r)-> ∃m,FTys m l
 | l,hl,h=>by
   suffices hs: ∃ts:List Ty,Ty.encs ts=l/\Ty.fits ts by
     obtain ⟨ts,e,f⟩:=hs;refine ⟨Ty.szs ts,ts,e,?_,f,Yc _⟩;have:ts.length=l.length:=by rw [<-e,Ty.encs_map];simp
     omega
   clear hl
   induction l with
   | nil=>exact ⟨[],rfl,trivial⟩
   | cons r l ih=>
     obtain ⟨m,t,e,f,_⟩:=h r Yr;obtain ⟨ts,es,fs⟩:=ih fun x hx=>h x (Yk _ hx);exact ⟨t::ts,by simp [Ty.encs_map,<-e] at*;rw [<-es],f,fs⟩
def FTy.four {m:Nat} {r:List P} (h:FTy m r):r.length=4:=by
 obtain ⟨_,_,_,_,e⟩:=h.form;rw [e];rfl
end Go.Am.Fe
end
