/- Part. -/
import Derived.Test.YtcdpeppblcijfaaGreatDoorXaw
set_option maxRecDepth 999999
set_option maxHeartbeats 0
set_option linter.all false
section
namespace Go.Am.Fe
variable {S:SF} {Q:QF}
attribute [local simp] ZbO if_pos if_neg decide_eq_true decide_eq_false List.getElem?_cons_zero List.getElem?_cons_succ ZgF
def plc (n:Int) (l:Nat):Nat:=(IntKind.u64.wrap n).toNat % l
theorem ZHq (HW:S ZD8=some (.code ZEk)) {n:Int} {l:Nat} (h0:0<l) (hl:l<=100000) (hQ:Q [pi (plc n l)] []):Gives S ZD8 [pi n,pi l] [] Q:=by
 have e1:IntKind.u64.wrap (l:Int)=l:=by unfold IntKind.wrap IntKind.bits IntKind.signed;simp;omega
 obtain ⟨w,e2⟩: ∃w:Nat,IntKind.u64.wrap n=w:=by
  refine ⟨(IntKind.u64.wrap n).toNat,?_⟩
  unfold IntKind.wrap IntKind.bits IntKind.signed
  simp
  omega
 rw [plc,e2,Int.toNat_natCast] at hQ
 have e3:Int.tmod (w:Int) (l:Int)=((w % l:Nat):Int):=rfl
 have e4:=Nat.mod_lt w h0
 have e5:(l:Int)≠0:=by omega
 refine .code HW rfl ?_
 simp (disch:=omega)[ZEk,e1,e2,e3,Nat.ne_of_gt h0]
 exact hQ
theorem ZHf {α:Type} {l:List α} {j:Nat} (h:j<l.length):l.reverse.take (j+1)=l.reverse.take j++[l[l.length-1-j]]:=by
 rw [List.take_add_one,List.getElem?_eq_getElem (by rw [List.length_reverse];exact h),List.getElem_reverse]
 rfl
theorem ZHe {α β:Type} {l:List α} {f:α->β} (h:1<l.length):(turn 1 l).map f=(l.map f).drop 1++[f l[0]]:=by
 cases l with
 | nil=>simp at h
 | cons x l=>simp [turn]
theorem ZHa {α:Type} {l:List α} (h: ¬1<l.length):turn 1 l=l:=by
 match l,h with
 | [],_=>rfl
 | [_],_=>rfl
 | _::_::_,h=>simp at h
theorem ZG6 (H:HG S) (HL:S ZG2=some (.code ZG3)) (HW:S ZD8=some (.code ZEk))
  (HA: ∀Q:QF,Q [pb true] []->Gives S Zd3 [] [] Q) {src:List Nat} {n:Int}
  (HT: ∀Q:QF,(∀(m:Mo) (ok:Bool),m.Good->(ok=true->m.ns≠[]/\m.Dist)->Q [.agg m.cs',pb ok] [])->Gives S Zgf [ps src,pi 4000] [] Q)
  (hQ:Q [pb true] []):Gives S ZG2 [ps src,pi n] [] Q:=by
 refine .code HL rfl ?_
 simp (disch:=omega)[ZG3]
 refine HT _ fun m ok hm hok=>?_
 cases ok
 ·simp (disch:=omega)
  refine HA _ ?_
  simp (disch:=omega)
  exact hQ
 obtain ⟨hne,hd⟩:=hok rfl
 have hn0:0<m.ns.length:=List.length_pos_iff.2 hne
 have hn1:=hm.n.1
 have hp1:=hm.p.1
 have hc1:=hm.c.1
 have hf1:=hm.f.1
 obtain ⟨w,hw⟩: ∃w,w=plc n m.ns.length:=⟨_,rfl⟩
 have hwl:w<m.ns.length:=hw ▸ Nat.mod_lt _ hn0
 obtain ⟨T,hT⟩: ∃T,T=((turn w m.ns).map No.rot).map No.row:=⟨_,rfl⟩
 have hTl:T.length=m.ns.length:=by rw [hT,List.length_map,List.length_map,ZHj]
 have hTs: ∀i (hi:i<m.ns.length) (j:Nat) (hj:j<m.ns.length),j=(i+w) % m.ns.length->T.take (i+1)=T.take i++[m.ns[j].rot.row]:=fun i hi j hj e=>by
  subst e hT
  rw [List.take_add_one,List.map_map,List.getElem?_map,ZHo hwl hi,List.getElem?_eq_getElem hj]
  rfl
 simp (disch:=omega)
 refine Lp.rule (fun (i:Nat)=>[(1,.a (pi n)),fR 5,fR 7,(8,.a (pi i)),o9,(10005,.a (.agg m.cs')),(10007,.a (.agg [.tip 17 (T.take i),.tip 3 [],.tip 9 [],.tip 22 []]))]) (fun i=>i<=m.ns.length) (fun i=>m.ns.length-i) (a₀:=0) rfl (Nat.zero_le _) ?_
 intro i k1
 by_cases hi:i<m.ns.length
 ·obtain ⟨j,ej⟩: ∃j,j=(i+w) % m.ns.length:=⟨_,rfl⟩
  have hj:j<m.ns.length:=ej ▸ Nat.mod_lt _ hn0
  have e3:Int.tmod ((i:Int)+(w:Int)) (m.ns.length:Int)=(j:Int):=by rw [ej];rfl
  have e4:=hTs i hi j hj ej
  have hg:=hm.n.get hj
  have hfl:=hg.fl
  have hcl:=hg.cl
  have hlen:(T.take i).length<=100000:=by simp;omega
  simp (disch:=omega)
  refine ZHq HW hn0 hn1 ?_
  rw [<-hw]
  simp (disch:=omega)[e3]
  by_cases hf:m.ns[j].f=true
  ·have e5:m.ns[j].rot=m.ns[j]:=if_pos hf
   rw [e5] at e4
   simp (disch:=omega)[hf]
   exact RdN.mk (i+1) (by rw [e4];simp [hf]) hi Zo
  have hf':m.ns[j].f=false:=by simpa using hf
  have e5:m.ns[j].rot=⟨m.ns[j].s,m.ns[j].k,m.ns[j].gs,m.ns[j].m,m.ns[j].f,turn 1 m.ns[j].fs,turn 1 m.ns[j].cs,m.ns[j].d⟩:=if_neg hf
  by_cases h1:1<m.ns[j].fs.length
  ·have r1:=ZHe (f:=Fi.row) h1
   by_cases h2:1<m.ns[j].cs.length
   ·have r2:=ZHe (f:=Ca.row) h2
    simp (disch:=omega)[hf',h1,h2]
    exact RdN.mk (i+1) (by rw [e4,e5,No.row,r1,r2];simp [hf',List.take_of_length_le]) hi Zo
   ·have r2:=ZHa h2
    simp (disch:=omega)[hf',h1,h2]
    exact RdN.mk (i+1) (by rw [e4,e5,No.row,r1,r2];simp [hf',List.take_of_length_le]) hi Zo
  ·have r1:=ZHa h1
   by_cases h2:1<m.ns[j].cs.length
   ·have r2:=ZHe (f:=Ca.row) h2
    simp (disch:=omega)[hf',h1,h2]
    exact RdN.mk (i+1) (by rw [e4,e5,No.row,r1,r2];simp [hf',List.take_of_length_le]) hi Zo
   ·have r2:=ZHa h2
    simp (disch:=omega)[hf',h1,h2]
    exact RdN.mk (i+1) (by rw [e4,e5,No.row,r1,r2];simp [hf',List.take_of_length_le]) hi Zo
 rw [show T.take i=T from List.take_of_length_le Zo]
 simp (disch:=omega)
 refine Lp.rule (fun (c:Nat)=>[fR 5,fR 7,(10,.a (pi ((m.ps.length:Int)-1-c))),o9,(10005,.a (.agg m.cs')),(10007,.a (.agg [.tip 17 T,.tip 3 ((m.ps.map Pr.row).reverse.take c),.tip 9 [],.tip 22 []]))]) (fun c=>c<=m.ps.length) (fun c=>m.ps.length-c) (a₀:=0) Zs (Nat.zero_le _) ?_
 intro c k1
 by_cases hi:c<m.ps.length
 ·obtain ⟨k,hk⟩: ∃k,k+c+1=m.ps.length:=⟨m.ps.length-1-c,by omega⟩
  have e1:(m.ps.length:Int)-1-c=k:=by omega
  have e2:=ZHf (l:=m.ps.map Pr.row) (j:=c) (by rw [List.length_map];exact hi)
  have e3:(m.ps.map Pr.row).length-1-c=k:=by rw [List.length_map];omega
  simp only [e3,List.getElem_map] at e2
  have e4:(m.ps.length:Int)-1-((c+1:Nat):Int)=k-1:=by omega
  have hlen:((m.ps.map Pr.row).reverse.take c).length<=100000:=by simp;omega
  have hkl:k<m.ps.length:=by omega
  rw [e1]
  simp (disch:=omega)
  exact RdN.mk (c+1) (by simp only [e2,e4]) hi Zo
 rw [show (m.ps.map Pr.row).reverse.take c=(m.ps.map Pr.row).reverse from List.take_of_length_le Ze]
 simp (disch:=omega)
 refine Lp.rule (fun (c:Nat)=>[fR 5,fR 7,(11,.a (pi ((m.cs.length:Int)-1-c))),o9,(10005,.a (.agg m.cs')),(10007,.a (.agg [.tip 17 T,.tip 3 (m.ps.map Pr.row).reverse,.tip 9 ((m.cs.map Co.row).reverse.take c),.tip 22 []]))]) (fun c=>c<=m.cs.length) (fun c=>m.cs.length-c) (a₀:=0) Zs (Nat.zero_le _) ?_
 intro c k1
 by_cases hi:c<m.cs.length
 ·obtain ⟨k,hk⟩: ∃k,k+c+1=m.cs.length:=⟨m.cs.length-1-c,by omega⟩
  have e1:(m.cs.length:Int)-1-c=k:=by omega
  have e2:=ZHf (l:=m.cs.map Co.row) (j:=c) (by rw [List.length_map];exact hi)
  have e3:(m.cs.map Co.row).length-1-c=k:=by rw [List.length_map];omega
  simp only [e3,List.getElem_map] at e2
  have e4:(m.cs.length:Int)-1-((c+1:Nat):Int)=k-1:=by omega
  have hlen:((m.cs.map Co.row).reverse.take c).length<=100000:=by simp;omega
  have hkl:k<m.cs.length:=by omega
  rw [e1]
  simp (disch:=omega)
  exact RdN.mk (c+1) (by simp only [e2,e4]) hi Zo
 rw [show (m.cs.map Co.row).reverse.take c=(m.cs.map Co.row).reverse from List.take_of_length_le Ze]
 simp (disch:=omega)
 refine Lp.rule (fun (c:Nat)=>[fR 5,fR 7,(12,.a (pi ((m.fs.length:Int)-1-c))),o9,(10005,.a (.agg m.cs')),(10007,.a (.agg [.tip 17 T,.tip 3 (m.ps.map Pr.row).reverse,.tip 9 (m.cs.map Co.row).reverse,.tip 22 ((m.fs.map Fu.row).reverse.take c)]))]) (fun c=>c<=m.fs.length) (fun c=>m.fs.length-c) (a₀:=0) Zs (Nat.zero_le _) ?_
 intro c k1
 by_cases hi:c<m.fs.length
 ·obtain ⟨k,hk⟩: ∃k,k+c+1=m.fs.length:=⟨m.fs.length-1-c,by omega⟩
  have e1:(m.fs.length:Int)-1-c=k:=by omega
  have e2:=ZHf (l:=m.fs.map Fu.row) (j:=c) (by rw [List.length_map];exact hi)
  have e3:(m.fs.map Fu.row).length-1-c=k:=by rw [List.length_map];omega
  simp only [e3,List.getElem_map] at e2
  have e4:(m.fs.length:Int)-1-((c+1:Nat):Int)=k-1:=by omega
  have hlen:((m.fs.map Fu.row).reverse.take c).length<=100000:=by simp;omega
  have hkl:k<m.fs.length:=by omega
  rw [e1]
  simp (disch:=omega)
  exact RdN.mk (c+1) (by simp only [e2,e4]) hi Zo
 rw [show (m.fs.map Fu.row).reverse.take c=(m.fs.map Fu.row).reverse from List.take_of_length_le Ze]
 have ho:=Mo.rev_okn (w:=w) hm.okn
 have e1:=ZG8 hm.okn (Mo.rev_same (w:=w) hm hd)
 have e2:=ZG8 ho (Mo.same_rev (w:=w) hm hd)
 have er:(m.rev w).cs'=[.p (.sl 17 T),.p (.sl 3 (m.ps.map Pr.row).reverse),.p (.sl 9 (m.cs.map Co.row).reverse),.p (.sl 22 (m.fs.map Fu.row).reverse)]:=by
  rw [hT,<-List.map_reverse,<-List.map_reverse,<-List.map_reverse];rfl
 have c1:=fun Q=>ZEh (Q:=Q) (m1:=m) (m2:=m.rev w) H hm.okn ho (by rw [e1];simp)
 have c2:=fun Q=>ZEh (Q:=Q) (m1:=m.rev w) (m2:=m) H ho hm.okn (by rw [e2];simp)
 rw [er,e1,ZDz rfl] at c1
 rw [er,e2,ZDz rfl] at c2
 simp (disch:=omega)
 refine c1 _ ?_
 simp (disch:=omega)
 refine c2 _ ?_
 simp (disch:=omega)
 refine HA _ ?_
 simp (disch:=omega)
 exact hQ
end Go.Am.Fe
end
