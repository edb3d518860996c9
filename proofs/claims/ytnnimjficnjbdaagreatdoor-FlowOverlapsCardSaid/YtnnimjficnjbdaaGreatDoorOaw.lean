/- Part. -/
import Derived.Test.YtnnimjficnjbdaaGreatDoorOav
import Derived.Orders
set_option maxRecDepth 999999
set_option maxHeartbeats 0
set_option linter.all false
section
namespace Go.Cm
attribute [local instance] wi0
variable {P:Program} {F:ZaQ} {ops:Array Oper} {nt:Nat} {e e':Env} {h h':H}
def Cl (ops:Array Oper) (L:Nat->Bool):Prop:= ∀(k:Nat) (o:Oper),ops[k]? =some o->L k=true-> ∀ed∈o.after,Region.binds .any ed=true->L ed.on=true
theorem ZN6 (k j:Nat):(1<<<k).testBit j=decide (k=j):=by rw [Nat.one_shiftLeft,Nat.testBit_two_pow]
theorem ZKf (A:List Nat): ∀(l:List Edge) (m j:Nat),(l.foldl (ZQG A) m).testBit j=true->m.testBit j=true∨ ∃ed∈l,Region.binds .any ed=true/\(ed.on=j∨(A.getD ed.on 0).testBit j=true)
 | [],m,j,h=> .inl h
 | ed::l,m,j,h=>by
   simp only [List.foldl_cons] at h
   rcases ZKf A l _ j h with h|⟨e',h1,h2,h3⟩
   · unfold ZQG at h
     split at h
     · rename_i hb
       simp only [Nat.testBit_or,Bool.or_eq_true,ZN6,decide_eq_true_eq] at h
       rcases h with h|h|h
       · exact .inl h
       · exact .inr ⟨ed,by simp,hb,.inl h⟩
       · exact .inr ⟨ed,by simp,hb,.inr h⟩
     · exact .inl h
   · exact .inr ⟨e',by simp [h1],h2,h3⟩
structure Pl (ops:Array Oper):Prop where
 an: ∀i,i<ops.size->ZOj ops i=true
 rd: ∀i,i<ops.size->ZK5 ops i=true
 ds: ∀i j t,ZHc ops i=some t->ZHc ops j=some t->i=j
 ef: ∀(k j i x:Nat),j<k->(effs ops)[k]? =some i->(effs ops)[j]? =some x->(anc ops i).testBit x=true
 sc:ZPf ops (sch ops) 0=some (2 ^ ops.size-1)
 lt: ∀i∈sch ops,i<ops.size
 fi:(sch ops).filter (isE ops)=effs ops
theorem ZIl {i t:Nat} (h:ZHc ops i=some t):i<ops.size:=by
 unfold ZHc at h
 cases ho:ops[i]? with
 | none=>rw [ho] at h;cases h
 | some o=>exact (Array.getElem?_eq_some_iff.1 ho).1
theorem ZLX (hp:ZOB ops=true):Pl ops:=by
 unfold ZOB at hp
 simp only [Bool.and_eq_true,beq_iff_eq] at hp
 obtain ⟨⟨⟨⟨h1,h2⟩,h3⟩,h4⟩,h5⟩:=hp
 have h1': ∀i,i<ops.size->(ZOj ops i=true/\ZK5 ops i=true)/\ ∀j,j<i->((ZHc ops i).isNone||ZHc ops i !=ZHc ops j)=true:=fun i hi=>by
  have:=List.all_eq_true.1 h1 i (List.mem_range.2 hi)
  simp only [Bool.and_eq_true] at this
  exact ⟨this.1,fun j hj=>List.all_eq_true.1 this.2 j (List.mem_range.2 hj)⟩
 have hd: ∀i j t,j<i->ZHc ops i=some t->ZHc ops j=some t->False:=fun i j t hj hi hj'=>by
  have:=(h1' i (ZIl hi)).2 j hj
  rw [hi,hj'] at this
  simp at this
 refine ⟨fun i hi=>(h1' i hi).1.1,fun i hi=>(h1' i hi).1.2,fun i j t hi hj=>?_,fun k j i x hjk hk hj=>?_,h3,fun i hi=>?_,h5⟩
 ·rcases Nat.lt_trichotomy i j with hlt|heq|hlt
  ·exact (hd j i t hlt hj hi).elim
  ·exact heq
  ·exact (hd i j t hlt hi hj).elim
 ·have hkl:=Am.Zaq hk
  have:=List.all_eq_true.1 (List.all_eq_true.1 h2 k (List.mem_range.2 hkl)) j (List.mem_range.2 hjk)
  simpa [List.getD,hk,hj] using this
 ·have:=List.all_eq_true.1 h4 i hi
  simpa using this
theorem ZG5 (hp:Pl ops) {L:Nat->Bool} (hc:Cl ops L): ∀(i:Nat) (o:Oper),ops[i]? =some o->(∀ed∈o.after,Region.binds .any ed=true->L ed.on=true)-> ∀j,(anc ops i).testBit j=true->L j=true:=by
 intro i
 induction i using Nat.strongRecOn with
 | _ i ih=>
   intro o ho hr j hj
   have hi:=(Array.getElem?_eq_some_iff.1 ho).1
   have hok:=hp.an i hi
   unfold ZOj at hok
   rw [ho] at hok
   simp only [Bool.and_eq_true,beq_iff_eq] at hok
   obtain ⟨h1,h2⟩:=hok
   rw [h2] at hj
   rcases ZKf _ _ _ _ hj with hz|⟨ed,e1,e2,e3⟩
   · simp at hz
   · have hL:=hr ed (by simpa using e1) e2
     have hlt:=List.all_eq_true.1 h1 ed e1
     simp only [e2,Bool.not_true,Bool.false_or,Nat.blt_eq] at hlt
     rcases e3 with rfl|e3
     · exact hL
     · have hlt':ed.on<ops.size:=by omega
       have ho':ops[ed.on]? =some (ops[ed.on]'hlt'):=Array.getElem?_eq_getElem _
       exact ih ed.on hlt _ ho' (fun ed' h1 h2=>hc _ _ ho' hL ed' h1 h2) j e3
theorem ZH6: ∀(l:List Nat) (m m':Nat),ZPf ops l m=some m'->(∀j,m'.testBit j=true↔m.testBit j=true∨j∈l)/\(l.Nodup/\ ∀j∈l,m.testBit j=false)/\
   ∀(p i:Nat),l[p]? =some i-> ∀j,(anc ops i).testBit j=true->m.testBit j=true∨ ∃q,q<p/\l[q]? =some j
 | [],m,m',h=>by
   simp only [ZPf,Option.some.injEq] at h
   subst h
   exact ⟨fun j=>by simp,⟨List.nodup_nil,fun j hj=>by cases hj⟩,fun p i hi=>by simp at hi⟩
 | i::r,m,m',h=>by
   simp only [ZPf] at h
   split at h
   · rename_i hc
     simp only [Bool.and_eq_true,Bool.not_eq_true',beq_iff_eq] at hc
     obtain ⟨c1,c2⟩:=hc
     obtain ⟨h1,⟨h2,h3⟩,h4⟩:=ZH6 r _ _ h
     have hb: ∀j,(m|||1<<<i).testBit j=true↔m.testBit j=true∨i=j:=fun j=>by simp only [Nat.testBit_or,Bool.or_eq_true,ZN6,decide_eq_true_eq]
     refine ⟨fun j=>?_,⟨List.nodup_cons.2 ⟨fun hm=>?_,h2⟩,fun j hj=>?_⟩,fun p k hk j hj=>?_⟩
     · rw [h1,hb]
       simp only [List.mem_cons,or_assoc,eq_comm]
     · have:=h3 i hm
       rw [Bool.eq_false_iff] at this
       exact this ((hb i).2 (.inr rfl))
     · rcases List.mem_cons.1 hj with rfl|hj
       · exact c1
       · have:=h3 j hj
         rw [Bool.eq_false_iff] at this⊢
         exact fun hh=>this ((hb j).2 (.inl hh))
     · cases p with
       | zero=>
         simp only [List.getElem?_cons_zero,Option.some.injEq] at hk
         subst hk
         left
         rw [<-c2,Nat.testBit_and,Bool.and_eq_true] at hj
         exact hj.2
       | succ p=>
         rcases h4 p k (by simpa using hk) j hj with hm|⟨q,q1,q2⟩
         · rcases (hb j).1 hm with hm|rfl
           · exact .inl hm
           · exact .inr ⟨0,by omega,by simp⟩
         · exact .inr ⟨q+1,by omega,by simpa using q2⟩
   · cases h
theorem Pl.nodup (hp:Pl ops):(sch ops).Nodup:=(ZH6 _ _ _ hp.sc).2.1.1
theorem Pl.pos (hp:Pl ops) {i:Nat} (hi:i<ops.size): ∃p:Nat,(sch ops)[p]? =some i:=by
 have:=((ZH6 _ _ _ hp.sc).1 i).1 (by rw [Nat.testBit_two_pow_sub_one];simpa using hi)
 rcases this with h|h
 ·simp at h
 ·exact List.mem_iff_getElem?.1 h
theorem Pl.before (hp:Pl ops) {p i j:Nat} (hi:(sch ops)[p]? =some i) (hj:(anc ops i).testBit j=true): ∃q:Nat,q<p/\(sch ops)[q]? =some j:=by
 rcases (ZH6 _ _ _ hp.sc).2.2 p i hi j hj with h|h
 ·simp at h
 ·exact h
theorem Pl.uniq (hp:Pl ops) {p q i:Nat} (hi:(sch ops)[p]? =some i) (hj:(sch ops)[q]? =some i):p=q:=by
 have h1:=Am.Zaq hi
 have h2:=Am.Zaq hj
 rw [List.getElem?_eq_getElem h1,Option.some.injEq] at hi
 rw [List.getElem?_eq_getElem h2,Option.some.injEq] at hj
 exact (List.getElem_inj hp.nodup).1 (hi.trans hj.symm)
theorem ZgW {d:Option Tmp} {v:Option V} {e1:Env} (hp:putE nt e d v=some e1):(∀t:Nat,d=some t->t<nt/\e1.get t=some (v.getD (.tup [])))/\ ∀t:Nat,d≠some t->e1.get t=e.get t:=by
 cases d with
 | none=>
   simp only [putE,Option.some.injEq] at hp;subst hp
   exact ⟨fun t h=>(by cases h),fun t _=>rfl⟩
 | some t=>
   obtain ⟨t,rfl⟩: ∃t₀:Nat,t₀=t:=⟨t,rfl⟩
   simp only [putE] at hp
   split at hp
   · rename_i ht
     simp only [Option.some.injEq] at hp;subst hp
     refine ⟨fun u h=>?_,fun u h=>?_⟩
     · cases h;exact ⟨ht,T.get_set_same _ _ _⟩
     · exact T.get_set_ne _ _ (fun hh=>h (by rw [hh]))
   · cases hp
theorem ZHJ {o:Oper} {x:Env×H} (hx:ZJX P F nt ops o e h=some x): ∃b ov,goes ops o e=some b/\(b=true->opV P F e h o.op=some (ov,x.2))/\(b=false->ov=none/\x.2=h)/\putE nt e o.dst ov=some x.1:=by
 unfold ZJX at hx
 split at hx
 ·rename_i hg
  split at hx
  ·rename_i v h1 ho
   simp only [Option.map_eq_some_iff] at hx
   obtain ⟨e1,hp,rfl⟩:=hx
   exact ⟨true,v,hg,fun _=>ho,(fun h=>by cases h),hp⟩
  ·cases hx
 ·rename_i hg
  simp only [Option.map_eq_some_iff] at hx
  obtain ⟨e1,hp,rfl⟩:=hx
  exact ⟨false,none,hg,(fun h=>by cases h),fun _=>⟨rfl,rfl⟩,hp⟩
 ·cases hx
structure Tr (P:Program) (F:ZaQ) (nt:Nat) (ops:Array Oper) (l:List Nat) (s:List Snap) (st:Nat->Env×H):Prop where
 at_: ∀p i,l[p]? =some i->s[p]? =some (i,(st p).1,(st p).2)/\ ∃o,ops[i]? =some o/\ZJX P F nt ops o (st p).1 (st p).2=some (st (p+1))
 len:s.length=l.length
theorem ZNY: ∀(l:List Nat) {e:Env} {h:H} {s:List Snap} {e':Env} {h':H},runS ops P F nt l e h=some (s,e',h')-> ∃st,st 0=(e,h)/\st l.length=(e',h')/\Tr P F nt ops l s st
 | [],e,h,s,e',h',hx=>by
   simp only [runS,Option.some.injEq,Prod.mk.injEq] at hx
   obtain ⟨rfl,rfl,rfl⟩:=hx
   exact ⟨fun _=>(e,h),rfl,rfl,fun p i hi=>by simp at hi,rfl⟩
 | i::r,e,h,s,e',h',hx=>by
   simp only [runS] at hx
   split at hx
   · rename_i o ho
     split at hx
     · rename_i e1 h1 hst
       split at hx
       · rename_i s1 e2 h2 hr
         simp only [Option.some.injEq,Prod.mk.injEq] at hx
         obtain ⟨rfl,rfl,rfl⟩:=hx
         obtain ⟨st,t1,t2,t3⟩:=ZNY r hr
         refine ⟨fun p=>match p with|0=>(e,h)|p+1=>st p,rfl,t2,fun p k hk=>?_,by simp [t3.len]⟩
         cases p with
         | zero=>
           simp only [List.getElem?_cons_zero,Option.some.injEq] at hk
           subst hk
           exact ⟨rfl,o,ho,(show ZJX P F nt ops o e h=some (st 0) by rw [t1];exact hst)⟩
         | succ p=>exact t3.at_ p k (by simpa using hk)
       · cases hx
     · cases hx
   · cases hx
section
variable {l:List Nat} {s:List Snap} {st:Nat->Env×H} (ht:Tr P F nt ops l s st)
include ht
theorem Tr.keep {t a b:Nat} (hab:a<=b) (hb:b<=l.length) (hn: ∀r i,a<=r->r<b->l[r]? =some i->ZHc ops i≠some t):(st b).1.get t=(st a).1.get t:=by
 induction b with
 | zero=>
   obtain rfl:a=0:=by omega
   rfl
 | succ b ih=>
   rcases Nat.lt_or_ge a (b+1) with hlt|hge
   · have hi:l[b]? =some (l[b]'(by omega)):=List.getElem?_eq_getElem _
     obtain ⟨_,o,ho,hst⟩:=ht.at_ b _ hi
     obtain ⟨_,ov,_,_,_,hp⟩:=ZHJ hst
     have hd:o.dst≠some t:=fun hh=>hn b _ Zo (Nat.lt_succ_self _) hi (by unfold ZHc;rw [ho];exact hh)
     rw [(ZgW hp).2 t hd]
     exact ih Zo Zo fun r i h1 h2=>hn r i h1 Zo
   · obtain rfl:a=b+1:=by omega
     rfl
theorem Tr.mono (hF:ZHn F) {a b:Nat} (hab:a<=b) (hb:b<=l.length):(st a).2.next<=(st b).2.next:=by
 induction b with
 | zero=>
   obtain rfl:a=0:=by omega
   exact Nat.le_refl _
 | succ b ih=>
   rcases Nat.lt_or_ge a (b+1) with hlt|hge
   · have hi:l[b]? =some (l[b]'(by omega)):=List.getElem?_eq_getElem _
     obtain ⟨_,o,ho,hst⟩:=ht.at_ b _ hi
     obtain ⟨bb,ov,_,h1,h2,_⟩:=ZHJ hst
     refine Nat.le_trans (ih Zo Zo) ?_
     cases bb with
     | true=>exact ZKR hF (h1 rfl)
     | false=>rw [(h2 rfl).2];exact Nat.le_refl _
   · obtain rfl:a=b+1:=by omega
     exact Nat.le_refl _
theorem Tr.heap {h':H} (hh':(st l.length).2=h'): ∀(n p:Nat),p+n=l.length-> ∃q,p<=q/\q<=l.length/\(ZG9 ops (s.drop p) h')[0]? =some (st q).2/\(∀r i,p<=r->r<q->l[r]? =some i->isE ops i=false)/\(q<l.length-> ∃i,l[q]? =some i/\isE ops i=true):=by
 intro n
 induction n with
 | zero=>
   intro p hp
   have:s.drop p=[]:=by rw [List.drop_of_length_le];rw [ht.len];omega
   rw [this]
   exact ⟨p,Nat.le_refl _,by omega,by simp [ZG9,<-hh',show p=l.length by omega],fun r i h1 h2=>by omega,fun h=>by omega⟩
 | succ n ih=>
   intro p hp
   have hi:l[p]? =some (l[p]'(by omega)):=List.getElem?_eq_getElem _
   obtain ⟨hs,_⟩:=ht.at_ p _ hi
   have hd:s.drop p=(l[p]'(by omega),(st p).1,(st p).2)::s.drop (p+1):=by
     have hlt:=Am.Zaq hs
     rw [List.drop_eq_getElem_cons hlt]
     rw [List.getElem?_eq_getElem hlt,Option.some.injEq] at hs
     rw [hs]
   rw [hd]
   simp only [ZG9]
   by_cases hE:isE ops (l[p]'(by omega))=true
   · rw [if_pos hE]
     exact ⟨p,Nat.le_refl _,by omega,rfl,fun r i h1 h2=>by omega,fun _=>⟨_,hi,hE⟩⟩
   · rw [if_neg hE]
     obtain ⟨q,q1,q2,q3,q4,q5⟩:=ih (p+1) Zo
     refine ⟨q,by omega,q2,q3,fun r i h1 h2 hr=>?_,q5⟩
     by_cases hrp:r=p
     · subst hrp
       rw [hi,Option.some.injEq] at hr
       rw [<-hr];simpa using hE
     · exact q4 r i Zo h2 hr
def cntE (ops:Array Oper) (l:List Nat) (p:Nat):Nat:=((l.take p).filter (isE ops)).length
theorem Tr.heaps {h':H}: ∀(p:Nat),p<=l.length-> ∀k,(ZG9 ops s h')[cntE ops l p+k]? =(ZG9 ops (s.drop p) h')[k]? :=by
 intro p
 induction p with
 | zero=>intro _ k;simp [cntE]
 | succ p ih=>
   intro hp k
   have hi:l[p]? =some (l[p]'(by omega)):=List.getElem?_eq_getElem _
   obtain ⟨hs,_⟩:=ht.at_ p _ hi
   have hd:s.drop p=(l[p]'(by omega),(st p).1,(st p).2)::s.drop (p+1):=by
     have hlt:=Am.Zaq hs
     rw [List.drop_eq_getElem_cons hlt]
     rw [List.getElem?_eq_getElem hlt,Option.some.injEq] at hs
     rw [hs]
   have hc:cntE ops l (p+1)=cntE ops l p+if isE ops (l[p]'(by omega))=true then 1 else 0:=by
     unfold cntE
     rw [List.take_succ_eq_append_getElem Zo,List.filter_append,List.length_append]
     congr 1
     split<;>simp_all
   have:=ih Zo
   by_cases hE:isE ops (l[p]'(by omega))=true
   · rw [if_pos hE] at hc
     have h1:=this (k+1)
     rw [hd] at h1
     simp only [ZG9,hE,if_true,List.getElem?_cons_succ] at h1
     rw [hc,<-h1]
     congr 1
     omega
   · rw [if_neg hE] at hc
     have h1:=this k
     rw [hd] at h1
     simp only [ZG9,hE,Bool.false_eq_true,if_false] at h1
     rw [hc,<-h1]
     rfl
end
theorem ZJH {α:Type} {p q:α->Bool}: ∀{l:List α},(∀x∈l,p x=true->q x=true)->(l.filter p).length<=(l.filter q).length
 | [],_=>Nat.le_refl _
 | x::l,h=>by
   have ih:=ZJH (p:=p) (q:=q) (l:=l) fun y hy=>h y (by simp [hy])
   simp only [List.filter_cons]
   by_cases hp:p x=true
   · rw [if_pos hp,if_pos (h x Zs hp)];simpa using ih
   · rw [if_neg hp]
     split
     · simp;omega
     · exact ih
theorem ZHB {α:Type} {q:α->Bool}: ∀{l:List α} {c:Nat},c<=l.length->(∀k x,l[k]? =some x->(q x=true↔k<c))->(l.filter q).length=c
 | [],c,hc,_=>by simp at hc;simp [hc]
 | x::l,c,hc,h=>by
   simp only [List.filter_cons]
   cases c with
   | zero=>
     have h0:q x≠true:=fun hh=>by have:=(h 0 x rfl).1 hh;omega
     rw [if_neg h0]
     exact ZHB (Nat.zero_le _) fun k y hy=>⟨fun hh=>by have:=(h (k+1) y (by simpa using hy)).1 hh;omega,fun hh=>by omega⟩
   | succ c=>
     rw [if_pos ((h 0 x rfl).2 Zo)]
     simp only [List.length_cons,Nat.add_right_cancel_iff]
     exact ZHB (by simpa using hc) fun k y hy=>(h (k+1) y (by simpa using hy)).trans Zo
end Go.Cm
end
