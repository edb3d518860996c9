/- Part. -/
import Derived.Test.YtnnimjficnjbdaaGreatDoorObf
import Derived.Test.YtnnimjficnjbdaaGreatDoorOba
set_option maxRecDepth 999999
set_option maxHeartbeats 0
set_option linter.all false
section
namespace Go.Cm
open Go.Proofs
set_option maxRecDepth 1000000
attribute [local instance] wi0
variable {g:G} {h:H} {w w':World}
theorem ZQC (hh:HR g h w) (h1:w'.os=w.os) (h2:w'.tape=w.tape) (h3:w'.output=w.output) (h4:w.heap.size<=w'.heap.size) (h5: ∀k,k<w.heap.size->w'.heap[k]? =w.heap[k]?):HR g h w'/\Grew g w g w':=
 ⟨hh.frame h4 (fun b hb=>h5 b ((Nat.lt_or_ge b w.heap.size).resolve_right fun h=>hb (hh.dt.fr b h))) fun b hb=>h5 _ (hh.blk b hb).2,h1,h2,h3,h4,fun k hk _=>h5 k hk,fun b hb=> .inl ⟨b,hb,rfl⟩,fun _ _=>rfl⟩
theorem ZK4 (w:World) (a:Addr) (u:Value) (k:Nat) (h:k≠a.block):(w.setCell a u).heap[k]? =w.heap[k]? :=by
 unfold World.setCell
 rw [Array.getElem?_modify,if_neg fun e=>h e.symm]
theorem ZKS (w:World) (o:Obj): ∀k,k<w.heap.size->(w.alloc o).heap[k]? =w.heap[k]? :=fun k hk=>by
 show (w.heap.push _)[k]? =_
 rw [Array.getElem?_push,if_neg Zo]
def ZRf:ZHI:=fun f args h=>match Nat.beq f 31,args with
 | true,[.int .i64 e,.agg [_,_,_,_,_,_,_,_,_,.int .i64 z]]=>some ((147,.agg [.int .i64 e,.int .i64 z]),h)
 | _,_=>none
theorem ZOF:ZIa Tryz.prog ZRf:=fun f args h p h' hx=>by
 unfold ZRf at hx
 split at hx
 ·rename_i e x0 x1 x2 x3 x4 x5 x6 x7 x8 z hb
  have:=Nat.eq_of_beq_eq_true hb
  subst this
  simp only [Option.some.injEq,Prod.mk.injEq] at hx
  obtain ⟨rfl,rfl⟩:=hx
  refine ⟨by kernel_rfl,fun g w vs hh hr=>?_⟩
  simp only [Rels,Rel] at hr
  obtain ⟨_,_,rfl,rfl,_,_,rfl,⟨_,rfl,⟨y0,_,rfl,r0,y1,_,rfl,r1,y2,_,rfl,r2,y3,_,rfl,r3,y4,_,rfl,r4,y5,_,rfl,r5,y6,_,rfl,r6,y7,_,rfl,r7,y8,_,rfl,r8,_,_,rfl,rfl,rfl⟩⟩,rfl⟩:=hr
  refine (Tryz.fail_w e z y0 y1 y2 y3 y4 y5 y6 y7 y8 w).mono ?_
  rintro r w' ⟨rfl,rfl⟩
  obtain ⟨q1,q2⟩:=ZQC (w':=w.alloc (.cells #[y0,y1,y2,y3,y4,y5,y6,y7,y8,.int .i64 z] 27)) hh rfl rfl rfl (by show _<=(w.heap.push _).size;simp) (ZKS w _)
  refine ⟨_,g,rfl,?_,q1,Le.refl g,q2⟩
  simp only [Rel,Rels]
  exact ⟨[.int .i64 e,.int .i64 z],rfl,_,_,rfl,rfl,_,_,rfl,rfl,rfl⟩
 ·cases hx
def ZO4 (args:List V) (h:H):Option (V×H):=match args with
 | [.nilm]=>some (.nilm,h)
 | [.map b]=>match h.obs.get b with
   | some (.map es c)=>some (.map h.next,h.new (.map es c))
   | _=>none
 | _=>none
theorem ZNw (args:List V) (h:H) (v:V) (h':H) (hx:ZO4 args h=some (v,h')):ZHF Tryz.prog 126 args h v h'/\h.next<=h'.next:=by
 unfold ZO4 at hx
 split at hx
 ·simp only [Option.some.injEq,Prod.mk.injEq] at hx
  obtain ⟨rfl,rfl⟩:=hx
  refine ⟨.inl ⟨by kernel_rfl,fun g w vs hh hr=>?_⟩,Nat.le_refl _⟩
  simp only [Rels,Rel] at hr
  obtain ⟨_,_,rfl,rfl,rfl⟩:=hr
  refine (Tryz.clone_nil_w w).mono ?_
  rintro r w' ⟨rfl,rfl⟩
  exact ⟨_,g,rfl,rfl,hh,Le.refl g,Grew.refl _ _⟩
 ·rename_i b
  split at hx
  ·rename_i es c hob
   simp only [Option.some.injEq,Prod.mk.injEq] at hx
   obtain ⟨rfl,rfl⟩:=hx
   refine ⟨.inl ⟨by kernel_rfl,fun g w vs hh hr=>?_⟩,Nat.le_succ _⟩
   simp only [Rels,Rel] at hr
   obtain ⟨_,_,rfl,⟨hb,rfl⟩,rfl⟩:=hr
   have hO:=hh.ob _ _ hb hob
   unfold ObOK at hO
   obtain ⟨ms,k1,k2,k3⟩:=hO
   refine (Tryz.clone_w _ ms c w k1).mono ?_
   rintro r w' ⟨rfl,rfl⟩
   refine ⟨_,g.grow h.next w.heap.size 0,rfl,?_,hh.push (.map es c) (.map ms c) 0 (by
    unfold ObOK
    rw [ZHa]
    exact ⟨ms,by show (w.heap.push _)[_]? =_;simp,RelEs.mono (ZHf g hh.fresh _ _) k2,rfl⟩) (fun _ _ _ _ h=>by cases h) none (fun _ _ h=>by cases h),hh.le_grow _ _,ZHx hh.fresh _ 0⟩
   simp only [Rel]
   exact ⟨ZNP g _ _ _,by rw [ZHa]⟩
  ·cases hx
 ·cases hx
noncomputable def ZO1 (tab:Nat->Option Fn) (n:Nat) (hints:List (Nat×Nat)) (args:List V) (h:H):Option (V×H):=match args with
 | [.fn f first caps]=>match ZQe Tryz.prog tab n ZRf hints f (first++caps) h with
   | some ((147,.agg [.int .i64 a,.int .i64 b]),h')=>if Nat.ble h.next h'.next then some (.agg [.int .i64 a,.int .i64 b],h') else none
   | _=>none
 | _=>none
theorem ZNK {tab:Nat->Option Fn} (hT:ZIJ Tryz.prog tab) (n:Nat) (hints:List (Nat×Nat)) (args:List V) (h:H) (v:V) (h':H) (hx:ZO1 tab n hints args h=some (v,h')):ZHF Tryz.prog 27 args h v h'/\h.next<=h'.next:=by
 unfold ZO1 at hx
 split at hx
 ·rename_i f first caps
  split at hx
  ·rename_i a b h1 hp
   split at hx
   ·rename_i hn
    simp only [Option.some.injEq,Prod.mk.injEq] at hx
    obtain ⟨rfl,rfl⟩:=hx
    obtain ⟨hent,hc⟩:=ZJu hT n ZOF hints _ _ _ _ _ hp
    refine ⟨.inl ⟨by kernel_rfl,fun g w vs hh hr=>?_⟩,Nat.le_of_ble_eq_true hn⟩
    simp only [Rels,Rel] at hr
    obtain ⟨_,_,rfl,⟨fs,cs,rfl,r1,r2⟩,rfl⟩:=hr
    obtain ⟨w0,hw0⟩: ∃w0,w0=w.alloc (.cells #[.int .i64 0,.int .i64 0] 45):=⟨_,rfl⟩
    have hsz:w0.heap.size=w.heap.size+1:=by rw [hw0];exact World.size_alloc ..
    obtain ⟨q1,q2⟩:=ZQC (w':=w0) hh (by rw [hw0];rfl) (by rw [hw0];rfl) (by rw [hw0];rfl) Zo (by rw [hw0];exact ZKS w _)
    have hnew:w0.heap[w.heap.size]? =some (.cells #[.int .i64 0,.int .i64 0] 45 (0,0)):=by rw [hw0];show (w.heap.push _)[_]? =_;simp
    have hcall:=hc g w0 (fs++cs) q1 (r1.append r2)
    refine (Tryz.guarded_w f fs.toArray cs.toArray w (fun a' b' w1=>a'=a/\b'=b/\ ∃g',HR g' h1 w1/\Le g g'/\Grew g w0 g' w1) hent ?_).mono ?_
    ·rw [<-hw0]
     have he:fs.toArray++cs.toArray=(fs++cs).toArray:=by
      apply Array.toList_inj.1
      simp
     rw [he]
     refine hcall.mono ?_
     rintro r w1 ⟨u,g',rfl,z1,z2,z3,z4⟩
     simp only [Rel,Rels] at z1
     obtain ⟨_,rfl,_,_,rfl,rfl,_,_,rfl,rfl,rfl⟩:=z1
     refine ⟨a,b,rfl,?_,rfl,rfl,g',z2,z3,z4⟩
     rw [z4.old _ Zo fun b' hb' he=>by have:=(hh.blk b' hb').2;omega]
     exact hnew
    ·rintro r W2 ⟨a',b',w1,rfl,hc1,⟨ha,hb,g',z2,z3,z4⟩,hW2⟩
     rw [ha,hb] at hW2
     rw [ha,hb]
     have hsz1:=z4.size
     have hs2:W2.heap.size=w1.heap.size+1:=by rw [hW2,World.size_alloc];simp [World.setCell]
     have hk2: ∀k,k<w1.heap.size->k≠w.heap.size->W2.heap[k]? =w1.heap[k]? :=fun k hk hne=>by
      rw [hW2,ZKS _ _ k (by simp [World.setCell];exact hk),ZK4 _ _ _ _ hne,ZK4 _ _ _ _ hne]
     have hne: ∀b',g'.ex b'->(g'.β b').1≠w.heap.size:=fun b' hb' he=>by
      rcases z4.img b' hb' with ⟨b1,m1,m2⟩|m1
      ·have:=(hh.blk b1 m1).2;omega
      ·omega
     have hp0:g'.pr0 w.heap.size=0:=(z4.pr _ Zo).trans (hh.dt.fr _ (Nat.le_refl _))
     have hf:HR g' h1 W2:=z2.frame Zo (fun b' hb'=>hk2 b' ((Nat.lt_or_ge b' w1.heap.size).resolve_right fun h=>hb' (z2.dt.fr b' h)) fun he=>hb' (by rw [he];exact hp0)) fun b' hb'=>hk2 _ (z2.blk b' hb').2 (hne b' hb')
     refine ⟨_,g',rfl,?_,hf,z3,(q2.trans z4).outside (by rw [hW2];rfl) (by rw [hW2];rfl) (by rw [hW2];rfl) Zo fun k hk=>hk2 k Zo Zo⟩
     simp only [Rel,Rels]
     exact ⟨[.int .i64 a,.int .i64 b],rfl,_,_,rfl,rfl,_,_,rfl,rfl,rfl⟩
   ·cases hx
  ·cases hx
 ·cases hx
end Go.Cm
end
section
namespace Go.Proofs
open Go.RowKit
set_option maxHeartbeats 4000000
set_option maxRecDepth 1000000
def hasI (s:ByteArray):List ByteArray->Nat->Int
 | [],_=> -1
 | t::l,i=>if (t.toList==s.toList)=true then (i:Int) else hasI s l (i+1)
theorem Tryz.has_w (b o len cap:Nat) (ts:List ByteArray) (s:ByteArray) (w:World) (hl:ts.length=len) (h63:len<=9223372036854775807) (hc: ∀i t,ts[i]? =some t->w.cell? ⟨b,o+i,none⟩=some (.string t)):
  Calls Tryz.prog 41 #[.slice (some ⟨b,o,none⟩) len cap,.string s] w fun r w'=>r= .returned (.int .i64 (hasI s ts 0))/\w'=w:=by
 have mixed:Tryz.prog.follows .mixedOrders=true:=by kernel_rfl
 go_enter Tryz.func41,Tryz.ntmps41
 go_wp2
 go_loopw [5] (fun i wr=> ∃(k:Nat),k<=len/\i= .int .i64 k/\wr=w/\hasI s ts 0=hasI s (ts.drop k) k) (fun i _=>len-(intOf i).toNat)
 case atStart=>exact ⟨0,by omega,rfl,rfl,by simp⟩
 case round=>
  obtain ⟨k,hk,rfl,rfl,hI⟩:=hrel
  by_cases hp:k<len
  ·have hg:ts[k]? =some ts[k]:=List.getElem?_eq_getElem _
   have hcell:=hc k _ hg
   have hd:ts.drop k=ts[k]::ts.drop (k+1):=List.drop_eq_getElem_cons _
   rw [hd] at hI
   go_wp2
   ·rename_i he
    have h1:hasI s ts 0=(k:Int):=by rw [hI];exact if_pos he
    go_ret
    rw [h1]
    exact ⟨rfl,rfl⟩
   ·rename_i he
    have h1:hasI s ts 0=hasI s (ts.drop (k+1)) (k+1):=by
     rw [hI]
     exact if_neg (by rw [he];decide)
    refine ⟨⟨k+1,hp,rfl,trivial,h1⟩,?_⟩
    simp [intOf];omega
  ·have h1:hasI s ts 0= -1:=by rw [hI,List.drop_of_length_le Zo];rfl
   go_wp2
   go_ret
   rw [h1]
   exact ⟨rfl,rfl⟩
end Go.Proofs
end
section
namespace Go.Cm
open Go.Proofs
open Go.Am (ZbJ eqS ZoX)
set_option maxRecDepth 1000000
attribute [local instance] wi0
variable {g:G} {h:H} {w w':World}
def ZPr:List V->Option (List (List Nat))
 | []=>some []
 | .str s::l=>(ZPr l).map (s:: ·)
 | _::_=>none
def idxN (s:List Nat):List (List Nat)->Nat->Int
 | [],_=> -1
 | t::l,i=>cond (eqS t s) (Int.ofNat i) (idxN s l (i+1))
theorem ZKP: ∀{xs:List V} {us:List Value} {l:List (List Nat)},ZPr xs=some l->Rels g xs us-> ∃ts:List ByteArray,us=ts.map .string/\l=ts.map ZbJ
 | [],us,l,hx,hr=>by
   cases hx
   simp only [Rels] at hr
   exact ⟨[],hr,rfl⟩
 | x::xs,us,l,hx,hr=>by
   unfold ZPr at hx
   split at hx
   · rename_i h;cases h
   · rename_i s l' h
     injection h with h1 h2
     subst h1 h2
     simp only [Option.map_eq_some_iff] at hx
     obtain ⟨l',hl,rfl⟩:=hx
     simp only [Rels,Rel] at hr
     obtain ⟨_,us',rfl,⟨bs,rfl,rfl⟩,h2⟩:=hr
     obtain ⟨ts,rfl,rfl⟩:=ZKP hl h2
     exact ⟨bs::ts,rfl,rfl⟩
   · cases hx
theorem ZOc (s:ByteArray): ∀(ts:List ByteArray) (i:Nat),idxN (ZbJ s) (ts.map ZbJ) i=hasI s ts i
 | [],_=>rfl
 | t::l,i=>by
   show cond (eqS (ZbJ t) (ZbJ s)) _ _=if (t.toList==s.toList)=true then _ else _
   rw [ZoX]
   cases ht:(t.toList==s.toList) with
   | true=>rfl
   | false=>exact ZOc s l (i+1)
def hasP (args:List V) (h:H):Option (V×H):=match args with
 | [.sl b o s len lo ex,.str t]=>if Nat.beq s 1 && Nat.ble len 1000000 then (match h.rd b with
   | some cs=>(match cutC cs o len with
     | some xs=>(ZPr xs).map fun l=>(.int .i64 (idxN t l 0),h)
     | none=>none)
   | none=>none) else none
 | _=>none
theorem ZPl (args:List V) (h:H) (v:V) (h':H) (hx:hasP args h=some (v,h')):ZHF Tryz.prog 41 args h v h'/\h.next<=h'.next:=by
 unfold hasP at hx
 split at hx
 ·rename_i b o s len lo ex t
  split at hx
  ·rename_i hc
   rw [Bool.and_eq_true] at hc
   obtain rfl:=Nat.eq_of_beq_eq_true hc.1
   have hlen:=Nat.le_of_ble_eq_true hc.2
   split at hx
   ·rename_i cs hrd
    split at hx
    ·rename_i xs hcut
     simp only [Option.map_eq_some_iff,Prod.mk.injEq] at hx
     obtain ⟨l,hl,rfl,rfl⟩:=hx
     refine ⟨.inl ⟨by kernel_rfl,fun g w vs hh hr=>?_⟩,Nat.le_refl _⟩
     simp only [Rels] at hr
     obtain ⟨u,_,rfl,hr1,u2,_,rfl,hr2,rfl⟩:=hr
     obtain ⟨bs,rfl,rfl⟩:=ZHk hr2
     obtain ⟨hb,cap,rfl,q1,q2,q3,q4⟩:=ZIZ hr1
     obtain ⟨vs,ty,r1,r2,r3,r4⟩:=hh.read hb hrd
     obtain ⟨us,u1,u2,u3,u4,u5⟩:=r4.cut hcut
     obtain ⟨ts,rfl,rfl⟩:=ZKP hl u2
     rw [List.length_map] at u1
     refine (Tryz.has_w (g.β b).1 ((g.β b).2+o) len cap ts bs w u1 Zo fun i t ht=>?_).mono ?_
     ·have:=ZLr (g:=g) (i:=o) r1 i
      rw [G.at,Go.Am.Addr.add_eq] at this
      rw [this]
      exact u3 i _ (by rw [List.getElem?_map,ht];rfl)
     ·rintro r w' ⟨rfl,rfl⟩
      refine ⟨_,g,rfl,?_,hh,Le.refl g,Grew.refl _ _⟩
      simp only [Rel]
      rw [ZOc]
    ·cases hx
   ·cases hx
  ·cases hx
 ·cases hx
end Go.Cm
end
