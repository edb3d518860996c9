/- Part. -/
import Derived.Test.YtnnimjficnjbdaaGreatDoorOal
set_option maxRecDepth 999999
set_option maxHeartbeats 0
set_option linter.all false
section
namespace Go.Am
variable [WI]
variable {Pg:Program}
section
variable {F:ZaQ} {g:G} {e e':Env} {a:Act} {w:World}
def ZMV (Pg:Program) (f:Nat) (κs:List Nat) (o:Oper) (s:SOp) (nt:Nat):Bool:=
 match o.op,o.dst,s.takes with
 | .call c,some d,[]=>(match c.callee with
   | .value (.func f')=>f==f' && Zeo c.args.toList s.ins && Nat.blt d nt && s.outs==d::κs && decide κs.Nodup && κs.all (Nat.ble BOX) && Nat.ble Pg.funcs.size UPB
   | _=>false)
 | _,_,_=>false
theorem ZNJ {r:R}:R.down (some 0) [] r=none:=by
 unfold R.down
 cases r.own<;>simp
theorem ZL0 {κs:List Nat} {rs:List A} {os':List (List C)} {ds:List D} (h:ZLH κs rs os'=some ds): ∃bs κs' rs' ds',os'=[]::bs/\(κs'=κs∨κs'=[])/\ZlP (R.up (some 0) κs') rs=some rs'/\ds=resD rs'::ds'/\ds'.length=κs.length/\
  (κs'=κs->κs=[]∨bs.length=κs.length)/\(∀(i:Nat) x,ds'[i]? =some x->(bs=[]/\x= .undef)∨ ∃q cs,bs[i]? =some q/\Zl9 (R.up (some 0) κs) q=some cs/\x= .a (.agg cs))/\(bs≠[]->bs.length=κs.length):=by
 unfold ZLH at h
 split at h
 ·split at h
  ·rename_i rs' hrs'
   cases h
   refine ⟨[],[],rs',_,rfl,.inr rfl,hrs',rfl,by simp,fun hh=> .inl hh.symm,fun i x hx=>?_,fun hh=>absurd rfl hh⟩
   rw [List.getElem?_map,Option.map_eq_some_iff] at hx
   obtain ⟨_,_,rfl⟩:=hx
   exact .inl ⟨rfl,rfl⟩
  ·cases h
 ·rename_i bs hne
  obtain ⟨hl,rs',os₂,h1,h2,rfl⟩:=ZjY h
  obtain ⟨l2,gt2⟩:=Zkr h2
  refine ⟨bs,κs,rs',_,rfl,.inl rfl,h1,rfl,by simp;omega,fun _=> .inr hl,fun i x hx=>?_,fun _=>hl⟩
  simp only [Bool.false_eq_true,if_false,List.nil_append,List.drop_zero,List.getElem?_map,Option.map_eq_some_iff] at hx
  obtain ⟨cs,hcs,rfl⟩:=hx
  obtain ⟨q,q1,q2⟩:=gt2 i cs hcs
  exact .inr ⟨q,cs,q1,q2,rfl⟩
 ·cases h
open Classical in
theorem ZMm (hF:Zcv Pg F) (hsz:Pg.funcs.size<=UPB) (h:St g e a w) {f:Nat} {κs:List Nat} {d:Nat} (hlt:d<g.nt) (hnd:κs.Nodup) (hκs: ∀κ∈κs,BOX<=κ) (hno: ∀κ∈κs,ZlQ e κ)
   {args:List A} {vs:List Value} (hlen:vs.length=args.length)
   (hargs: ∀(j:Nat) u x,vs[j]? =some u->args[j]? =some x->(∃k,RepA g w k 0 u x/\(∀c∈x.cells,c.held=false))∨ ∃c,x= .one c/\ ∀g' w' ℓ,RepC g' w' ℓ u c)
   {ds:List D} (hc:ZKU F f κs args=some ds) (hs:e.sets (d::κs) ds=some e'):
   Zhz Pg f=true/\Calls Pg f vs.toArray w fun r w'=> ∃v g',r= .returned v/\St g' e' (a.put (some d) v) w'/\Ext g.T g.pr g.ow w w' g'.pr g'.ow/\g'.ω=g.ω/\g'.T=g.T/\g'.nt=g.nt:=by
 have hdO:d<OBJS:=Nat.lt_of_lt_of_le hlt h.nt
 have hds:d<a.tmps.size:=Nat.lt_of_lt_of_le hlt h.sz
 have hob:=Zau
 unfold ZKU at hc
 split at hc
 · rename_i xs hxs
   split at hc
   · rename_i rs os' hcall
     obtain ⟨bs,κs',rs',ds',rfl,hκ',hrs',rfl,hdl,hκl,hget',hbl⟩:=ZL0 hc
     have hup0: ∃f0 bs0,UPB+f=UPB+f0/\[]::bs=[]::bs0/\ZKX Pg f0 xs rs bs0:=by
       rcases hF (UPB+f) xs [] rs ([]::bs) hcall with hold|⟨_,hup⟩
       · have hent:=hold.1
         unfold Zhz at hent
         rw [Array.getElem?_eq_none Zo] at hent
         cases hent
       · exact hup
     obtain ⟨f0,bs0,hf0,hb0,hent,hspec⟩:=hup0
     obtain rfl:f=f0:=by omega
     injection hb0 with _ hb0
     subst hb0
     refine ⟨hent,?_⟩
     let gc:G:={nt:=0,T:=fun b=>w.heap.size<=b,pr:=g.pr,ow:=fun _=>none,β:=fun _=>0,ω:=fun _=>0}
     have hdown: ∀r r',R.down (some 0) [] r=some r'->r'.val gc=r.val g:=fun r r' hr=>by rw [ZNJ] at hr;cases hr
     have hparams:ZdP gc w vs xs:=by
       obtain ⟨al,ag⟩:=Zip hxs
       rw [List.length_map] at al
       refine ⟨hlen.trans al,fun j u x hu hx=>?_⟩
       obtain ⟨y',hy1',hy2⟩:=ag j x hx
       rw [List.getElem?_map] at hy1'
       obtain ⟨y,hy1,rfl⟩: ∃y,args[j]? =some y/\y.lone=y':=by
         cases hq:args[j]? with
         | none=>rw [hq] at hy1';cases hy1'
         | some y=>rw [hq] at hy1';cases hy1';exact ⟨y,rfl,rfl⟩
       rcases hargs j u y hu hy1 with ⟨k,hk1,hk2⟩|⟨c,rfl,hk⟩
       · exact hk1.lone.mapped hy2 rfl (.inl (Zl8 hk2)) (.inl Zs4) hdown
       · have h1:=hk g w (0,0,0)
         have h2:=hk gc w (j,0,0)
         have h3: ∀c',c.lone.mapR (R.down (some 0) [])=some c'->RepC gc w (j,0,0) u c':=fun c' hm=>by
           cases c with
           | tip s r=>cases hm;exact h2
           | uniq s r=>cases hm;exact h2.lone
           | bytes s r=>cases hm;exact h2.lone
           | _=>exact RepC.map (ℓ:=(0,0,0)) h1.lone hm rfl (.inl rfl) (.inl (ZnC _)) hdown
         simp only [A.lone,A.mapR] at hy2
         cases hm:c.lone.mapR (R.down (some 0) []) with
         | none=>rw [hm] at hy2;cases hy2
         | some c'=>rw [hm] at hy2;cases hy2;exact h3 c' hm
     have hcl1: ∀x∈xs,x.clean=true:=fun x hx=>by
       obtain ⟨i,hi,rfl⟩:=List.getElem_of_mem hx
       obtain ⟨y,_,hy⟩:=(Zip hxs).2 i _ (List.getElem?_eq_getElem hi)
       cases y with
       | one c=>
         simp only [A.mapR] at hy
         cases hm:c.mapR (R.down (some 0) []) with
         | none=>rw [hm] at hy;cases hy
         | some q=>rw [hm] at hy;simp only [Option.map_some,Option.some.injEq] at hy;rw [<-hy];simp [A.clean,A.cells,ZlH (fun _ _=>Zqb) hm]
       | agg cs=>
         simp only [A.mapR] at hy
         cases hm:Zl9 (R.down (some 0) []) cs with
         | none=>rw [hm] at hy;cases hy
         | some q=>
           rw [hm] at hy;simp only [Option.map_some,Option.some.injEq] at hy
           rw [<-hy]
           simp only [A.clean,A.cells,List.all_eq_true]
           intro c hc'
           obtain ⟨j,hj,rfl⟩:=List.getElem_of_mem hc'
           obtain ⟨_,_,hz⟩:=(Zhe hm).2 j _ (List.getElem?_eq_getElem hj)
           exact ZlH (fun _ _=>Zqb) hz
     have hfresh:ZnQ gc.pr gc.ow w:=fun b hb=>⟨(h.fr b hb).1,rfl⟩
     refine (hspec gc w vs hparams hcl1 hfresh h.wi rfl).mono ?_
     rintro r w' ⟨v,g1,rfl,hext,hT1,hfr1,hres,hbx1,hinj⟩
     let χ:Loc->Option Loc:=fun ℓ=>if ℓ.1=RESK then some (d,ℓ.2.1,ℓ.2.2) else if ℓ.1=OBJS then (κs[ℓ.2.1]?).map (fun κ=>(κ,0,ℓ.2.2)) else none
     let g2:G:={nt:=g.nt,T:=g.T,pr:=g1.pr,ow:=fun b=>if b<w.heap.size then g.ow b else (g1.ow b).bind χ,β:=fun κ=>match κs.idxOf? κ with|some i=>if i<bs.length then g1.ω i else g.β κ|none=>g.β κ,ω:=g.ω}
     have hnT: ∀b,b<w.heap.size-> ¬gc.T b:=fun b hb hh=>by change w.heap.size<=b at hh;omega
     have hpr: ∀b,b<w.heap.size->g1.pr b=g.pr b:=fun b hb=>(hext.keep b hb rfl (hnT b hb)).1
     have how1: ∀b,b<w.heap.size->g1.ow b=none:=fun b hb=>(hext.keep b hb rfl (hnT b hb)).2
     have hheap: ∀b,b<w.heap.size->w'.heap[b]? =w.heap[b]? :=fun b hb=>hext.hid b hb rfl (hnT b hb)
     have how2: ∀b,b<w.heap.size->g2.ow b=g.ow b:=fun b hb=>by simp only [g2];rw [if_pos hb]
     have hext2:Ext g.T g.pr g.ow w w' g2.pr g2.ow:=
       ⟨hext.os,hext.tape,hext.output,hext.size,hext.blk,hext.prle,fun b hb ho _=>⟨hpr b hb,(how2 b hb).trans ho⟩,fun b hb _ _=>hheap b hb⟩
     have hfr2:ZnQ g2.pr g2.ow w':=fun b hb=>by
       obtain ⟨f1,f2⟩:=hfr1 b hb
       refine ⟨f1,?_⟩
       have:=hext.size
       simp only [g2];rw [if_neg Zo,f2];rfl
     have hT2: ∀b,g1.T b->g1.ow b≠none->g2.ow b≠none->g2.T b:=fun b hTb _ _=>by rw [hT1] at hTb;exact h.tf b hTb
     have hχ: ∀ℓ ℓ',χ ℓ=some ℓ'->Ze3 g1 g2 w' w' ℓ ℓ':=fun ℓ ℓ' hh b hb=>by
       refine ⟨?_,rfl,rfl⟩
       have: ¬b<w.heap.size:=fun hq=>by rw [how1 b hq] at hb;cases hb
       simp only [g2];rw [if_neg this,hb];exact hh
     have hidx: ∀(i:Nat) κ,κs[i]? =some κ->κs.idxOf? κ=some i:=fun i κ hi=>by
       have hil:=Zaq hi
       rw [List.getElem?_eq_getElem hil] at hi
       cases hi
       rw [List.idxOf?_eq_some_iff]
       exact ⟨hil,rfl,fun j hj hh=>absurd ((List.getElem_inj hnd).1 hh) Zo⟩
     have hβ2: ∀(i:Nat) κ,κs[i]? =some κ->i<bs.length->g2.β κ=g1.ω i:=fun i κ hi hb=>by simp only [g2,hidx i κ hi];rw [if_pos hb]
     have hβn: ∀κ,κ∉κs->g2.β κ=g.β κ:=fun κ hκ=>by simp only [g2];rw [List.idxOf?_eq_none_iff.2 hκ]
     have hupv: ∀κs₀,(κs₀=κs∨κs₀=[])->(κs₀=κs->κs=[]∨bs.length=κs.length)-> ∀r r',R.up (some 0) κs₀ r=some r'->r'.val g2=r.val g1:=fun κs₀ h0 h1 r r' hr=>by
       obtain ⟨k1,k2⟩:=ZxT hr
       rcases k2 with ⟨k2,_⟩|⟨κ,_,k3,rfl⟩
       · omega
       · rw [Nat.sub_zero] at k3
         rcases h0 with h0|h0
         · rw [h0] at k3
           have hl:=Zaq k3
           have hb:r.k<bs.length:=by
             rcases h1 h0 with h1|h1
             · rw [h1] at hl;simp at hl
             · omega
           simp only [R.val,k1,if_true,Bool.false_eq_true,if_false,hβ2 _ _ k3 hb]
         · rw [h0] at k3;simp at k3
     obtain ⟨sl,sn,sg⟩:=Ztf hs (List.nodup_cons.2 ⟨fun hm=>by have:=hκs d hm;omega,hnd⟩)
     have hgd:e'.get d=resD rs':=sg 0 d _ rfl rfl
     have hgκ: ∀(i:Nat) κ,κs[i]? =some κ->(bs=[]/\e'.get κ= .undef)∨ ∃q cs,bs[i]? =some q/\Zl9 (R.up (some 0) κs) q=some cs/\e'.get κ= .a (.agg cs):=fun i κ hi=>by
       have hil:=Zaq hi
       have hx:ds'[i]? =some (ds'[i]'(by omega)):=List.getElem?_eq_getElem _
       have hg:=sg (i+1) κ (ds'[i]'(by omega)) (by simpa using hi) (by rw [List.getElem?_cons_succ];exact hx)
       rw [hg]
       exact hget' i _ hx
     refine ⟨v,g2,rfl,?_,hext2,rfl,rfl,rfl⟩
     refine h.gen (d::κs) (fun b=>b<w.heap.size) hext2 hfr2 rfl rfl rfl (by rw [Zb6];exact h.df) Zd6 (fun k hk=>sn k hk) (fun k hk _=>?_) (fun k hk c i b hb=>?_) (fun κ=>?_) (fun b hb=>⟨hheap b hb,hpr b hb,how2 b hb⟩)
       (fun κ _ hκ hl=>(Zb7 h hκ hl).1) (fun _ os i ho hi=>(Ze2 h ho hi).1) (fun k hk=>?_) (fun κ hm hκ=>?_) (fun hm=>?_) (fun κ hm hκ hl=>?_)
     · rw [List.mem_cons,not_or] at hk
       exact Zbb hk.1
     · have hbl:b<w.heap.size:=by
         rcases Nat.lt_or_ge b w.heap.size with hh|hh
         · exact hh
         · rw [(h.fr b hh).2] at hb;cases hb
       exact ⟨(how2 b hbl).trans hb,hpr b hbl,hheap b hbl⟩
     · by_cases hm:κ∈κs
       · exact .inr ⟨(hno κ hm).1,fun k _=>(hno κ hm).2 k⟩
       · exact .inl (hβn κ hm)
     · rcases List.mem_cons.1 hk with rfl|hk
       · refine .tmp hdO ?_
         rw [hgd,Zbe hds]
         exact Zq5 hres hrs' rfl (fun c i=>hχ _ _ (by simp [χ])) hT2 (hupv κs' hκ' hκl)
       · obtain ⟨i,hi,hik⟩:=List.getElem_of_mem hk
         have hoi:κs[i]? =some k:=by rw [List.getElem?_eq_getElem hi,hik]
         refine .box (hκs k hk) fun cs hcs=>?_
         rcases hgκ i k hoi with ⟨_,hu⟩|⟨q,cs',q1,q2,q3⟩
         · rw [hu] at hcs;cases hcs
         · rw [q3] at hcs
           cases hcs
           have hil:=Zaq q1
           obtain ⟨hb,hge⟩:=hbx1 i q q1
           rw [hβ2 i k hoi hil]
           refine hb.mapped q2 rfl (fun m=>hχ _ _ ?_) ?_ (.inr hT2) (hupv κs (.inl rfl) fun _=> .inr (hbl (fun hh=>by rw [hh] at hil;simp at hil)))
           · have h1:OBJS≠RESK:=by decide
             simp only [χ]
             rw [if_neg h1,if_pos trivial,hoi];rfl
           · obtain ⟨_,_,_,hn⟩:=hb.bk
             simp only [g2];rw [if_neg Zo,hn];rfl
     · rcases List.mem_cons.1 hm with rfl|hm
       · omega
       · obtain ⟨i,hi,hik⟩:=List.getElem_of_mem hm
         rcases hgκ i κ (by rw [List.getElem?_eq_getElem hi,hik]) with ⟨_,hu⟩|⟨_,cs',_,_,q3⟩
         · exact .inl hu
         · exact .inr ⟨_,q3⟩
     · rcases List.mem_cons.1 hm with hh|hm
       · omega
       · have:=hκs OBJS hm;omega
     · rcases List.mem_cons.1 hm with rfl|hm
       · omega
       · obtain ⟨i,hi,hik⟩:=List.getElem_of_mem hm
         have hoi:κs[i]? =some κ:=by rw [List.getElem?_eq_getElem hi,hik]
         rcases hgκ i κ hoi with ⟨_,hu⟩|⟨q,_,q1,_,_⟩
         · exact absurd hu hl
         · have hil:=Zaq q1
           have hge:=(hbx1 i q q1).2
           refine .inr ⟨.inl (by rw [hβ2 i κ hoi hil];exact hge),fun κ'' hm'' hκ'' hl'' hh=>?_⟩
           rcases List.mem_cons.1 hm'' with rfl|hm''
           · omega
           · obtain ⟨j,hj,hjk⟩:=List.getElem_of_mem hm''
             have hoj:κs[j]? =some κ'':=by rw [List.getElem?_eq_getElem hj,hjk]
             rcases hgκ j κ'' hoj with ⟨_,hu⟩|⟨q',_,q1',_,_⟩
             · exact absurd hu hl''
             · have hjl:=Zaq q1'
               rw [hβ2 i κ hoi hil,hβ2 j κ'' hoj hjl] at hh
               have:=hinj j i hjl hil hh
               subst this
               rw [hoi] at hoj
               exact (Option.some.inj hoj).symm
   · cases hc
 · cases hc
theorem ZOS (hF:Zcv Pg F) (h:St g e a w) {o:Oper} {s:SOp} {f:Nat} {κs:List Nat} (hk:s.kind= .callU f κs) (ho:ZMV Pg f κs o s g.nt=true) (hno: ∀κ,κ∈κs->ZlQ e κ) (hd:doOp F s e=some e'):OpWp Pg o a w g e':=by
 unfold ZMV at ho
 split at ho
 · rename_i c d hop hdst htk
   split at ho
   · rename_i f' hcal
     simp only [Bool.and_eq_true,beq_iff_eq,Nat.blt_eq,decide_eq_true_eq,Nat.ble_eq] at ho
     obtain ⟨⟨⟨⟨⟨⟨rfl,o1⟩,o2⟩,o3⟩,o4⟩,o5⟩,o6⟩:=ho
     obtain ⟨ds,hx,hs⟩:=Zqq htk hd
     rw [hk] at hx
     simp only [ZaI] at hx
     unfold ZIk at hx
     split at hx
     · rename_i args hargs
       obtain ⟨al,ag⟩:=ZqB hargs
       rw [List.length_map] at al
       obtain ⟨xl,xg⟩:=Zmi o1
       rw [o3] at hs
       have hcore:=ZMm (vs:=c.args.toList.map a.eval) hF o6 h o2 o4 (fun κ hκ=>Nat.le_of_ble_eq_true (List.all_eq_true.1 o5 κ hκ)) (fun κ hκ=>hno κ hκ) (by rw [List.length_map];omega) (fun j u x hu hxx=>by
         rw [List.getElem?_map,Option.map_eq_some_iff] at hu
         obtain ⟨q,hq,rfl⟩:=hu
         have hd:=ag j x hxx
         rw [List.getElem?_map] at hd
         cases hy:s.ins[j]? with
         | none=>rw [hy] at hd;cases hd
         | some y=>
           rw [hy] at hd
           simp only [Option.map_some,Option.some.injEq] at hd
           rcases Zwa h (args:=s.ins) (xg j q y hq hy) (takes:=[]) (List.all_eq_true.2 fun j _=>by split<;>simp) hy hd with ⟨k,k1,k2⟩|hk
           · refine .inl ⟨k,k1,?_⟩
             rcases k2 with k2|⟨k2,_⟩
             · exact k2
             · simp at k2
           · exact .inr hk) hx hs
       obtain ⟨hent,hcalls⟩:=hcore
       have hrun:=ZjZ (a:=a) (w:=w) hop hcal (f:=f) (first:= #[]) (caps:= #[]) (by rfl) hent
       refine Zts hrun ?_
       rw [hdst]
       have ea:(c.args.toList.map a.eval).toArray=c.args.map a.eval:=by apply Array.ext';simp
       rw [ea] at hcalls
       simpa using hcalls
     · cases hx
   · cases ho
 · cases ho
end
end Go.Am
end
section
namespace Go.Am
variable [WI]
variable {Pg:Program}
section each
variable {F:ZaQ} {g:G} {e e':Env} {a:Act} {w:World}
theorem St.gives (h:St g e a w) {ks:List Nat} {d:Nat} (hd:d<g.nt) (hk: ∀n∈ks,n<OBJS/\n≠d) {v:Value} {dd:D} (φ:Loc->Loc) (hφ: ∀k c i,k∉ks->φ (k,c,i)=(k,c,i))
  (hrd:RepD (g.remap φ) w d v dd):St (g.remap φ) ((ZaA e ks).set d dd) (a.put (some d) v) w:=by
 have hdO:d<OBJS:=Nat.lt_of_lt_of_le hd h.nt
 have hs:d<a.tmps.size:=Nat.lt_of_lt_of_le hd h.sz
 have hnb: ∀κ,κ∈d::ks->κ<OBJS:=fun κ hm=>by
  rcases List.mem_cons.1 hm with rfl|hm
  ·exact hdO
  ·exact (hk κ hm).1
 have hob:=Zau
 refine h.gen (d::ks) (fun b=>g.pr b=0/\g.ow b=none) (ZaN (Ext.refl _ _ _ _)) (ZbV h.fr (Nat.le_refl _)) rfl rfl rfl (by rw [Zb6];exact h.df) Zd6
  (fun k hm=>?_) (fun k hm _=>?_) (fun k hm c i=>Za0 (hφ k c i (fun hh=>hm (List.mem_cons_of_mem _ hh)))) (fun _=> .inl rfl) (fun b hb=>⟨rfl,rfl,by rw [ZaK hb.2,hb.2]⟩)
  (fun κ _ hκ hl=>(Zb7 h hκ hl).2) (fun _ os i ho hi=>(Ze2 h ho hi).2) (fun k hm=>?_) (fun κ hm hκ=>by have:=hnb κ hm;omega) (fun hm=>by have:=hnb OBJS hm;omega) (fun κ hm hκ=>by have:=hnb κ hm;omega)
 ·rw [List.mem_cons,not_or] at hm
  rw [Env.get_set_ne _ _ (Ne.symm hm.1),ZeP hm.2]
 ·rw [List.mem_cons,not_or] at hm
  exact Zbb hm.1
 ·refine .tmp (hnb k hm) ?_
  rcases List.mem_cons.1 hm with rfl|hm
  ·rw [Env.get_set_same,Zbe hs];exact hrd
  ·have hne:=(hk k hm).2
   rw [Env.get_set_ne _ _ (Ne.symm hne),Zbb hne,Zlj hm]
   exact ((h.key k).tm (hk k hm).1).plain'
theorem Zsh (h:St g e a w) {x:Operand} {y:Arg} (hx:Zcl x y=true) {takes:List Nat} {z:A} (hz:Zbl e takes y= .a z) (φ:Loc->Loc) (k c off:Nat) (hφ: ∀m i,y= .k m->m∈takes->φ (m,0,i)=(k,c,off+i)):
   (a.eval x).cells.toList.length=z.cells.length/\ ∀(i:Nat) u q,(a.eval x).cells.toList[i]? =some u->z.cells[i]? =some q->RepC (g.remap φ) w (k,c,off+i) u q:=by
 have hr:=ZfR h hx takes
 rw [hz] at hr
 have hcells: ∃k,RepCells g w k 0 (a.eval x).cells.toList z.cells:=⟨_,RepA.cells hr⟩
 obtain ⟨kz,hcells⟩:=hcells
 refine ⟨hcells.1,fun i u q hu hq=>?_⟩
 cases y with
 | c y=>
   simp only [Zbl,D.a.injEq] at hz
   subst hz
   have hrep:=Zvl hx a (g.remap φ) w (k,c,off+i)
   rw [hrep.not_agg.1] at hu
   cases i with
   | zero=>simp [A.cells] at hu hq;subst hu;subst hq;exact hrep
   | succ i=>simp [A.cells] at hq
 | k m=>
   obtain ⟨rfl,hm⟩:=ZjR hx
   have hr0:RepD g w m (a.eval (.tmp m)) (Zbl e takes (.k m)):=ZfR h hx takes
   rw [hz] at hr0
   have hc0:=RepA.cells hr0
   by_cases ht:m∈takes
   · exact (hc0.2 i u q hu hq).mono (ZaN (Ext.refl _ _ _ _)) (fun _=>Nat.le_refl _) (Za0 (hφ m i rfl ht)) (fun _ h=>h) (fun _ _=>rfl)
   · have he:Zbl e takes (.k m)=Zbl e [] (.k m):=by simp [Zbl,ht]
     rw [he] at hz
     exact (hc0.2 i u q hu hq).of_pr (ZjG e (.k m) hz trivial (List.mem_of_getElem? hq))
theorem ZqU (h:St g e a w) (takes:List Nat) (φ:Loc->Loc) (fs:Array Field) (places:Array (Nat×Nat)) (hpl: ∀(i:Nat) (fd:Field) (n:Nat),fs[i]? =some fd->(Pg.info? fd.type).map (·.size)=some n->places[i]? =some (fd.offset,n)) (k:Nat):
   ∀(ps:List (Nat×Operand)) (offs:List (Nat×Nat)) (ys:List Arg) (cells:Array Value) (z cs:List C),ZkF Pg fs ps offs ys=true->
     (∀(j:Nat) m o,ys[j]? =some (.k m)->m∈takes->offs[j]? =some o-> ∀i,φ (m,0,i)=(k,0,o.1+i))->RepCells (g.remap φ) w k 0 cells.toList z->Ze4 z offs (ys.map (Zbl e takes))=some cs->
     ∃cells',Instr.fill (places[·]?) cells (ps.map fun (i,x)=>(i,a.eval x))=some cells'/\RepCells (g.remap φ) w k 0 cells'.toList cs
 | [],[],[],cells,z,cs,_,_,hz,hf=>by simp [Ze4] at hf;subst hf;exact ⟨cells,rfl,hz⟩
 | (i,x)::ps,(off,n)::offs,y::ys,cells,z,cs,ho,hφ,hz,hf=>by
   simp only [ZkF,Bool.and_eq_true] at ho
   obtain ⟨⟨o1,o2⟩,o3⟩:=ho
   split at o1
   · rename_i fd hfd
     simp only [Bool.and_eq_true,beq_iff_eq] at o1
     obtain ⟨rfl,hn⟩:=o1
     simp only [List.map_cons] at hf
     unfold Ze4 at hf
     split at hf
     · rename_i heq;cases heq
     · rename_i o' n' os' q r heq1 heq2
       simp only [List.cons.injEq,Prod.mk.injEq] at heq1 heq2
       obtain ⟨⟨rfl,rfl⟩,rfl⟩:=heq1
       obtain ⟨q1,rfl⟩:=heq2
       split at hf
       · rename_i hlen
         split at hf
         · rename_i z' hz'
           obtain ⟨c1,c2⟩:=Zsh h o2 q1 φ k 0 fd.offset (fun m i hy hm=>hφ 0 m (fd.offset,n) (by rw [hy];rfl) hm rfl i)
           obtain ⟨p1,p2⟩:=ZgW hz'
           have hsz:(a.eval x).cells.size=n:=by rw [<-hlen,<-c1];simp
           have hcs:cells.size=z.length:=by rw [<-hz.1];simp
           have hcells:=RepCells.put (cells':=((a.eval x).cells.zipIdx.foldl (fun cs (c,j)=>cs.setIfInBounds (fd.offset+j) c) cells).toList) hz ⟨c1,c2⟩ hz' (by
               rw [<-Array.foldl_toList];simp [Zf4]) (fun i'=>by
               rw [<-Array.foldl_toList,Array.toList_zipIdx,Array.getElem?_toList]
               have:=Znw (a.eval x).cells.toList cells fd.offset 0 Ze i'
               simp only [Nat.add_zero] at this
               rw [this]
               simp)
           obtain ⟨cells',f1,f2⟩:=ZqU h takes φ fs places hpl k ps offs ys _ z' cs o3 (fun j m o h1 h2 h3=>hφ (j+1) m o (by simpa using h1) h2 (by simpa using h3)) hcells hf
           refine ⟨cells',?_,f2⟩
           simp only [List.map_cons,Instr.fill,hpl i fd n hfd hn]
           have hcond: ¬((a.eval x).cells.size≠n∨fd.offset+(a.eval x).cells.size>cells.size):=by
             rw [hsz];omega
           simp only [ne_eq,Bool.or_eq_true,decide_eq_true_eq]
           rw [if_neg (by simpa using hcond)]
           exact f1
         · cases hf
       · cases hf
     · cases hf
   · cases o1
 | [],[],_::_,_,_,_,ho,_,_,_=>by cases ho
 | [],_::_,_,_,_,_,ho,_,_,_=>by cases ho
 | _::_,[],_,_,_,_,ho,_,_,_=>by cases ho
 | _::_,_::_,[],_,_,_,ho,_,_,_=>by cases ho
def ZpF (Pg:Program) (z:List C) (offs:List (Nat×Nat)) (o:Oper) (s:SOp) (nt:Nat):Bool:=
 match o.op,o.dst,s.outs with
 | .build t ps,some d,[d']=>d==d' && Nat.blt d nt && s.takes.all (fun m=>Nat.blt m OBJS && m !=d) && ZAi s.ins s.takes && Zrz Pg t z && (match Pg.underlying t with
   | some (.struct fs)=>fs.all (fun fd=>(Pg.info? fd.type).isSome) && ZkF Pg fs ps.toList offs s.ins
   | _=>false)
 | _,_,_=>false
theorem ZtG (h:St g e a w) {o:Oper} {s:SOp} {z:List C} {offs:List (Nat×Nat)} (hk:s.kind= .build z offs) (ho:ZpF Pg z offs o s g.nt=true) (hd:doOp F s e=some e'):OpOut Pg o a w g e':=by
 unfold ZpF at ho
 split at ho
 ·rename_i t ps d d' hop hdst hout
  simp only [Bool.and_eq_true,beq_iff_eq] at ho
  obtain ⟨⟨⟨⟨⟨e1,o0⟩,ot⟩,op⟩,o1⟩,o2⟩:=ho
  obtain ⟨d,rfl⟩: ∃d₀:Nat,d₀=d:=⟨d,rfl⟩
  rw [<-e1] at hout
  have hlt:=Nat.blt_eq.mp o0
  have htk: ∀n∈s.takes,n<OBJS/\n≠d:=fun n hn=>by
   have:=List.all_eq_true.1 ot n hn
   simp only [Bool.and_eq_true,bne_iff_ne] at this
   exact ⟨Nat.blt_eq.mp this.1,this.2⟩
  unfold doOp at hd
  rw [hk,hout] at hd
  simp only [ZaI,Zi4] at hd
  split at hd
  ·cases hd
  ·rename_i ds hs
   split at hs
   ·rename_i cs hcs
    cases hs
    simp only [Env.sets,Option.some.injEq] at hd
    subst hd
    unfold Zrz at o1
    split at o1
    ·rename_i inf hi
     split at o1
     ·rename_i zv hzv
      split at o2
      ·rename_i fs hu
       rw [Bool.and_eq_true] at o2
       obtain ⟨o2,o3⟩:=o2
       obtain ⟨pl,r1,r2,r3⟩:=ZnW (Pg:=Pg) (w:=w) fs.toList (fun fd hm=>by
        have:=Array.all_eq_true_iff_forall_mem.1 o2 fd (by simpa using hm)
        exact this)
       have hpl: ∀(i:Nat) (fd:Field) (n:Nat),fs[i]? =some fd->(Pg.info? fd.type).map (·.size)=some n->pl.toArray[i]? =some (fd.offset,n):=fun i fd n h1 h2=>by
        simpa using r3 i fd n (by simpa using h1) h2
       let φ:Loc->Loc:=fun ℓ=>if ℓ.1∈s.takes/\ℓ.2.1=0 then (match Zvt s.ins ℓ.1 with|some j=>(match offs[j]? with|some o=>(d,0,o.1+ℓ.2.2)|none=>ℓ)|none=>ℓ) else ℓ
       obtain ⟨cells',f1,f2⟩:=ZqU h s.takes φ fs pl.toArray hpl d ps.toList offs s.ins zv.cells z cs o3 (fun j m o h1 h2 h3 i=>by
        simp only [φ,h2,true_and,if_true]
        rw [Zn5 op h1 h2]
        simp only [h3]) (ZfH (g.remap φ) w d 0 _ _ o1) hcs
       refine ⟨.value (.agg cells'),.agg cells',w,g.remap φ,?_,.inl rfl,?_,ZaN (Ext.refl _ _ _ _),rfl,rfl,rfl⟩
       ·have hmap:(Array.mapM (fun (f:Field)=>do pure (f.offset,<-sizeOf f.type)) fs:Sem (Array (Nat×Nat))).run Pg w= .ok pl.toArray w:=by
         rw [Array.mapM_eq_mapM_toList]
         simp only [Sem.run_map,r1,Result.andThen_ok]
        simp only [execOp,hop]
        rw [Zaw]
        simp only [Instr.build,Sem.run_bind,Zcs hi hzv,run_underlying hu,Result.andThen_ok]
        rw [hmap]
        simp only [Result.andThen_ok,Array.toList_map]
        rw [f1]
        rfl
       ·rw [hdst]
        exact h.gives hlt htk φ (fun k c i hk=>by simp [φ,hk]) ⟨cells',rfl,f2⟩
      ·cases o2
     ·cases o1
    ·cases o1
   ·cases hs
 ·cases ho
end each
end Go.Am
end
section
namespace Go.Am
variable [WI]
variable {Pg:Program}
section each
variable {F:ZaQ} {g:G} {e e':Env} {a:Act} {w:World}
theorem St.newRowU (h:St g e a w) {d:Nat} (hlt:d<g.nt) {cells:Array Value} (t:TypeId) {s len cap:Nat} {rows:List (List P)} (hl:len=rows.length) (hcap:len<=cap) (hsz:cap*s<=cells.size) (hlen: ∀(i:Nat) row,rows[i]? =some row->row.length=s)
  (hc: ∀(i:Nat) row (j:Nat) x,rows[i]? =some row->row[j]? =some x-> ∃v,cells[i*s+j]? =some v/\RepP g.pr w v x) (w₀:World) (hw:w₀=w∨w₀=w.drew):
  ∃g',St g' (e.set d (.a (.one (.uniq s rows)))) (a.put (some d) (.slice (some ⟨w.heap.size,0,none⟩) len cap)) (w₀.alloc (.cells cells t))/\
   Ext g.T g.pr g.ow w (w₀.alloc (.cells cells t)) g'.pr g'.ow/\g'.ω=g.ω/\g'.T=g.T/\g'.nt=g.nt:=by
 have hdO:d<OBJS:=Nat.lt_of_lt_of_le hlt h.nt
 have hds:d<a.tmps.size:=Nat.lt_of_lt_of_le hlt h.sz
 let g':G:=g.lay w.heap.size 0 (d,0,0)
 let w':World:=w₀.alloc (.cells cells t)
 have hheap:w'.heap=w.heap.push (.cells cells t):=by rcases hw with rfl|rfl<;>rfl
 have hold: ∀b,b<w.heap.size->w'.heap[b]? =w.heap[b]? :=fun b hb=>by rw [hheap,Array.getElem?_push];simp [Nat.ne_of_lt hb]
 have hnew:w'.heap[w.heap.size]? =some (.cells cells t (0,0)):=by rw [hheap];simp
 have hsize:w'.heap.size=w.heap.size+1:=by rw [hheap];simp
 have hext:Ext g.T g.pr g.ow w w' g'.pr g'.ow:=by
  refine ⟨?_,?_,?_,by rw [hsize];omega,fun b o' hb=>⟨o',by rw [hold b (ZaB hb)];exact hb,SameObj.refl _ _⟩,fun b hb=>?_,fun b hb ho _=>?_,fun b hb _ _=>?_⟩
  ·rcases hw with rfl|rfl<;>rfl
  ·rcases hw with rfl|rfl<;>rfl
  ·rcases hw with rfl|rfl<;>rfl
  ·simp [g',G.lay,Nat.ne_of_lt hb]
  ·simp [g',G.lay,Nat.ne_of_lt hb,ho]
  ·exact hold _ ‹_›
 have hp:=hext.prle' h.fr
 refine ⟨g',?_,hext,rfl,rfl,rfl⟩
 have hbig: ∀κ,κ∈[d]-> ¬BOX<=κ:=fun κ hm hb=>by have:=Zau;simp at hm;omega
 refine h.gen [d] (fun b=>b<w.heap.size) hext (fun b hb=>?_) rfl rfl rfl (by rw [Zb6];exact h.df) Zd6 (fun k hk=>Env.get_set_ne _ _ (by simp at hk;omega)) (fun k hk _=>Zbb (by simpa using hk))
  (fun k hk c i b hb=>?_) (fun _=> .inl rfl) (fun b hb=>⟨hold b hb,by simp [g',G.lay,Nat.ne_of_lt hb],by simp [g',G.lay,Nat.ne_of_lt hb]⟩) (fun κ _ hκ hl=>(Zb7 h hκ hl).1) (fun _ os i ho hi=>(Ze2 h ho hi).1)
  (fun k hk=>?_) (fun κ hm hκ=>absurd hκ (hbig κ hm)) (fun hm=>by simp at hm;omega) (fun κ hm hκ=>absurd hκ (hbig κ hm))
 ·change w'.heap.size<=b at hb
  rw [hsize] at hb
  have hne:b≠w.heap.size:=by omega
  simp [g',G.lay,hne,h.fr b Zo]
 ·have hne:b≠w.heap.size:=fun hh=>by rw [hh,(h.fr _ (Nat.le_refl _)).2] at hb;cases hb
  refine ⟨by simp [g',G.lay,hne,hb],by simp [g',G.lay,hne],hold b ?_⟩
  rcases Nat.lt_or_ge b w.heap.size with hh|hh
  ·exact hh
  ·rw [(h.fr b hh).2] at hb;cases hb
 ·simp at hk;subst hk
  refine .tmp hdO ?_
  rw [Env.get_set_same,Zbe hds]
  refine ⟨some ⟨w.heap.size,0,none⟩,cap,by rw [hl],.inr ⟨w.heap.size,cells,t,rfl,by omega,by simp [g',G.lay],by simp [g',G.lay],h.tf _ (Nat.le_refl _),hnew,hsz,fun i row hi=>⟨hlen i row hi,fun j x hj=>?_⟩⟩⟩
  obtain ⟨v,hv,hr⟩:=hc i row j x hi hj
  exact ⟨v,hv,hr.mono hext.keeps hp⟩
theorem Ztv {g:G} {w:World} {b s n:Nat} {cs:Array Value} {t:TypeId} (hb:w.heap[b]? =some (.cells cs t (0,0))) (hsz:n*s<=cs.size):
  ∃olds:List Value,olds.length=n*s/\(∀(j:Nat) v,olds[j]? =some v->w.cell? ((⟨b,0,none⟩:Addr).add j)=some v)/\ ∀i,i<n*s->olds[i]? =cs[i]? :=by
 refine ⟨cs.toList.take (n*s),by simp;omega,fun j v hj=>?_,fun i hi=>by rw [List.getElem?_take,if_pos hi];simp⟩
 rw [List.getElem?_take] at hj
 split at hj
 ·rw [Addr.add_eq,Nat.zero_add,ZG6 hb];simpa using hj
 ·cases hj
def Zm2 (Pg:Program) (z:Nat) (o:Oper) (s:SOp) (nt:Nat):Bool:=Zlz Pg z o s nt
theorem Zo1 {v:Value} {s:Nat} {rows:List (List P)} (h:ZfU v (.uniq s rows)=true):rows=[]/\v= .slice none 0 0:=by
 unfold ZfU at h;split at h<;>simp_all
theorem Ztx (h:St g e a w) {o:Oper} {s:SOp} {z:Nat} (hk:s.kind= .appendU z) (ho:Zm2 Pg z o s g.nt=true) (hd:doOp F s e=some e'):OpOut Pg o a w g e':=by
 unfold Zm2 Zlz at ho
 split at ho
 · rename_i c d y1 y2 d' hop hdst hins hout
   split at ho
   · rename_i x1 x2 t t' hcal hargs htys
     simp only [Bool.and_eq_true,beq_iff_eq,Nat.blt_eq] at ho
     obtain ⟨⟨⟨⟨⟨⟨e1,o1⟩,o2⟩,o3⟩,e2⟩,hlt⟩,o4⟩:=ho
     obtain ⟨d,rfl⟩: ∃d₀:Nat,d₀=d:=⟨d,rfl⟩
     rw [<-e2] at hout
     obtain ⟨el,inf,zv,u1,u2,u3,u4,u5,u6,u7⟩:=Zez o3
     have hdO:d<OBJS:=Nat.lt_of_lt_of_le hlt h.nt
     have htl:s.takes=[]∨ ∃m,s.takes=[m]:=(Zew o4).imp (·.1) (fun ⟨m,hm,_⟩=>⟨m,hm⟩)
     have htk: ∀m,m∈s.takes->y1= .k m/\m<OBJS/\m≠d/\y2≠ .k m:=fun m hm=>by
       rcases Zew o4 with ⟨h0,_⟩|⟨m',h0,h1,h2,h3⟩
       · rw [h0] at hm;simp at hm
       · rw [h0] at hm;simp at hm;subst hm
         refine ⟨h1,?_,h2,h3⟩
         rw [h1] at o1
         exact (ZjR o1).2
     have hy1: ∀m,y1= .k m->m∈s.takes:=fun m hm=>by
       rcases Zew o4 with ⟨_,h1⟩|⟨m',h0,h1,_⟩
       · exact absurd hm (h1 m)
       · rw [hm] at h1;cases h1;rw [h0];simp
     unfold doOp at hd
     rw [hk,hins,hout] at hd
     simp only [List.map_cons,List.map_nil,ZaI] at hd
     unfold ZiL at hd
     split at hd
     · cases hd
     · rename_i ds heq
       split at heq
       · rename_i s' rows c2 heq2
         simp only [List.cons.injEq,and_true] at heq2
         obtain ⟨q1,q2⟩:=heq2
         split at heq
         · rename_i s'' more hmore
           split at heq
           · rename_i hc
             obtain ⟨rfl,rfl,hbd⟩:=hc
             simp only [Option.some.injEq] at heq
             subst heq
             simp only [Env.sets,Option.some.injEq] at hd
             subst hd
             have r1: ∃k,RepC g w (k,0,0) (a.eval x1) (.uniq s'' rows)/\(∀m,m∈s.takes->k=m)/\(s.takes=[]->rows=[]/\a.eval x1= .slice none 0 0):=by
               have hr:=ZfR h o1 s.takes
               rw [q1] at hr
               cases y1 with
               | k m=>
                 exact ⟨m,hr,(fun m' hm'=>by have:=(htk m' hm').1;cases this;rfl),fun hh=>by have:=hy1 m rfl;rw [hh] at this;cases this⟩
               | c c=>
                 have hce:c= .uniq s'' rows:=by simpa [Zbl] using q1
                 subst hce
                 refine ⟨0,hr,(fun m' hm'=>by have:=(htk m' hm').1;cases this),fun _=>?_⟩
                 cases x1 with
                 | const v=>exact Zo1 o1
                 | tmp t=>simp [Zcl] at o1
                 | global g=>simp [Zcl] at o1
                 | func f=>simp [Zcl] at o1
             obtain ⟨k1,r1,hk1,hnil⟩:=r1
             have r2:RepP g.pr w (a.eval x2) (.sl s'' more):=by
               have hr:=ZfR h o2 s.takes
               rw [q2] at hr
               exact ZhO hr hmore
             obtain ⟨ad1,cap1,v1,hroom⟩:=r1
             obtain ⟨ad2,cap2,v2,hcap2⟩:=r2.slice_inv
             rw [v2] at r2
             obtain ⟨news,l2,c2',g2,b2,n2,oc2,p2⟩:=Zji r2 u4
             have n1: ∀(i:Nat) row,rows[i]? =some row->row.length=s'':=fun i row hi=>by
               rcases hroom with ⟨_,hr,_⟩|⟨b,cs,t,_,_,_,_,_,_,_,hrows⟩
               · rw [hr] at hi;simp at hi
               · exact (hrows i row hi).1
             have hlens: ∀(i:Nat) row,(rows++more)[i]? =some row->row.length=s'':=fun i row hi=>by
               rcases Zce hi with ⟨_,hh⟩|⟨_,hh⟩
               · exact n1 i row hh
               · exact n2 _ row hh
             have htk': ∀m,m∈s.takes->m<OBJS/\m≠d:=fun m hm=>⟨(htk m hm).2.1,(htk m hm).2.2.1⟩
             have hfirst: ∀W:World,(∀ad,W.cell? ad=w.cell? ad)->(Builtin.firstCells inf.size more.length (.slice ad2 more.length cap2)).run Pg W= .ok news.toArray W:=fun W hW=>by
               cases ad2 with
               | none=>
                 have:news=[]:=by
                   cases more with
                   | nil=>simpa using l2
                   | cons r rs=>obtain ⟨_,_,hh⟩:=b2 Zs;cases hh
                 rw [this];exact run_firstCells_none W _ _ _ _
               | some b=>
                 exact run_firstCells_some W _ _ b _ _ news (by rw [l2,u3]) (fun j v hj=>by rw [hW];exact c2' b rfl j v hj)
             have hexec: ∀(v:Value) (w':World),(Builtin.append_ #[t,t] o.type #[.slice ad1 rows.length cap1,.slice ad2 more.length cap2]).run Pg w= .ok v w'->(execOp a.eval o).run Pg w= .ok (.value v) w':=fun v w' hr=>by
               obtain ⟨callee,args,argTypes⟩:=c
               obtain ⟨args⟩:=args
               obtain ⟨argTypes⟩:=argTypes
               simp only at hcal hargs htys
               subst hcal;subst hargs;subst htys;subst e1
               simp only [execOp,hop,resolve,List.map_toArray,List.map_cons,List.map_nil,v1,v2]
               rw [Sem.run_bind,Sem.run_pure,Result.andThen_ok]
               simp only [invoke,builtin]
               rw [Zaw,hr,Result.andThen_ok]
             by_cases hle:rows.length+more.length<=cap1
             · have hrun:=Zhw (Pg:=Pg) (w:=w) (ty:=o.type) u1 u2 (base:=ad1) (base':=ad2) hle (hfirst w fun _=>rfl)
               by_cases hm0:more=[]
               · have hn0:news=[]:=by rw [hm0] at l2;simpa using l2
                 subst hm0
                 subst hn0
                 rw [ZlC,Result.andThen_ok] at hrun
                 let φ:Loc->Loc:=fun ℓ=>if ℓ.1∈s.takes then (d,ℓ.2) else ℓ
                 refine ⟨.value _,_,w,g.remap φ,hexec _ _ hrun,.inl rfl,?_,ZaN (Ext.refl _ _ _ _),rfl,rfl,rfl⟩
                 rw [hdst]
                 refine h.appended hlt htk' htl (ZaN (Ext.refl _ _ _ _)) (ZbV h.fr (Nat.le_refl _)) rfl rfl rfl rfl (fun k hk _ c i=>Za0 (by simp [φ,hk])) (fun b _ _ hb=>⟨rfl,rfl,by rw [ZaK hb,hb]⟩) ?_
                 simp only [List.append_nil,List.length_nil,Nat.add_zero]
                 refine ⟨ad1,cap1,rfl,hroom.imp id ?_⟩
                 rintro ⟨b,cs,t0,hb,hl,hpr,how,hTb,hcs,hfit,hrows⟩
                 have hmt: ∃m,s.takes=[m]:=by
                   rcases htl with htl|hh
                   · have h0:=(hnil htl).2;rw [v1] at h0;injection h0 with h1;rw [h1] at hb;cases hb
                   · exact hh
                 obtain ⟨m,hmt⟩:=hmt
                 have hkm:=hk1 m (by rw [hmt];simp)
                 exact ⟨b,cs,t0,hb,hl,hpr,by simp [G.remap,how,φ,hmt,hkm],hTb,hcs,hfit,hrows⟩
               · have hpos:0<more.length:=by cases more with|nil=>exact absurd rfl hm0|cons _ _=>simp
                 rcases hroom with ⟨_,hr0,hc0⟩|⟨b,cs,el',hb,hl,hpr,how,hTb,hcs,hfit,hrows⟩
                 · omega
                 subst hb
                 have hmt: ∃m,s.takes=[m]:=by
                   rcases htl with htl|hh
                   · have h0:=(hnil htl).2;rw [v1] at h0;injection h0 with h1;cases h1
                   · exact hh
                 obtain ⟨m,hmt⟩:=hmt
                 have hk1m:=hk1 m (by rw [hmt];simp)
                 subst hk1m
                 let new:Array Value:=(cs.toList.take (rows.length*s'')++news++cs.toList.drop (rows.length*s''+news.length)).toArray
                 have hfit':rows.length*s''+news.length<=cs.size:=by
                   rw [l2]
                   have:(rows.length+more.length)*s''<=cap1*s'':=Nat.mul_le_mul_right _ hle
                   rw [Nat.add_mul] at this
                   omega
                 have hst:(Zjd (some ⟨b,0,none⟩) (rows.length*inf.size) news).run Pg w= .ok () (w.setRow b new):=by
                   show (storeCells ((⟨b,0,none⟩:Addr).add (rows.length*inf.size)) news).run Pg w=_
                   rw [Addr.add_eq,u3,Nat.zero_add]
                   have:=run_storeCells_at Pg b (rows.length*s'') el' news 0 cs w hcs (by simpa using hfit') oc2
                   simpa [new] using this
                 rw [hst,Result.andThen_ok] at hrun
                 have hnsz:new.size=cs.size:=by simp [new];omega
                 have hnget: ∀i,new[i]? =if rows.length*s''<=i/\i<rows.length*s''+news.length then news[i-rows.length*s'']? else cs[i]? :=fun i=>by
                   have hm:(cs.toList.take (rows.length*s'')).length=rows.length*s'':=by simp;omega
                   simp only [new,List.getElem?_toArray]
                   rcases Nat.lt_or_ge i (rows.length*s'') with h1|h1
                   · rw [if_neg Zo,List.append_assoc,List.getElem?_append_left Zo,List.getElem?_take,if_pos h1,Array.getElem?_toList]
                   · rcases Nat.lt_or_ge i (rows.length*s''+news.length) with h2|h2
                     · rw [if_pos ⟨h1,h2⟩,List.append_assoc,List.getElem?_append_right Zo,hm,List.getElem?_append_left Zo]
                     · rw [if_neg Zo,List.append_assoc,List.getElem?_append_right Zo,hm,List.getElem?_append_right Zo,List.getElem?_drop,Array.getElem?_toList]
                       congr 1;omega
                 let g':G:=g.remap fun ℓ=>if ℓ.1=k1 then (d,ℓ.2) else ℓ
                 have hext0:=Zik (T:=g.T) (ow:=g.ow) hcs hnsz (pr:=g.pr) (fun j hj=>by rw [hpr] at hj;omega) (.inr (by rw [how];simp))
                 have hext:Ext g.T g.pr g.ow w (w.setRow b new) g'.pr g'.ow:=ZaN hext0
                 have hblt:=ZaB hcs
                 refine ⟨.value _,_,w.setRow b new,g',hexec _ _ hrun,.inl rfl,?_,hext,rfl,rfl,rfl⟩
                 rw [hdst]
                 refine h.appended hlt htk' htl hext (ZbV h.fr hext0.size) rfl rfl rfl rfl (fun k hk _ c i b' hb'=>?_) (fun k hk hp0 hn=>?_) ?_
                 · have hkb:b'≠b:=fun hh=>by
                     rw [hh,how] at hb';cases hb'
                     exact hk (by rw [hmt];simp)
                   have hkm:k≠k1:=fun hh=>hk (by rw [hmt,hh];simp)
                   exact ⟨by simp [g',G.remap,hb',hkm],rfl,setRow_other w b b' new hkb⟩
                 · have hkb:k≠b:=fun hh=>by rw [hh,how] at hn;cases hn
                   exact ⟨setRow_other w b k new hkb,rfl,by simp [g',G.remap,hn]⟩
                 · have hkeeps:=hext0.keeps
                   refine ⟨some ⟨b,0,none⟩,cap1,by simp,.inr ⟨b,new,el',rfl,by simpa using hle,hpr,by simp [g',G.remap,how],hTb,setRow_heap w b cs new el' (0,0) hcs,by rw [hnsz];exact hfit,fun i row hi=>⟨hlens i row hi,fun j x hj=>?_⟩⟩⟩
                   have hj':j<s'':=by have:=Zaq hj;rw [hlens i row hi] at this;exact this
                   rcases Zce hi with ⟨hi1,hh⟩|⟨hi1,hh⟩
                   · obtain ⟨v,hv1,hv2⟩:=(hrows i row hh).2 j x hj
                     have hlt':=ZdS hi1 hj'
                     exact ⟨v,by rw [hnget,if_neg Zo];exact hv1,hv2.mono hkeeps (fun _=>Nat.le_refl _)⟩
                   · obtain ⟨v,hv1,hv2⟩:=g2 (i-rows.length) row j x hh hj
                     have hlt':=Zaq hv1
                     have hi2:i*s''=rows.length*s''+(i-rows.length)*s'':=by rw [<-Nat.add_mul];congr 1;omega
                     refine ⟨v,?_,hv2.mono hkeeps (fun _=>Nat.le_refl _)⟩
                     rw [hnget,if_pos Zo]
                     rw [<-hv1];congr 1;omega
             · have hgt:cap1<rows.length+more.length:=by omega
               have hpos:0<more.length:=by
                 rcases Nat.eq_zero_or_pos more.length with h0|h0
                 · rcases hroom with ⟨_,hr,hc0⟩|⟨_,_,_,_,hr,_⟩
                   · rw [hr,hc0] at hgt;simp [h0] at hgt
                   · omega
                 · exact h0
               have hmne:more≠[]:=fun hh=>by rw [hh] at hpos;simp at hpos
               obtain ⟨b₂,o₂,hb₂⟩:=b2 hmne
               subst hb₂
               have hbytes:(rows.length+more.length)*inf.bytes<=140737488355328:=by
                 unfold ZeA at hbd
                 have:(rows.length+more.length)*inf.bytes<=68719476736*2048:=Nat.mul_le_mul Zo u7
                 omega
               have h63:((rows.length+more.length:Nat):Int)<=9223372036854775807:=by unfold ZeA at hbd;omega
               have hrunG: ∃(cells:Array Value) (ncap:Nat),(Builtin.append_ #[t,t] o.type #[.slice ad1 rows.length cap1,.slice (some ⟨b₂,o₂,none⟩) more.length cap2]).run Pg w= .ok (.slice (some ⟨w.heap.size,0,none⟩) (rows.length+more.length) ncap) (w.drew.alloc (.cells cells el))/\
                   rows.length+more.length<=ncap/\ncap*s''<=cells.size/\(∀(i:Nat) row (j:Nat) x,rows[i]? =some row->row[j]? =some x-> ∃v,cells[i*s''+j]? =some v/\RepP g.pr w v x)/\(∀i,i<news.length->cells[rows.length*s''+i]? =news[i]?):=by
                 have hcapge: ∀old,rows.length+more.length<=grownCap w (rows.length+more.length) old el:=fun old=>by
                   unfold grownCap Question.cut;exact Nat.le_add_right _ _
                 rcases hroom with ⟨ha,hr0,hc0⟩|⟨b,cs,el',hb,hl,hpr,how,hTb,hcs,hfit,hrows⟩
                 · subst ha;subst hr0;subst hc0
                   simp only [List.length_nil,Nat.zero_add] at*
                   have:=run_append_nil w t o.type el inf zv u1 u2 u5 ⟨b₂,o₂,none⟩ more.length cap2 news (by rw [l2,u3]) (fun j v hj=>c2' _ rfl j v hj) hpos h63 (by
                     have:more.length*inf.bytes<=140737488355328:=hbytes
                     omega)
                   refine ⟨_,_,this,hcapge 0,?_,fun i row j x hi=>by simp at hi,fun i hi=>?_⟩
                   · have hz:(Builtin.zeroCells zv.cells (grownCap w more.length 0 el-more.length)).size=(grownCap w more.length 0 el-more.length)*s'':=by simp [Builtin.zeroCells,u6]
                     have:=hcapge 0
                     rw [Array.size_append,hz,List.size_toArray,l2,<-Nat.add_mul]
                     exact Nat.mul_le_mul_right _ Zo
                   · simp only [Nat.zero_mul,Nat.zero_add]
                     rw [Array.getElem?_append_left (by simpa using hi)]
                     simp
                 · subst hb
                   have hfit0:rows.length*s''<=cs.size:=Nat.le_trans (Nat.mul_le_mul_right _ hl) hfit
                   obtain ⟨olds,l1,c1,og⟩:=Ztv (g:=g) (n:=rows.length) (s:=s'') hcs hfit0
                   have:=run_append_grow w t o.type el inf zv u1 u2 u5 ⟨b,0,none⟩ rows.length cap1 olds (by rw [l1,u3]) (fun j v hj=>c1 j v hj) ⟨b₂,o₂,none⟩ more.length cap2 news (by rw [l2,u3]) (fun j v hj=>c2' _ rfl j v hj) hgt h63 (growslice_fits hgt hbytes)
                   refine ⟨_,_,this,hcapge cap1,?_,fun i row j x hi hj=>?_,fun i hi=>?_⟩
                   · have hz:(Builtin.zeroCells zv.cells (grownCap w (rows.length+more.length) cap1 el-(rows.length+more.length))).size=(grownCap w (rows.length+more.length) cap1 el-(rows.length+more.length))*s'':=by simp [Builtin.zeroCells,u6]
                     have:=hcapge cap1
                     rw [Array.size_append,Array.size_append,hz,List.size_toArray,List.size_toArray,l1,l2,<-Nat.add_mul,<-Nat.add_mul]
                     exact Nat.mul_le_mul_right _ Zo
                   · have hj':j<s'':=by have:=Zaq hj;rw [(hrows i row hi).1] at this;exact this
                     have hlt':=ZdS (Zaq hi) hj'
                     obtain ⟨v,hv1,hv2⟩:=(hrows i row hi).2 j x hj
                     refine ⟨v,?_,hv2⟩
                     rw [Array.getElem?_append_left (by simp [l1];omega),Array.getElem?_append_left (by simp [l1];omega)]
                     rw [List.getElem?_toArray,og _ hlt'];exact hv1
                   · rw [Array.getElem?_append_left (by simp [l1];omega),Array.getElem?_append_right (by simp [l1])]
                     simp [l1]
               obtain ⟨cells,ncap,hrun,hnc,hcsz,hco,hcn⟩:=hrunG
               have hSt:St g (ZaA e s.takes) a w:=by
                 rcases htl with htl|⟨m,htl⟩
                 · rw [htl];exact h
                 · rw [htl]
                   obtain ⟨_,hmO,hmd,_⟩:=htk m (by rw [htl];simp)
                   have hno:OBJS∉[m]:=by simp;omega
                   have hbig: ∀κ,κ∈[m]-> ¬BOX<=κ:=fun κ hm hb=>by have:=Zau;simp at hm;omega
                   refine h.gen [m] (fun _=>True) (Ext.refl _ _ _ _) h.fr rfl rfl rfl h.df rfl (fun k hk=>Env.get_set_ne _ _ (by simp at hk;omega)) (fun _ _ _=>rfl) (fun _ _ _ _ b hb=>⟨hb,rfl,rfl⟩) (fun _=> .inl rfl) (fun _ _=>⟨rfl,rfl,rfl⟩)
                     (fun _ _ _ _=>trivial) (fun _ _ _ _ _=>trivial) (fun k hk=>?_) (fun κ hm hκ=>absurd hκ (hbig κ hm)) (fun hm=>absurd hm hno) (fun κ hm hκ=>absurd hκ (hbig κ hm))
                   simp at hk;subst hk
                   refine .tmp hmO ?_
                   simp only [ZaA]
                   rw [Env.get_set_same]
                   exact ((h.key k).tm hmO).plain
               obtain ⟨g',s1,s2,s3,s4,s5⟩:=hSt.newRowU (cells:=cells) hlt el (rows:=rows++more) (s:=s'') (len:=rows.length+more.length) (cap:=ncap) Zs hnc hcsz hlens (fun i row j x hi hj=>by
                 rcases Zce hi with ⟨hi1,hh⟩|⟨hi1,hh⟩
                 · exact hco i row j x hh hj
                 · obtain ⟨v,hv1,hv2⟩:=g2 (i-rows.length) row j x hh hj
                   refine ⟨v,?_,hv2⟩
                   have hi2:i*s''=rows.length*s''+(i-rows.length)*s'':=by rw [<-Nat.add_mul];congr 1;omega
                   rw [hi2,Nat.add_assoc,hcn _ (Zaq hv1)];exact hv1) w.drew (.inr rfl)
               exact ⟨.value _,_,_,g',hexec _ _ hrun,.inl rfl,by rw [hdst];exact s1,s2,s3,s4,s5⟩
           · cases heq
         · cases heq
       · cases heq
   · cases ho
 · cases ho
def Zph (Pg:Program) (z:Nat) (o:Oper) (s:SOp) (nt:Nat):Bool:=
 match o.op,o.dst,s.ins,s.takes,s.outs with
 | .slice t (.tmp t') none (some hx) none,some d,[.k n,y],[n'],[d']=>t'==n && n'==n && d==d' && Nat.blt d nt && Nat.blt n OBJS && n !=d && Zcl hx y && Arg.isNot y n && ZpD Pg t z
 | _,_,_,_,_=>false
theorem Zkj {e:Env} {y:Arg} {n:Nat} (h:Arg.isNot y n=true):Zbl e [n] y=Zbl e [] y:=by
 cases y with
 | c c=>rfl
 | k m=>
   have hm:m≠n:=fun hh=>by subst hh;simp [Arg.isNot] at h
   simp [Zbl,hm]
theorem Zt5 (h:St g e a w) {o:Oper} {s:SOp} {z:Nat} (hk:s.kind= .sliceU z) (ho:Zph Pg z o s g.nt=true) (hd:doOp F s e=some e'):OpOut Pg o a w g e':=by
 unfold Zph at ho
 split at ho
 ·rename_i t t' hx d n y n' d' hop hdst hins htk hout
  simp only [Bool.and_eq_true,beq_iff_eq,Nat.blt_eq,bne_iff_ne] at ho
  obtain ⟨⟨⟨⟨⟨⟨⟨⟨rfl,rfl⟩,rfl⟩,hlt⟩,hn⟩,hne⟩,o1⟩,o2⟩,o3⟩:=ho
  obtain ⟨el,inf,u1,u2,u3,u4⟩:=ZfK o3
  unfold doOp at hd
  rw [hk,hins,htk,hout] at hd
  have e1:Zbl e [n'] (.k n')=e.get n':=by simp [Zbl]
  simp only [List.map_cons,List.map_nil,ZaI,e1,Zkj o2] at hd
  unfold Zko at hd
  split at hd
  ·cases hd
  ·rename_i ds heq
   split at heq
   ·rename_i s' rows hv heq2
    simp only [List.cons.injEq,and_true] at heq2
    obtain ⟨q1,q2⟩:=heq2
    split at heq
    ·rename_i hc
     obtain ⟨rfl,h0,hle⟩:=hc
     simp only [Option.some.injEq] at heq
     subst heq
     simp only [ZaA,Env.sets,Option.some.injEq] at hd
     subst hd
     have hrep:=(h.key n').tm hn
     rw [q1] at hrep
     obtain ⟨ad,cap,hv',hroom⟩:=hrep
     have hcap:rows.length<=cap:=by
      rcases hroom with ⟨_,hr,_⟩|⟨_,_,_,_,hr,_⟩
      ·rw [hr];simp
      ·exact hr
     have hhi:=ZbL h o1 0
     rw [q2] at hhi
     have hb:ZbX (none:Option Operand).isSome (some hx).isSome rows.length ([y].map (Zbl e []))=some (0,hv.toNat,[]):=by
      have:hv.toNat<=rows.length:=by omega
      simp [ZbX,q2,Zme,h0,this]
     obtain ⟨hr,b1,b2⟩:=ZlF (Pg:=Pg) h true rows.length cap hcap none (some hx) [y] (by simpa [Zeo] using o1) hb
     let φ:Loc->Loc:=fun ℓ=>if ℓ.1=n' then (d,ℓ.2) else ℓ
     have hev:Act.eval a (.tmp n')= .slice ad rows.length cap:=hv'
     refine ⟨.value (.slice ad hv.toNat cap),.slice ad hv.toNat cap,w,g.remap φ,?_,.inl rfl,?_,ZaN (Ext.refl _ _ _ _),rfl,rfl,rfl⟩
     ·simp only [execOp,hop,hev]
      rw [Zaw]
      have hr':(Instr.sliceBounds true rows.length cap none (some (a.eval hx)) none).run Pg w= .ok (0,hv.toNat,cap) w:=hr
      simp only [Option.map_none,Option.map_some]
      cases ad with
      | none=>simp [Instr.sliceAt,Instr.slice,run_underlying u1,hr',sizeOf,typeInfo,u2,u3]
      | some ad=>simp [Instr.sliceAt,Instr.slice,run_underlying u1,hr',sizeOf,typeInfo,u2,u3,Addr.add]
     ·rw [hdst]
      refine h.give hlt hn hne φ (fun k c i hk=>by simp [φ,hk]) ?_ ?_
      ·rw [q1];exact ⟨ad,cap,hv'⟩
      ·refine ⟨ad,cap,by rw [List.length_take,Nat.min_eq_left b2],hroom.imp (fun ⟨h1,h2,h3⟩=>⟨h1,by rw [h2];simp,h3⟩) ?_⟩
       rintro ⟨b,cs,t0,hb,hl,hpr,how,hTb,hcs,hfit,hrows⟩
       refine ⟨b,cs,t0,hb,by rw [List.length_take];omega,hpr,by simp [G.remap,how,φ],hTb,hcs,hfit,fun i row hi=>hrows i row ?_⟩
       rw [List.getElem?_take] at hi
       split at hi
       ·exact hi
       ·cases hi
    ·cases heq
   ·cases heq
 ·cases ho
def Zm0 (Pg:Program) (t:TypeId) (zz:List P):Bool:=
 match Pg.underlying t with
 | some (.slice el)=>(match (Pg.info? el).bind (·.zero) with
   | some v=>Zj0 v.cells.toList (zz.map .p)
   | none=>false)
 | _=>false
theorem ZnG {t el:TypeId} {zz:List P} {inf:TypeInfo} {zv:Value} (h:Zm0 Pg t zz=true) (u1:Pg.underlying t=some (.slice el)) (u2:Pg.info? el=some inf) (u5:inf.zero=some zv) (g:G) (w:World):
  ∀(j:Nat) x,zz[j]? =some x-> ∃v,zv.cells[j]? =some v/\RepP g.pr w v x:=by
 simp only [Zm0,u1,u2,Option.bind_some,u5] at h
 obtain ⟨h1,h2⟩:=ZfH g w 0 0 _ _ h
 intro j x hx
 have hj:=Zaq hx
 rw [List.length_map] at h1
 have hv:zv.cells.toList[j]? =some (zv.cells.toList[j]'(by omega)):=List.getElem?_eq_getElem _
 exact ⟨_,by rw [<-Array.getElem?_toList];exact hv,h2 j _ (.p x) hv (by rw [List.getElem?_map,hx];rfl)⟩
def Zib (Pg:Program) (z:Nat) (zz:List P) (o:Oper) (s:SOp) (nt:Nat):Bool:=
 Zie o s nt && match o.op with
 | .makeSlice t l c=>Zmy Pg t z && ok2 l c s && Zm0 Pg t zz
 | _=>false
theorem ZoH (h:St g e a w) {o:Oper} {s:SOp} {z:Nat} {zz:List P} (hk:s.kind= .makeSliceZ z zz) (ho:Zib Pg z zz o s g.nt=true) (hd:doOp F s e=some e'):OpOut Pg o a w g e':=by
 unfold Zib at ho
 rw [Bool.and_eq_true] at ho
 obtain ⟨d,h1,h2,h3,hlt⟩:=Ziq ho.1
 obtain ⟨x,hx,rfl⟩:=Zk8 h3 h2 hd
 have ho2:=ho.2
 split at ho2
 ·rename_i t l c hop
  rw [Bool.and_eq_true,Bool.and_eq_true] at ho2
  obtain ⟨el,inf,zv,u1,u2,u3,u4,u5,u6,u7⟩:=Zez ho2.1.1
  obtain ⟨d1,d2,q1,q2,q3⟩:=Zj2 h ho2.1.2
  have hzr:=ZnG ho2.2 u1 u2 u5 g w
  rw [hk,q1] at hx
  simp only [ZaI] at hx
  unfold Ze6 at hx
  split at hx
  ·rename_i n m heq
   simp only [List.cons.injEq,and_true] at heq
   obtain ⟨rfl,rfl⟩:=heq
   split at hx
   ·rename_i hn
    simp only [Zx5,and_true] at hx
    subst hx
    have e1:=Zei (q2 0)
    have e2:=Zei (q3 0)
    obtain ⟨hnm,n0,n1,hzl⟩:=hn
    unfold ZeA at n1
    let zero:Array Value:=if m.toNat*z=0 then #[] else zv.cells
    let c0:Array Value:=(Array.range (m.toNat*z)).map (zero[· % zero.size]!)
    obtain ⟨g',s1,s2,s3,s4,s5⟩:=h.newRowU (cells:=c0) hlt el (rows:=List.replicate n.toNat zz) (s:=z) (len:=n.toNat) (cap:=m.toNat) Zs Zo (by simp [c0]) (fun i row hi=>by
     rw [List.getElem?_replicate] at hi;split at hi
     ·cases hi;exact hzl
     ·cases hi) (fun i row j x hi hj=>by
     rw [List.getElem?_replicate] at hi
     split at hi
     ·rename_i hin
      cases hi
      have hjz:j<z:=by rw [<-hzl];exact Zaq hj
      have hlt:=ZdS (show i<m.toNat by omega) hjz
      obtain ⟨v,hv1,hv2⟩:=hzr j x hj
      refine ⟨v,?_,hv2⟩
      have hz1:zero=zv.cells:=by simp only [zero];rw [if_neg Zo]
      have hm:(i*z+j) % z=j:=by rw [Nat.mul_comm,Nat.mul_add_mod];exact Nat.mod_eq_of_lt hjz
      have hjs:j<zv.cells.size:=by rw [u6];exact hjz
      rw [Array.getElem?_eq_getElem hjs] at hv1
      simp only [c0,Array.getElem?_map,Array.getElem?_range,hlt,if_true,Option.map_some,hz1,u6,hm]
      rw [getElem!_pos zv.cells j hjs];exact hv1
     ·cases hi) w (.inl rfl)
    refine ⟨.value _,_,_,g',?_,.inl rfl,by rw [h1];exact s1,s2,s3,s4,s5⟩
    have hwn:IntKind.i64.wrap n=n:=by
     unfold IntKind.wrap IntKind.bits IntKind.signed
     simp
     omega
    have hwm:IntKind.i64.wrap m=m:=by
     unfold IntKind.wrap IntKind.bits IntKind.signed
     simp
     omega
    have hbytes: ¬((inf.bytes:Int)*m>2 ^ 48):=by
     have:(inf.bytes:Int)*m<=2048*68719476736:=Int.mul_le_mul Zo Zo Zo Zo
     omega
    simp only [execOp,hop,e1,e2]
    rw [Zaw]
    have hcond2:(decide (m<0)||decide ((inf.bytes:Int)*m>2 ^ 48)||decide (n<0)||decide (n>m))=false:=by
     simp;omega
    have hc0':(Array.map (fun x=>zero[x % zero.size]!) (Array.range (m.toNat*inf.size)))=c0:=by simp only [c0,u3]
    simp only [Instr.makeSlice,Sem.run_bind,run_underlying u1,Result.andThen_ok,asInt,asIntOf,Sem.run_pure,typeInfo,run_program,u2,hwn,hwm,hcond2,Bool.false_eq_true,if_false,run_askRoom,sizeOf]
    by_cases hz0:m.toNat*inf.size=0
    ·have hzero:zero= #[]:=by simp only [zero];rw [<-u3,if_pos hz0]
     rw [hzero] at hc0'
     rw [if_pos hz0]
     simp only [Sem.run_bind,Sem.run_pure,Result.andThen_ok,hc0']
     simp [newRow]
    ·have hzero:zero=zv.cells:=by simp only [zero];rw [<-u3,if_neg hz0]
     rw [hzero] at hc0'
     rw [if_neg hz0]
     simp only [Sem.run_bind,Sem.run_pure,Zcs u2 u5,Result.andThen_ok,hc0']
     simp [newRow]
   ·cases hx
  ·cases hx
 ·cases ho2
end each
end Go.Am
end
