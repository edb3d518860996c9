/- Part. -/
import Derived.Test.YtnnimjficnjbdaaGreatDoorOan
import Derived.Orders
set_option maxRecDepth 999999
set_option maxHeartbeats 0
set_option linter.all false
section
namespace Go.Am
variable [WI]
variable {Pg:Program}
def okOp (Pg:Program) (o:Oper) (s:SOp) (nt:Nat):Bool:=
 s.quiet && s.restOK && match s.kind with
 | .mov=>ZBV o s nt||Zwd o s nt
 | .pick=>Zv8 o s nt
 | .alloc κ z=>Zsm Pg κ z o s nt
 | .box κ=>ZBJ κ o s nt||Zv0 κ o s nt
 | .build z offs=>Zsz Pg z offs o s nt||ZpF Pg z offs o s nt
 | .load n=>Zw1 Pg n o s nt
 | .loadB κ n=>Zte Pg κ n o s nt
 | .loadBT κ n=>Zpn Pg κ n o s nt
 | .loadC κ _=>Zpn Pg κ none o s nt
 | .loadO n=>ZtC Pg n o s nt
 | .loadOT n=>Zpq Pg n o s nt
 | .storeB κ n=>Zo9 Pg κ n o s
 | .storeO n=>Zpz Pg n o s
 | .nilCheck=>Zla o s nt
 | .fieldAddr off=>ZjE Pg off o s nt
 | .indexAddr z=>Zjq Pg z o s nt
 | .indexS=>Zp4 Pg o s nt
 | .bin op=>ZAU op o s nt
 | .binB op=>Zxd Pg op o s nt
 | .neqS=>ZOu Pg o s nt
 | .not=>ZBR o s nt
 | .neg=>ZBm o s nt
 | .conv k=>Zw9 Pg k o s nt
 | .convBS=>Zp5 Pg o s nt
 | .buildSlice z=>Zic Pg z o s nt
 | .append z=>Zlz Pg z o s nt
 | .len=>ZB8 Pg o s nt
 | .lenS=>ZwN Pg o s nt
 | .min2=>Zxk .min o s nt
 | .max2=>Zxk .max o s nt
 | .slice z lo hi mx=>Zs3 Pg z lo hi mx o s nt
 | .sliceS lo hi=>ZpW Pg lo hi o s nt
 | .extract i=>ZmL i o s nt||ZkE i o s nt
 | .fieldV off=>ZKZ Pg off o s nt
 | .makeFunc f first=>ZlB f first o s nt
 | .makeFuncS f=>ZIs f o s nt
 | .makeSlice z=>Zi7 Pg z o s nt
 | .makeSliceZ z zz=>Zib Pg z zz o s nt
 | .sliceU z=>Zph Pg z o s nt
 | .appendU z=>Zm2 Pg z o s nt
 | .makeMap κ=>ZnA κ o s nt
 | .lookup kk z=>Zo3 Pg kk z o s nt
 | .update kk=>Zpg Pg kk o s
 | .makeMapX κ=>ZIW κ o s nt
 | .lookupX own ks z ok=>ZJP Pg own ks z ok o s nt
 | .updateX own ks=>ZJS Pg own ks o s
 | .makeMapL κ=>ZJl κ o s nt
 | .insL κ n=>ZPa Pg κ n o s
 | .lookupL κ z=>ZJR Pg κ z o s nt
 | .fail=>true
 | .call f pass own na=>Zwp Pg f pass own na o s nt
 | .callv pass own na=>Zr9 pass own na o s nt
 | .callU f κs=>ZMV Pg f κs o s nt
section
variable {F:ZaQ} {g:G} {e e':Env} {a:Act} {w:World}
theorem Zyz (hF:Zcv Pg F) (h:St g e a w) {o:Oper} {s:SOp} (ho:okOp Pg o s g.nt=true) (hno: ∀κ,κ∈s.kind.creates->ZlQ e κ) (hd:doOp F s e=some e'):OpWp Pg o a w g e':=by
 unfold okOp at ho
 rw [Bool.and_eq_true] at ho
 obtain ⟨_,ho⟩:=ho
 cases hk:s.kind with
 | mov=>
   simp only [hk,Bool.or_eq_true] at ho
   rcases ho with ho|ho
   · exact (ZCe h hk ho hd).wp
   · exact (Zyr h hk ho hd).wp
 | pick=>rw [hk] at ho;exact (Zyw h hk ho hd).wp
 | alloc κ z=>rw [hk] at ho;exact (ZwW h hk ho (hno κ (by rw [hk];exact List.mem_singleton.2 rfl)) hd).wp
 | box κ=>
   simp only [hk,Bool.or_eq_true] at ho
   rcases ho with ho|ho
   · exact (ZB9 h hk ho (hno κ (by rw [hk];exact List.mem_singleton.2 rfl)) hd).wp
   · exact (ZxX h hk ho (hno κ (by rw [hk];exact List.mem_singleton.2 rfl)) hd).wp
 | build z offs=>
   simp only [hk,Bool.or_eq_true] at ho
   rcases ho with ho|ho
   · exact (ZwT h hk ho hd).wp
   · exact (ZtG h hk ho hd).wp
 | load n=>rw [hk] at ho;exact (Zyq h hk ho hd).wp
 | loadB κ n=>rw [hk] at ho;exact (ZvZ h hk ho hd).wp
 | loadBT κ n=>rw [hk] at ho;exact (ZuL h hk ho hd).wp
 | loadC κ off=>rw [hk] at ho;exact (ZO0 h hk ho hd).wp
 | loadO n=>rw [hk] at ho;exact (Zw5 h hk ho hd).wp
 | loadOT n=>rw [hk] at ho;exact (ZuA h hk ho hd).wp
 | storeB κ n=>rw [hk] at ho;exact (ZuT h hk ho hd).wp
 | storeO n=>rw [hk] at ho;exact (Zt2 h hk ho hd).wp
 | nilCheck=>rw [hk] at ho;exact (Zrd h hk ho hd).wp
 | fieldAddr off=>rw [hk] at ho;exact (Zpb h hk ho hd).wp
 | indexAddr z=>rw [hk] at ho;exact (Zo6 h hk ho hd).wp
 | indexS=>rw [hk] at ho;exact (ZuF h hk ho hd).wp
 | bin op=>rw [hk] at ho;exact (ZAE h hk ho hd).wp
 | binB op=>rw [hk] at ho;exact (ZyJ h hk ho hd).wp
 | neqS=>rw [hk] at ho;exact (ZPp h hk ho hd).wp
 | not=>rw [hk] at ho;exact (ZAO h hk ho hd).wp
 | neg=>rw [hk] at ho;exact (ZAJ h hk ho hd).wp
 | conv k=>rw [hk] at ho;exact (ZyH h hk ho hd).wp
 | convBS=>rw [hk] at ho;exact (Zu9 h hk ho hd).wp
 | buildSlice z=>rw [hk] at ho;exact (Zn4 h hk ho hd).wp
 | append z=>rw [hk] at ho;exact (Zuu h hk ho hd).wp
 | len=>rw [hk] at ho;exact (ZBG h hk ho hd).wp
 | lenS=>rw [hk] at ho;exact (ZxW h hk ho hd).wp
 | min2=>rw [hk] at ho;exact (ZCd h hk ho hd).wp
 | max2=>rw [hk] at ho;exact (ZBC h hk ho hd).wp
 | slice z lo hi mx=>rw [hk] at ho;exact (ZwP h hk ho hd).wp
 | sliceS lo hi=>rw [hk] at ho;exact (Zui h hk ho hd).wp
 | fieldV off=>rw [hk] at ho;exact (ZNn h hk ho hd).wp
 | extract i=>
   simp only [hk,Bool.or_eq_true] at ho
   rcases ho with ho|ho
   · exact (Zr8 h hk ho hd).wp
   · exact (Zrg h hk ho hd).wp
 | makeFunc f first=>rw [hk] at ho;exact (ZrP h hk ho hd).wp
 | makeFuncS f=>rw [hk] at ho;exact (ZKO h hk ho hd).wp
 | makeSlice z=>rw [hk] at ho;exact (Zo7 h hk ho hd).wp
 | makeSliceZ z zz=>rw [hk] at ho;exact (ZoH h hk ho hd).wp
 | sliceU z=>rw [hk] at ho;exact (Zt5 h hk ho hd).wp
 | appendU z=>rw [hk] at ho;exact (Ztx h hk ho hd).wp
 | makeMap κ=>rw [hk] at ho;exact (ZsY h hk ho (hno κ (by rw [hk];exact List.mem_singleton.2 rfl)) hd).wp
 | lookup kk z=>rw [hk] at ho;exact (ZtP h hk ho hd).wp
 | update kk=>rw [hk] at ho;exact (Zug h hk ho hd).wp
 | makeMapX κ=>rw [hk] at ho;exact (ZLY h hk ho (hno κ (by rw [hk];exact List.mem_singleton.2 rfl)) hd).wp
 | lookupX own ks z ok=>rw [hk] at ho;exact (ZMD h hk ho hd).wp
 | updateX own ks=>rw [hk] at ho;exact (ZMl h hk ho hd).wp
 | makeMapL κ=>rw [hk] at ho;exact (ZLS h hk ho (hno κ (by rw [hk];exact List.mem_singleton.2 rfl)) hd).wp
 | insL κ n=>rw [hk] at ho;exact (ZP9 h hk ho hd).wp
 | lookupL κ z=>rw [hk] at ho;exact (ZMg h hk ho hd).wp
 | fail=>unfold doOp at hd;rw [hk] at hd;simp [ZaI] at hd
 | call f pass own na=>rw [hk] at ho;exact Zye hF h hk ho hd
 | callv pass own na=>rw [hk] at ho;exact Zwr hF h hk ho hd
 | callU f κs=>rw [hk] at ho;exact ZOS hF h hk ho (fun κ hκ=>hno κ (by rw [hk];exact hκ)) hd
def Zll (ops:Array Oper) (o:Oper) (s:SOp) (nt:Nat):Bool:=
 match o.guard,s.guard with
 | none,none=>true
 | some (j,want),some (t,want')=>want==want' && ((ops[j]?).bind (·.dst)==some t) && Nat.blt t OBJS &&
   (if s.dst then (match o.dst,s.outs with|some d,d'::_=>d==d' && Nat.blt d nt|_,_=>false) else o.dst.isNone)
 | _,_=>false
theorem ZyK (hF:Zcv Pg F) (h:St g e a w) {ops:Array Oper} {i:Nat} {o:Oper} {s:SOp} (hi:ops[i]? =some o) (ho:okOp Pg o s g.nt=true) (hg:Zll ops o s g.nt=true)
  (hno: ∀κ,κ∈s.kind.creates->ZlQ e κ) (hd:ZaT F s e=some e') {K:Act->World->Prop} {Q:Exit->Act->World->Prop}
  (hK: ∀v w' g',St g' e' (a.put o.dst v) w'->Ext g.T g.pr g.ow w w' g'.pr g'.ow->g'.ω=g.ω->g'.T=g.T->g'.nt=g.nt->K (a.put o.dst v) w'):wpOp Pg ops Q i K a w:=by
 have hskip:ZdW s e=e'->s.guard.isSome=true->K (a.put o.dst undef) w:=fun hs hgs=>by
  unfold Zll at hg
  split at hg
  ·rename_i _ hg2;rw [hg2] at hgs;cases hgs
  ·simp only [Bool.and_eq_true] at hg
   obtain ⟨_,hg⟩:=hg
   split at hg
   ·rename_i hdst
    split at hg
    ·rename_i d d' r hod hout
     simp only [Bool.and_eq_true,beq_iff_eq] at hg
     obtain ⟨rfl,hlt⟩:=hg
     have hlt:=Nat.blt_eq.mp hlt
     have he:e'=e.set d (.tup []):=by rw [<-hs];simp [ZdW,hdst,hout]
     subst he
     refine hK undef w g ?_ (Ext.refl _ _ _ _) rfl rfl rfl
     rw [hod]
     exact h.put hlt ⟨#[],rfl,rfl,fun j u x hu=>by simp at hu⟩
    ·cases hg
   ·rename_i hdst
    have hod:o.dst=none:=by simpa using hg
    have he:e'=e:=by rw [<-hs];simp [ZdW,hdst]
    subst he
    refine hK undef w g ?_ (Ext.refl _ _ _ _) rfl rfl rfl
    rw [hod];exact h
  ·cases hg
 unfold wpOp
 simp only [hi]
 unfold ZaT at hd
 split at hd
 ·rename_i hsg
  have hog:o.guard=none:=by
   unfold Zll at hg
   split at hg
   ·assumption
   ·rename_i hg2;rw [hg2] at hsg;cases hsg
   ·cases hg
  rw [show Region.wanted o (yielded ops a.tmps)=true by simp [Region.wanted,hog],if_pos rfl]
  exact .inl (Zyz hF h ho hno hd K Q hK)
 ·rename_i t want hsg
  have hsome:s.guard.isSome=true:=by rw [hsg];rfl
  obtain ⟨j,hog,hdst,hlt⟩: ∃j,o.guard=some (j,want)/\(ops[j]?).bind (·.dst)=some t/\t<OBJS:=by
   unfold Zll at hg
   split at hg
   ·rename_i _ hg2;rw [hg2] at hsg;cases hsg
   ·rename_i j wa t' wa' hg1 hg2
    rw [hg2] at hsg
    cases hsg
    simp only [Bool.and_eq_true,beq_iff_eq] at hg
    obtain ⟨⟨⟨rfl,h2⟩,h3⟩,_⟩:=hg
    exact ⟨j,hg1,h2,Nat.blt_eq.mp h3⟩
   ·cases hg
  have hw: ∀v,a.tmps.getD t undef=v->Region.wanted o (yielded ops a.tmps)=((match v with| .bool b=>some b|_=>none)==some want):=fun v hv=>by
   simp only [Region.wanted,hog,yielded,hdst,Option.bind_some]
   congr 1
   by_cases hsz:t<a.tmps.size
   ·have:a.tmps[t]? =some v:=by rw [<-hv];simp [hsz]
    rw [this]
    cases v<;>rfl
   ·have h1:a.tmps[t]? =none:=Array.getElem?_eq_none Zo
    have:v=undef:=by rw [<-hv];simp [hsz]
    rw [h1,this];rfl
  have hr:=(h.key t).tm hlt
  split at hd
  ·rename_i b hb
   rw [hb] at hr
   have hv:=Zjm hr
   rw [hw _ hv]
   by_cases hbw:b=want
   ·subst hbw
    rw [if_pos Zs] at hd⊢
    exact .inl (Zyz hF h ho hno hd K Q hK)
   ·rw [if_neg (by simpa using hbw)] at hd⊢
    cases hd
    exact hskip rfl hsome
  ·rename_i hb
   rw [hb] at hr
   obtain ⟨vs,hv,_⟩:=hr
   rw [hw _ hv,if_neg Zs]
   cases hd
   exact hskip rfl hsome
  ·cases hd
end
end Go.Am
end
section
namespace Go.Am
variable [WI]
variable {Pg:Program}
def ZpT (c t:SOp):Bool:=
 c.kind.creates.all fun κ=> !t.kind.creates.elem κ && !t.outs.elem κ
theorem ZrB {c t:SOp} (h:ZpT c t=true) {κ:Nat} (hc:κ∈c.kind.creates):κ∉t.kind.creates/\κ∉t.outs:=by
 have:=List.all_eq_true.1 h κ hc
 simp only [Bool.and_eq_true] at this
 exact ⟨by simpa using this.1,by simpa using this.2⟩
def ZuM (o:Oper) (i:Nat):Bool:=o.after.any fun e=>Region.binds .any e && e.on==i
def ZvB (ops:Array Oper):Nat->Oper->Nat->Bool
 | 0,o,i=>ZuM o i
 | n+1,o,i=>ZuM o i||o.after.any fun e=>Region.binds .any e && match ops[e.on]? with|some o'=>ZvB ops n o' i|none=>false
def Zzg (ops:Array Oper) (draw:Bool) (oj:Oper) (i:Nat) (si sj:SOp):Bool:=
 ZpT sj si && (!draw||ZuM oj i||(si.indep sj && ZpT si sj)||ZvB ops 4 oj i)
def okAt (Pg:Program) (ops:Array Oper) (ss:List SOp) (nt:Nat) (draw:Bool) (j:Nat):Bool:=
 match ops[j]?,ss[j]? with
 | some o,some s=>okOp Pg o s nt && Zll ops o s nt && (!draw||o.after.all fun e=> !Region.binds .any e||Nat.blt e.on j) &&
   (List.range j).all fun i=>match ss[i]? with|some si=>Zzg ops draw o i si s|none=>false
 | _,_=>false
def ZhT (Pg:Program) (ops:Array Oper) (ss:List SOp) (nt:Nat) (draw:Bool):Bool:=
 ops.size==ss.length && (List.range ops.size).all fun j=>okAt Pg ops ss nt draw j
structure RInv (F:ZaQ) (ss:List SOp) (ef:Env) (L:Nat->Bool) (g:G) (e:Env) (a:Act) (w:World):Prop where
 st:St g e a w
 run: ∃e2,Zdo F (rem L 0 ss) e=some e2/\Same ef e2
 fresh: ∀(i:Nat) s κ,ss[i]? =some s->L i=false->κ∈s.kind.creates->ZlQ e κ
section
variable {F:ZaQ} {ops:Array Oper} {ss:List SOp} {nt:Nat} {draw:Bool}
theorem Zlc {s:SOp} {e:Env} {κ:Nat} (h:ZlQ e κ) (ho:κ∉s.outs):ZlQ (ZdW s e) κ:=by
 unfold ZdW
 split
 ·rename_i k r _ hout
  have hk:k≠κ:=fun hh=>ho (by rw [hout,hh];exact List.mem_cons_self)
  refine ⟨by rw [Env.get_set_ne _ _ hk];exact h.1,fun k'=>?_⟩
  rw [Env.get_set]
  split
  ·rfl
  ·exact h.2 k'
 ·exact h
theorem Zsf {s:SOp} {e e':Env} {κ:Nat} (hno:ZlQ e κ) (h:ZaT F s e=some e') (hq:s.quiet=true) (hr:s.restOK=true) (hcr:κ∉s.kind.creates) (hout:κ∉s.outs):ZlQ e' κ:=by
 unfold ZaT at h
 split at h
 ·exact ZoJ hno h hq hr hcr hout
 ·split at h
  ·split at h
   ·exact ZoJ hno h hq hr hcr hout
   ·cases h;exact Zlc hno hout
  ·cases h;exact Zlc hno hout
  ·cases h
theorem ZiG {j:Nat} (h:okAt Pg ops ss nt draw j=true): ∃o s,ops[j]? =some o/\ss[j]? =some s/\okOp Pg o s nt=true/\Zll ops o s nt=true/\
  (draw=true-> ∀e∈o.after,Region.binds .any e=true->e.on<j)/\ ∀i si,i<j->ss[i]? =some si->ZpT s si=true/\(draw=true->ZvB ops 4 o i=false->si.indep s=true/\ZpT si s=true):=by
 unfold okAt at h
 split at h
 ·rename_i o s ho hs
  simp only [Bool.and_eq_true] at h
  obtain ⟨⟨⟨h1,h2⟩,h3⟩,h4⟩:=h
  refine ⟨o,s,ho,hs,h1,h2,fun hd e he hb=>?_,fun i si hi hsi=>?_⟩
  ·rw [hd] at h3
   simp only [Bool.not_true,Bool.false_or] at h3
   have:=Array.all_eq_true_iff_forall_mem.1 h3 e he
   rw [hb] at this
   exact Nat.blt_eq.mp (by simpa using this)
  ·have:=List.all_eq_true.1 h4 i (List.mem_range.2 hi)
   simp only [hsi,Zzg,Bool.and_eq_true] at this
   refine ⟨this.1,fun hd hno=>?_⟩
   rw [hd] at this
   simp only [Bool.not_true,Bool.false_or,Bool.or_eq_true,Bool.and_eq_true] at this
   rcases this.2 with (hb|hb)|hb
   ·rw [ZvB,hb,Bool.true_or] at hno;cases hno
   ·exact hb
   ·rw [hb] at hno;cases hno
 ·cases h
theorem ZCD (hF:Zcv Pg F) {ef e:Env} {L:Nat->Bool} {g:G} {a:Act} {w:World} (hI:RInv F ss ef L g e a w) {j:Nat} {o:Oper} {s:SOp} (hj:L j=false) (ho:ops[j]? =some o) (hs:ss[j]? =some s)
  (hok:okOp Pg o s g.nt=true) (hg:Zll ops o s g.nt=true) (hind: ∀i t,i<j->L i=false->ss[i]? =some t->t.indep s=true) (hmk: ∀i t,i≠j->L i=false->ss[i]? =some t->ZpT t s=true)
  {K:Act->World->Prop} {Q:Exit->Act->World->Prop}
  (hK: ∀v w' g' e1 L',(∀i,L' i=(L i||i==j))->RInv F ss ef L' g' e1 (a.put o.dst v) w'->Ext g.T g.pr g.ow w w' g'.pr g'.ow->g'.ω=g.ω->g'.T=g.T->g'.nt=g.nt->K (a.put o.dst v) w'):wpOp Pg ops Q j K a w:=by
 obtain ⟨e2,hrun,hsame⟩:=hI.run
 let L':Nat->Bool:=fun i=>L i||i==j
 obtain ⟨pre,post,h1,h2,h3⟩:=ZtQ (L':=L') (fun _=>rfl) hj 0 ss (Nat.zero_le _) (by simpa using hs)
 rw [h1] at hrun
 obtain ⟨e1,e3,q1,q2,q3⟩:=Zqt (fun p hp=>by
  obtain ⟨m,_,m2,m3,m4⟩:=h3 p hp
  exact hind m p m2 m3 (by simpa using m4)) hrun
 refine ZyK hF hI.st ho hok hg (fun κ hκ=>hI.fresh j s κ hs hj hκ) q1 fun v w' g' hst hext hω hT hnt=>?_
 refine hK v w' g' e1 L' (fun _=>rfl) ⟨hst,⟨e3,by rw [h2];exact q2,hsame.trans q3⟩,fun i t κ ht hi hc=>?_⟩ hext hω hT hnt
 simp only [L',Bool.or_eq_false_iff,beq_eq_false_iff_ne] at hi
 obtain ⟨n1,n2⟩:=ZrB (hmk i t hi.2 hi.1 ht) hc
 unfold okOp at hok
 simp only [Bool.and_eq_true] at hok
 exact Zsf (hI.fresh i t κ ht hi.1 hc) q1 hok.1.1 hok.1.2 n1 n2
def Done (ef:Env) (g:G) (w:World) (Q:Act->World->Prop):Prop:=
 ∀g' a' w',St g' ef a' w'->Ext g.T g.pr g.ow w w' g'.pr g'.ow->g'.ω=g.ω->g'.T=g.T->g'.nt=g.nt->Q a' w'
theorem Done.next {ef:Env} {g g':G} {w w':World} {Q:Act->World->Prop} (h:Done ef g w Q) (hext:Ext g.T g.pr g.ow w w' g'.pr g'.ow) (hω:g'.ω=g.ω) (hT:g'.T=g.T) (hnt:g'.nt=g.nt):Done ef g' w' Q:=by
 intro g2 a2 w2 h1 h2 h3 h4 h5
 rw [hT] at h2
 exact h g2 a2 w2 h1 (hext.trans h2) (h3.trans hω) (h4.trans hT) (h5.trans hnt)
theorem St.same {g:G} {e e':Env} {a:Act} {w:World} (h:St g e a w) (hs:Same e e'):St g e' a w:=h.weaken fun k=> .inl (hs k).symm
theorem RInv.done {ef e:Env} {L:Nat->Bool} {g:G} {a:Act} {w:World} {Q:Act->World->Prop} (hI:RInv F ss ef L g e a w) (hall: ∀i,i<ss.length->L i=true) (hD:Done ef g w Q):Q a w:=by
 obtain ⟨e2,hrun,hsame⟩:=hI.run
 rw [Zvu 0 ss fun m _ hm=>hall m (by simpa using hm)] at hrun
 simp only [Zdo,Option.some.injEq] at hrun
 subst hrun
 exact hD g a w (hI.st.same hsame.symm) (Ext.refl _ _ _ _) rfl rfl rfl
theorem ZpG (hF:Zcv Pg F) {ef:Env} (hok:ZhT Pg ops ss nt draw=true) {Q:Exit->Act->World->Prop}: ∀(n k:Nat) {e:Env} {L:Nat->Bool} {g:G} {a:Act} {w:World},
   k+n=ops.size->g.nt=nt->(∀i,i<ops.size->L i=decide (i<k))->RInv F ss ef L g e a w->Done ef g w (Q .normal)->wpOps Pg ops Q (List.range' k n) a w:=by
 unfold ZhT at hok
 rw [Bool.and_eq_true,beq_iff_eq] at hok
 obtain ⟨hlen,hall⟩:=hok
 intro n
 induction n with
 | zero=>
   intro k e L g a w hk hnt hL hI hD
   exact hI.done (fun i hi=>by rw [hL i Zo];simp;omega) hD
 | succ n ih=>
   intro k e L g a w hk hnt hL hI hD
   rw [List.range'_succ,wpOps_cons]
   have:=List.all_eq_true.1 hall k (List.mem_range.2 Zo)
   obtain ⟨o,s,ho,hs,h1,h2,_,_⟩:=ZiG this
   subst hnt
   have hLn: ∀i t,L i=false->ss[i]? =some t->k<=i/\i<ops.size:=fun i t hi ht=>by
     have hlt:=Zaq ht
     rw [<-hlen] at hlt
     rw [hL i hlt] at hi
     exact ⟨by simpa using hi,hlt⟩
   refine ZCD hF hI (by rw [hL k Zo];simp) ho hs h1 h2 (fun i t hi hLi ht=>by have:=(hLn i t hLi ht).1;omega) (fun i t hi hLi ht=>?_) fun v w' g' e1 L' hL' hI' hext hω hT hnt=>?_
   · obtain ⟨q1,q2⟩:=hLn i t hLi ht
     obtain ⟨o',s',_,hs',_,_,_,hp⟩:=ZiG (List.all_eq_true.1 hall i (List.mem_range.2 q2))
     rw [hs'] at ht;cases ht
     exact (hp k s Zo hs).1
   · refine ih (k+1) Zo hnt (fun i hi=>?_) hI' (hD.next hext hω hT hnt)
     rw [hL' i,hL i hi]
     rw [Bool.eq_iff_iff]
     simp only [Bool.or_eq_true,decide_eq_true_eq,beq_iff_eq]
     omega
theorem Zt0 {l:List Bool} {i:Nat} (h:l[i]? =some false):(l.set i true).count false+1=l.count false:=by
 induction l generalizing i with
 | nil=>simp at h
 | cons b l ih=>
   cases i with
   | zero=>simp at h;subst h;simp
   | succ i=>
     have:=ih (by simpa using h)
     rw [List.set_cons_succ,List.count_cons,List.count_cons]
     omega
theorem Zmv (p:Nat->Bool): ∀n,(∃i,i<n/\p i=false)-> ∃i,i<n/\p i=false/\ ∀j,j<i->p j=true
 | 0,h=>by obtain ⟨i,hi,_⟩:=h;omega
 | n+1,h=>by
   by_cases hh: ∃i,i<n/\p i=false
   · obtain ⟨i,h1,h2,h3⟩:=Zmv p n hh
     exact ⟨i,by omega,h2,h3⟩
   · obtain ⟨i,hi,hp⟩:=h
     have:i=n:=by
       rcases Nat.lt_or_ge i n with h'|h'
       · exact absurd ⟨i,h',hp⟩ hh
       · omega
     subst this
     refine ⟨i,by omega,hp,fun j hj=>?_⟩
     cases hpj:p j with
     | true=>rfl
     | false=>exact absurd ⟨j,hj,hpj⟩ hh
theorem ZmG {o:Oper} {i:Nat} (h:ZuM o i=true): ∃e∈o.after,Region.binds .any e=true/\e.on=i:=by
 obtain ⟨e,he,hb⟩:=Array.any_eq_true'.1 h
 simp only [Bool.and_eq_true,beq_iff_eq] at hb
 exact ⟨e,he,hb.1,hb.2⟩
theorem ZpL {listed:Array Bool} (hcl: ∀(k:Nat) (o:Oper),ops[k]? =some o->listed.getD k false=true-> ∀e∈o.after,Region.binds .any e=true->listed.getD e.on false=true):
   ∀(n:Nat) (o:Oper) (i:Nat),(∀e∈o.after,Region.binds .any e=true->listed.getD e.on false=true)->ZvB ops n o i=true->listed.getD i false=true:=by
 intro n
 induction n with
 | zero=>
   intro o i hd h
   obtain ⟨e,he,hb,rfl⟩:=ZmG h
   exact hd e he hb
 | succ n ih=>
   intro o i hd h
   simp only [ZvB,Bool.or_eq_true] at h
   rcases h with h|h
   · obtain ⟨e,he,hb,rfl⟩:=ZmG h
     exact hd e he hb
   · obtain ⟨e,he,hb⟩:=Array.any_eq_true'.1 h
     rw [Bool.and_eq_true] at hb
     obtain ⟨hb,hr⟩:=hb
     split at hr
     · rename_i o' ho'
       exact ih o' i (hcl e.on o' ho' (hd e he hb)) hr
     · cases hr
theorem Zzw (hF:Zcv Pg F) {ef:Env} (hok:ZhT Pg ops ss nt true=true) {Q:Exit->Act->World->Prop}: ∀(fuel:Nat) (listed:Array Bool) {e:Env} {g:G} {a:Act} {w:World},
   listed.size=ops.size->(∀(k:Nat) (o:Oper),ops[k]? =some o->listed.getD k false=true-> ∀e∈o.after,Region.binds .any e=true->listed.getD e.on false=true)->listed.toList.count false<=fuel->g.nt=nt->RInv F ss ef (fun i=>listed.getD i true) g e a w->Done ef g w (Q .normal)->wpAny Pg .any ops Q fuel listed a w:=by
 unfold ZhT at hok
 rw [Bool.and_eq_true,beq_iff_eq] at hok
 obtain ⟨hlen,hall⟩:=hok
 have hat: ∀j,j<ops.size->okAt Pg ops ss nt true j=true:=fun j hj=>List.all_eq_true.1 hall j (List.mem_range.2 hj)
 have hend: ∀(listed:Array Bool),listed.size=ops.size->Region.ready .any ops listed=[]-> ∀i,i<ss.length->listed.getD i true=true:=fun listed hsz hr i hi=>by
   cases hh:listed.getD i true with
   | true=>rfl
   | false=>
     exfalso
     obtain ⟨j,j1,j2,j3⟩:=Zmv (fun i=>listed.getD i true) ops.size ⟨i,by omega,hh⟩
     obtain ⟨o,s,ho,hs,_,_,h3,_⟩:=ZiG (hat j j1)
     have:j∈Region.ready .any ops listed:=mem_ready.2 ⟨j2,o,ho,fun e he hb=>by
       have hlt:=h3 rfl e he hb
       have:=j3 _ hlt
       have hs:e.on<listed.size:=by omega
       simp only [Array.getD,hs,dif_pos] at this⊢
       exact this⟩
     rw [hr] at this;cases this
 intro fuel
 induction fuel with
 | zero=>
   intro listed e g a w hsz hcl hc hnt hI hD
   have hnone: ∀i,listed.getD i true=true:=fun i=>by
     simp only [Array.getD]
     split
     · rename_i hi
       cases hb:listed[i] with
       | true=>simp [hb]
       | false=>
         exfalso
         have:0<listed.toList.count false:=List.count_pos_iff.2 (by rw [<-hb];simp)
         omega
     · rfl
   refine ⟨?_,hI.done (fun i _=>hnone i) hD⟩
   refine List.eq_nil_iff_forall_not_mem.2 fun j hj=>?_
   have:=(mem_ready.1 hj).1
   rw [hnone j] at this;cases this
 | succ fuel ih=>
   intro listed e g a w hsz hcl hc hnt hI hD
   refine ⟨fun hr=>hI.done (hend listed hsz hr) hD,fun j hj=>?_⟩
   obtain ⟨hj0,o',ho',hdep⟩:=mem_ready.1 hj
   have hjs:j<ops.size:=(Array.getElem?_eq_some_iff.1 ho').1
   obtain ⟨o,s,ho,hs,h1,h2,h3,h4⟩:=ZiG (hat j hjs)
   have hoo:o'=o:=by rw [ho] at ho';exact (Option.some.inj ho').symm
   rw [hoo] at hdep
   subst hnt
   have hunb: ∀i,listed.getD i true=false->ZvB ops 4 o i=false:=fun i hi=>by
     cases hr:ZvB ops 4 o i with
     | false=>rfl
     | true=>
       exfalso
       have h5:=ZpL hcl 4 o i hdep hr
       simp only [Array.getD] at h5 hi
       split at hi
       · rename_i hlt
         rw [dif_pos hlt] at h5
         have h5':listed[i]=true:=h5
         have hi':listed[i]=false:=hi
         rw [hi'] at h5';cases h5'
       · cases hi
   refine ZCD hF hI hj0 ho hs h1 h2 (fun i t hi hLi ht=>((h4 i t hi ht).2 rfl (hunb i hLi)).1) (fun i t hi hLi ht=>?_) fun v w' g' e1 L' hL' hI' hext hω hT hnt=>?_
   · rcases Nat.lt_or_ge i j with hlt|hge
     · exact ((h4 i t hlt ht).2 rfl (hunb i hLi)).2
     · have hlt:=Zaq ht
       obtain ⟨o2,s2,_,hs2,_,_,_,hp⟩:=ZiG (hat i Zo)
       rw [hs2] at ht;cases ht
       exact (hp j s Zo hs).1
   · have hL:L'=fun i=>(listed.setIfInBounds j true).getD i true:=by
       funext i
       rw [hL' i]
       by_cases hij:j=i
       · subst hij
         simp [Array.getD]
       · rw [getD_set_ne true hij]
         have:(i==j)=false:=by simp;omega
         rw [this,Bool.or_false]
     rw [hL] at hI'
     refine ih _ (by simpa using hsz) (fun k o2 ho2 hk e he hb=>?_) ?_ hnt hI' (hD.next hext hω hT hnt)
     · refine getD_set_true ?_
       by_cases hkj:j=k
       · subst hkj
         rw [ho] at ho2;cases ho2
         exact hdep e he hb
       · rw [getD_set_ne false hkj] at hk
         exact hcl k o2 ho2 hk e he hb
     have hl:listed.toList[j]? =some false:=by
       simp only [Array.getD] at hj0
       split at hj0
       · rename_i hlt
         have:listed[j]=false:=hj0
         rw [<-this];simp
       · cases hj0
     rw [Array.toList_setIfInBounds]
     have:=Zt0 hl
     omega
end
end Go.Am
end
section
namespace Go.Am
variable [WI]
theorem Zmg {α:Type} {s:Nat}: ∀{rows:List (List α)} {m:Nat} {x:α},(∀(i:Nat) row,rows[i]? =some row->row.length=s)->rows.flatten[m]? =some x-> ∃i j row,m=i*s+j/\rows[i]? =some row/\row[j]? =some x
 | [],m,x,_,h=>by simp at h
 | r::rows,m,x,hl,h=>by
   have hr:r.length=s:=hl 0 r rfl
   rw [List.flatten_cons] at h
   rcases Nat.lt_or_ge m r.length with hm|hm
   · rw [List.getElem?_append_left hm] at h
     exact ⟨0,m,r,by omega,rfl,h⟩
   · rw [List.getElem?_append_right hm] at h
     obtain ⟨i,j,row,h1,h2,h3⟩:=Zmg (fun i row hi=>hl (i+1) row (by simpa using hi)) h
     exact ⟨i+1,j,row,by rw [Nat.add_mul];omega,by simpa using h2,h3⟩
theorem Zgd {α:Type} {s:Nat}: ∀{rows:List (List α)},(∀(i:Nat) row,rows[i]? =some row->row.length=s)->rows.flatten.length=rows.length*s
 | [],_=>by simp
 | r::rows,hl=>by
   have hr:r.length=s:=hl 0 r rfl
   have:=Zgd (s:=s) (rows:=rows) (fun i row hi=>hl (i+1) row (by simpa using hi))
   rw [List.flatten_cons,List.length_append,this,hr,List.length_cons,Nat.add_mul];omega
theorem Zf3 (s:Nat): ∀(n:Nat) (l:List P),(Zo0 s n l).length=n
 | 0,_=>rfl
 | n+1,l=>by simp [Zo0,Zf3 s n]
theorem Zqh (s:Nat): ∀(n:Nat) (l:List P) (i:Nat) row,l.length=n*s->(Zo0 s n l)[i]? =some row->row.length=s/\ ∀j,j<s->row[j]? =l[i*s+j]?
 | 0,l,i,row,_,h=>by simp [Zo0] at h
 | n+1,l,i,row,hl,h=>by
   have hl':l.length=n*s+s:=by rw [hl,Nat.add_mul,Nat.one_mul]
   cases i with
   | zero=>
     simp only [Zo0,List.getElem?_cons_zero,Option.some.injEq] at h
     subst h
     exact ⟨by simp;omega,fun j hj=>by rw [List.getElem?_take,if_pos hj];simp⟩
   | succ i=>
     simp only [Zo0,List.getElem?_cons_succ] at h
     obtain ⟨h1,h2⟩:=Zqh s n (l.drop s) i row Ze h
     refine ⟨h1,fun j hj=>?_⟩
     rw [h2 j hj,List.getElem?_drop]
     congr 1;rw [Nat.add_mul];omega
section
variable {g:G} {e:Env} {a:Act} {w:World}
theorem Zpt {k:Nat} (hk:ZrT k=true):k≠OBJS:=fun hh=>by
 subst hh
 simp only [ZrT,Bool.or_eq_true] at hk
 rcases hk with hk|hk
 ·have:=Nat.blt_eq.mp hk;unfold OBJS Zu0 at this;omega
 ·have:=Nat.le_of_ble_eq_true hk;unfold OBJS BOX at this;omega
theorem ZvM (h:St g e a w) {k i:Nat} (hk:ZrT k=true) {x:A} {c0:C} (hx:e.get k= .a x) (hc:x.cells[i]? =some c0) (hmc: ∀es,c0≠ .mapc es) (hml: ∀es,c0≠ .mapl es): ∃u,RepC g w (k,0,i) u c0/\ ∀(g':G) (e':Env) (c:C),e'.get k= .a (x.setCell i c)->
   (∀(j:Nat) u y,j≠i->x.cells[j]? =some y->RepC g w (k,0,j) u y->RepC g' w (k,0,j) u y)->RepC g' w (k,0,i) u c->
   (BOX<=k->g'.β k=g.β k/\g'.pr (g.β k)=g.pr (g.β k)/\g'.ow (g.β k)=g.ow (g.β k))->KeyOK g' e' a w k:=by
 have hil:=Zaq hc
 have hgen: ∀(vs:List Value),RepCells g w k 0 vs x.cells-> ∃u,RepC g w (k,0,i) u c0/\ ∀(g':G) (c:C),(∀(j:Nat) u y,j≠i->x.cells[j]? =some y->RepC g w (k,0,j) u y->RepC g' w (k,0,j) u y)->RepC g' w (k,0,i) u c->RepCells g' w k 0 vs (x.cells.set i c):=fun vs hr=>by
   have hv:vs[i]? =some (vs[i]'(by rw [hr.1];exact hil)):=List.getElem?_eq_getElem _
   refine ⟨_,hr.2 i _ c0 hv hc,fun g' c hold hnew=>⟨by rw [List.length_set];exact hr.1,fun j u y hu hy=>?_⟩⟩
   by_cases hj:i=j
   · subst hj
     rw [List.getElem?_set_self hil] at hy
     cases hy
     rw [hv] at hu;cases hu;exact hnew
   · rw [List.getElem?_set_ne hj] at hy
     exact hold j u y (Ne.symm hj) hy (hr.2 j u y hu hy)
 simp only [ZrT,Bool.or_eq_true] at hk
 rcases hk with hk|hk
 · have hk:=Nat.blt_eq.mp hk
   have hkO:k<OBJS:=by unfold Zu0 at hk;unfold OBJS;omega
   have hr:=(h.key k).tm hkO
   rw [hx] at hr
   cases x with
   | one y=>
     cases i with
     | zero=>
       simp [A.cells] at hc;subst hc
       refine ⟨_,hr,fun g' e' c hx' _ hnew _=> .tmp hkO ?_⟩
       rw [hx'];exact hnew
     | succ i=>simp [A.cells] at hc
   | agg cs=>
     obtain ⟨vs,hv,hcs⟩:=hr
     obtain ⟨u,h1,h2⟩:=hgen _ hcs
     refine ⟨u,h1,fun g' e' c hx' hold hnew _=> .tmp hkO ?_⟩
     rw [hx'];exact ⟨vs,hv,h2 g' c hold hnew⟩
 · have hk:=Nat.le_of_ble_eq_true hk
   rcases h.box k hk with h1|⟨cs,h1⟩
   · rw [h1] at hx;cases hx
   · have hx1:=hx
     rw [h1] at hx1;cases hx1
     obtain ⟨vs,t,hb,⟨hl,hr⟩,hp,ho⟩:=((h.key k).bx hk cs h1).cells (ZOk hc hmc hml)
     obtain ⟨u,q1,q2⟩:=hgen _ hr
     refine ⟨u,q1,fun g' e' c hx' hold hnew hβ=> .box hk fun cs' hcs'=>?_⟩
     rw [hx'] at hcs'
     simp only [A.setCell,D.a.injEq,A.agg.injEq] at hcs'
     subst hcs'
     obtain ⟨b1,b2,b3⟩:=hβ hk
     have:=q2 g' c hold hnew
     rw [b1]
     exact .inr ⟨vs,t,hb,⟨by rw [List.length_set];exact hl,by rw [List.length_set];exact this⟩,b2.trans hp,b3.trans ho⟩
theorem ZjO {k:Nat} (h:St g e a w) (hk:BOX<=k) {x:A} {i:Nat} {c:C} (hx:e.get k= .a x): ∃cs,D.a (x.setCell i c)= .a (.agg cs):=by
 rcases h.box k hk with h1|⟨cs,h1⟩
 ·rw [h1] at hx;cases hx
 ·rw [h1] at hx;cases hx;exact ⟨_,rfl⟩
def Zxq (g:G) (a:Act) (w:World) (e':Env):Prop:= ∃g',St g' e' a w/\Ext g.T g.pr g.ow w w g'.pr g'.ow/\g'.ω=g.ω/\g'.T=g.T/\g'.nt=g.nt
theorem Zgr (h:St g e a w):Zxq g a w e:=⟨g,h,Ext.refl _ _ _ _,rfl,rfl,rfl⟩
theorem ZBZ (h:St g e a w) (k i:Nat):Zxq g a w (doGh (.pub k i) e):=by
 simp only [doGh]
 split
 ·rename_i hk
  unfold pubG
  split
  ·rename_i x hx
   split
   ·rename_i s rows hc
    obtain ⟨u,⟨ad,cap,hu,hh⟩,hset⟩:=ZvM h hk hx hc (by intro _ hh;cases hh) (by intro _ hh;cases hh)
    have hkO:=Zpt hk
    have hgen: ∀g':G,Ext g.T g.pr g.ow w w g'.pr g'.ow->ZnQ g'.pr g'.ow w->g'.ω=g.ω->g'.T=g.T->g'.nt=g.nt->g'.β=g.β->(∀k' c i',(k',c,i')≠(k,0,i)->Ze3 g g' w w (k',c,i') (k',c,i'))->
      (∀b,g.ow b=none->g'.pr b=g.pr b/\g'.ow b=g.ow b)->(∀b,g.pr b<=g'.pr b)->RepC g' w (k,0,i) u (.tip s rows)->Zxq g a w (e.set k (.a (x.setCell i (.tip s rows)))):=fun g' hext hfr hω hT hnt hβ how hb hple hnew=>by
     refine ⟨g',?_,hext,hω,hT,hnt⟩
     refine h.gen [k] (fun b=>g.ow b=none) hext hfr hω hT hnt h.df rfl (fun k' hn=>Env.get_set_ne _ _ (by simp at hn;omega)) (fun _ _ _=>rfl) (fun k' hn c i'=>how k' c i' (by simp at hn;simp [hn])) (fun κ=> .inl (by rw [hβ])) (fun b hn=>⟨rfl,hb b hn⟩)
      (fun κ _ hκ hl=>(Zb7 h hκ hl).2.2) (fun _ os i' ho hi=>(Ze2 h ho hi).2.2) (fun k' hm=>?_) (fun κ hm hκ=>?_) (fun hm=>?_) (fun κ hm hκ hl=>?_)
     ·simp at hm;subst hm
      refine hset g' _ _ (Env.get_set_same _ _ _) (fun j u y hj hy hr=>?_) hnew (fun hkb=>?_)
      ·exact hr.mono hext hple (how _ _ _ (by simp [hj])) (fun _ h=>by rw [hT];exact h) (fun r _=>by unfold R.val;rw [hβ,hω])
      ·rw [hβ];exact ⟨rfl,hb _ (Zb7 h hkb (by rw [hx];simp)).2.2⟩
     ·simp at hm;subst hm
      rw [Env.get_set_same];exact .inr (ZjO h hκ hx)
     ·simp at hm;exact absurd hm.symm hkO
     ·simp at hm;subst hm;exact .inl ⟨by rw [hx];simp,by rw [hβ]⟩
    rcases hh with ⟨ha,hr,hcap⟩|⟨b,cs,t,ha,hl,hpr,how,hTb,hb,hsz,hrows⟩
    ·refine hgen g (Ext.refl _ _ _ _) h.fr rfl rfl rfl rfl (fun _ _ _ _ b hb=>⟨hb,rfl,rfl⟩) (fun _ _=>⟨rfl,rfl⟩) (fun _=>Nat.le_refl _) ?_
     subst hr;rw [hu];exact ⟨RepP.nils _ _ _,ad,cap,rfl,.inl (by simp [hcap])⟩
    ·let g':G:={g with pr:=fun b'=>if b'=b then rows.length*s else g.pr b'}
     have hpb:g'.pr b=rows.length*s:=by simp [g']
     have hpn: ∀b',b'≠b->g'.pr b'=g.pr b':=fun b' hn=>by simp [g',hn]
     have hple: ∀b',g.pr b'<=g'.pr b':=fun b'=>by
      by_cases hbb:b'=b
      ·subst hbb;rw [hpr];exact Nat.zero_le _
      ·rw [hpn b' hbb];exact Nat.le_refl _
     have hext:Ext g.T g.pr g.ow w w g'.pr g'.ow:=
      ⟨rfl,rfl,rfl,Nat.le_refl _,fun b' o ho=>⟨o,ho,SameObj.refl _ _⟩,fun b' _=>hple b',fun b' _ hn _=>⟨hpn b' (fun hh=>by rw [hh,how] at hn;cases hn),hn⟩,fun _ _ _ _=>rfl⟩
     refine hgen g' hext (fun b' hb'=>⟨by rw [hpn b' (fun hh=>by have:=ZaB hb;omega)];exact (h.fr b' hb').1,(h.fr b' hb').2⟩) rfl rfl rfl rfl (fun k' c i' hne b' hb'=>⟨hb',hpn b' (fun hh=>?_),rfl⟩) (fun b' hn=>⟨hpn b' (fun hh=>by rw [hh,how] at hn;cases hn),rfl⟩) hple ?_
     ·rw [hh,how] at hb'
      exact hne (Option.some.inj hb').symm
     ·rw [hu,ha]
      refine ⟨ZgD rfl hl (by rw [hpb];omega) (fun i row hi=>(hrows i row hi).1) fun i row j x hi hj=>?_,some ⟨b,0,none⟩,cap,rfl,.inr ⟨b,0,rfl,hl,by rw [hpb];omega,how,cs,t,hb,by simpa using hsz⟩⟩
      obtain ⟨v,hv1,hv2⟩:=(hrows i row hi).2 j x hj
      exact ⟨v,by rw [ZG6 hb,Nat.zero_add];exact hv1,hv2.mono hext.keeps hple⟩
   ·exact Zgr h
  ·exact Zgr h
 ·exact Zgr h
theorem ZtL (κ:Nat) (e:Env):(∀k,(e.kill κ).get k=e.get k∨(e.kill κ).get k= .undef)/\ZlQ (e.kill κ) κ:=by
 have h0: ∀(e:Env) k,(e.kill κ).get k=if k=κ∨(e.get k).ment κ=true then .undef else e.get k:=by
   intro e k
   induction e with
   | nil=>simp only [Env.kill,Env.get];exact (ite_self _).symm
   | cons q r ih=>
     obtain ⟨k',d⟩:=q
     simp only [Env.kill,Env.get]
     by_cases h:k'=k
     · subst h;simp
     · simp only [beq_iff_eq,h,if_false];exact ih
 refine ⟨fun k=>?_,by rw [h0,if_pos (.inl rfl)],fun k=>?_⟩
 · rw [h0];split
   · exact .inr rfl
   · exact .inl rfl
 · rw [h0];split
   · rfl
   · rename_i hh;rw [not_or] at hh;simpa using hh.2
theorem Zzd (h:St g e a w) (k i κ s:Nat):Zxq g a w (doGh (.thaw k i κ s) e):=by
 simp only [doGh]
 split
 · rename_i hc0
   simp only [Bool.and_eq_true,bne_iff_ne,Nat.ble_eq] at hc0
   obtain ⟨⟨hk,hκ⟩,hne⟩:=hc0
   obtain ⟨k1,hno⟩:=ZtL κ e
   have h:=h.weaken k1
   generalize e.kill κ=e at h hno
   have hkO:=Zpt hk
   have hκO:κ≠OBJS:=by have:=Zau;omega
   unfold Zpk
   split
   · rename_i x hx
     split
     · rename_i s' r rows hc
       split
       · rename_i hs
         simp only [Bool.and_eq_true,beq_iff_eq,Nat.blt_eq] at hs
         obtain ⟨rfl,hs0⟩:=hs
         obtain ⟨u,⟨ad,cap,hu,hh⟩,hset⟩:=ZvM h hk hx hc (by intro _ hh;cases hh) (by intro _ hh;cases hh)
         rcases hh with ⟨_,hr,_⟩|⟨b,cs,t,ha,hl,hpr,how,hTb,hb,hsz,hrows⟩
         · cases hr
         let g':G:={g with β:=fun κ'=>if κ'=κ then b else g.β κ',ow:=fun b'=>if b'=b then none else g.ow b'}
         have hβκ:g'.β κ=b:=by simp [g']
         have hβn: ∀κ',κ'≠κ->g'.β κ'=g.β κ':=fun κ' hn=>by simp [g',hn]
         have hown: ∀b',b'≠b->g'.ow b'=g.ow b':=fun b' hn=>by simp [g',hn]
         have howb:g'.ow b=none:=by simp [g']
         have hext:Ext g.T g.pr g.ow w w g'.pr g'.ow:=
           ⟨rfl,rfl,rfl,Nat.le_refl _,fun b' o ho=>⟨o,ho,SameObj.refl _ _⟩,fun b' _=>Nat.le_refl _,fun b' _ hn _=>⟨rfl,by rw [hown b' (fun hh=>by rw [hh,how] at hn;cases hn)];exact hn⟩,fun _ _ _ _=>rfl⟩
         have hnb: ∀b',g.ow b'=none->b'≠b:=fun b' hn hh=>by rw [hh,how] at hn;cases hn
         have howk: ∀k' c i',(k',c,i')≠(k,0,i)->Ze3 g g' w w (k',c,i') (k',c,i'):=fun k' c i' hne b' hb'=>by
           have hbb:b'≠b:=fun hh=>by
             rw [hh,how] at hb'
             exact hne (Option.some.inj hb').symm
           exact ⟨by rw [hown b' hbb];exact hb',rfl,rfl⟩
         have hrl: ∀(i:Nat) row,(r::rows)[i]? =some row->row.length=s':=fun i row hi=>(hrows i row hi).1
         have hnk:(e.get k).ment κ=false:=hno.2 k
         refine ⟨g',?_,hext,rfl,rfl,rfl⟩
         have hget: ∀k',((e.set k (.a (x.setCell i (.own ⟨true,κ,0⟩ s' (rows.length+1))))).set κ (.a (.agg ((r::rows).flatten.map .p)))).get k'=if k'=κ then .a (.agg ((r::rows).flatten.map .p)) else if k'=k then .a (x.setCell i (.own ⟨true,κ,0⟩ s' (rows.length+1))) else e.get k':=fun k'=>by
           rw [Env.get_set]
           by_cases h1:κ=k'
           · subst h1;simp
           · rw [if_neg h1,if_neg (Ne.symm h1),Env.get_set]
             by_cases h2:k=k'
             · subst h2;simp
             · rw [if_neg h2,if_neg (Ne.symm h2)]
         refine h.gen [k,κ] (fun b'=>g.ow b'=none) hext (fun b' hb'=>?_) rfl rfl rfl h.df rfl (fun k' hn=>?_) (fun _ _ _=>rfl) (fun k' hn c i'=>howk k' c i' (by simp at hn;simp [hn])) (fun κ'=>?_) (fun b' hn=>⟨rfl,rfl,by rw [hown b' (hnb b' hn)]⟩)
           (fun κ' _ hκ' hl=>(Zb7 h hκ' hl).2.2) (fun _ os i' ho hi=>(Ze2 h ho hi).2.2) (fun k' hm=>?_) (fun κ' hm hκ'=>?_) (fun hm=>?_) (fun κ' hm hκ' hl=>?_)
         · obtain ⟨f1,f2⟩:=h.fr b' hb'
           exact ⟨f1,by rw [hown b' (hnb b' f2)];exact f2⟩
         · simp at hn;rw [hget,if_neg hn.2,if_neg hn.1]
         · by_cases hh:κ'=κ
           · subst hh;exact .inr ⟨hno.1,fun k' _=>hno.2 k'⟩
           · exact .inl (hβn κ' hh)
         · simp at hm
           rcases hm with rfl|rfl
           · refine hset g' _ _ (by rw [hget,if_neg hne,if_pos rfl]) (fun j u y hj hy hr=>?_) ?_ (fun hkb=>?_)
             · refine hr.mono hext (fun _=>Nat.le_refl _) (howk _ _ _ (by simp [hj])) (fun _ h=>h) (fun r' hr'=>?_)
               unfold R.val
               cases hown':r'.own with
               | false=>rfl
               | true=>
                 simp only [if_true]
                 rw [hβn]
                 intro hh
                 have hm:y.ment κ=true:=by
                   cases y with
                   | ref q=>simp only at hr';subst hr';simp [C.ment,hown',hh]
                   | own q s n=>simp only at hr';subst hr';simp [C.ment,hown',hh]
                   | mptr q=>simp only at hr';subst hr';simp [C.ment,hown',hh]
                   | closs f q=>simp only at hr';subst hr';simp [C.ment,hown',hh]
                   | map q es=>simp only at hr';subst hr';simp [C.ment,hown',hh]
                   | clo f p q=>
                     simp only at hr'
                     simp only [C.ment,Bool.or_eq_true,List.any_eq_true]
                     rcases hr' with hr'|hr'
                     · exact .inl ⟨r',hr',by simp [hown',hh]⟩
                     · exact .inr ⟨r',hr',by simp [hown',hh]⟩
                   | _=>exact hr'.elim
                 have:x.ment κ=true:=List.any_eq_true.2 ⟨y,List.mem_of_getElem? hy,hm⟩
                 rw [hx] at hnk
                 simp only [D.ment] at hnk
                 rw [this] at hnk;cases hnk
             · refine ⟨cap,by rw [hu,ha];simp [hβκ],by simpa using hl,cs,t,by simp only [if_true];rw [hβκ];exact hb,by simpa using hsz⟩
             · refine ⟨hβn _ hne,rfl,hown _ (hnb _ (Zb7 h hkb (by rw [hx];simp)).2.2)⟩
           · refine .box hκ fun cs' hcs'=>?_
             rw [hget,if_pos rfl] at hcs'
             cases hcs'
             rw [hβκ]
             refine .inr ⟨cs,t,hb,⟨?_,?_,fun m u' y hu' hy=>?_⟩,hpr,howb⟩
             · rw [List.length_map,Zgd hrl]
               exact Nat.le_trans (Nat.mul_le_mul_right _ hl) hsz
             · rw [List.length_map,List.length_take,Zgd hrl]
               have:(r::rows).length*s'<=cs.size:=Nat.le_trans (Nat.mul_le_mul_right _ hl) hsz
               exact Nat.min_eq_left (by simpa using this)
             · rw [List.getElem?_map] at hy
               cases hz:(r::rows).flatten[m]? with
               | none=>rw [hz] at hy;cases hy
               | some z=>
                 rw [hz] at hy;cases hy
                 obtain ⟨i',j',row,q1,q2,q3⟩:=Zmg hrl hz
                 obtain ⟨v,hv1,hv2⟩:=(hrows i' row q2).2 j' z q3
                 rw [List.getElem?_take] at hu'
                 split at hu'
                 · have:u'=v:=by
                     rw [q1,Array.getElem?_toList,hv1] at hu'
                     exact (Option.some.inj hu').symm
                   rw [this];exact hv2
                 · cases hu'
         · simp at hm
           rcases hm with rfl|rfl
           · rw [hget,if_neg hne,if_pos rfl];exact .inr (ZjO h hκ' hx)
           · rw [hget,if_pos rfl];exact .inr ⟨_,rfl⟩
         · simp at hm
           rcases hm with hh|hh
           · exact absurd hh.symm hkO
           · exact absurd hh.symm hκO
         · simp at hm
           rcases hm with rfl|rfl
           · exact .inl ⟨by rw [hx];simp,hβn _ hne⟩
           · refine .inr ⟨.inr ⟨by rw [hβκ,how];simp,by rw [hβκ];exact hTb⟩,fun κ'' hm hκ'' hl'' hh=>?_⟩
             simp at hm
             rcases hm with rfl|rfl
             · rw [hβκ,hβn _ hne] at hh
               have:=(Zb7 h hκ'' (by rw [hx];simp)).2.2
               rw [hh,how] at this;cases this
             · rfl
       · exact Zgr h
     · exact Zgr h
   · exact Zgr h
 · exact Zgr h
theorem Zym (h:St g e a w) (k i κ s:Nat):Zxq g a w (doGh (.shut k i κ s) e):=by
 simp only [doGh]
 split
 ·rename_i hc0
  simp only [Bool.and_eq_true,bne_iff_ne,Nat.ble_eq] at hc0
  obtain ⟨⟨hk,hκ⟩,hne⟩:=hc0
  have hkO:=Zpt hk
  have hκO:κ≠OBJS:=by have:=Zau;omega
  unfold Zqs
  split
  ·rename_i x csb hx hbx
   split
   ·rename_i κ' s' n hc
    split
    ·rename_i hcc
     simp only [Bool.and_eq_true,beq_iff_eq,Nat.ble_eq] at hcc
     obtain ⟨⟨rfl,rfl⟩,hle⟩:=hcc
     split
     ·rename_i ps hps
      obtain ⟨u,⟨cap,hu,hncap,cs0,t0,hb0,hsz0⟩,hset⟩:=ZvM h hk hx hc (by intro _ hh;cases hh) (by intro _ hh;cases hh)
      simp only [if_true,Nat.zero_add] at hu hb0 hsz0
      obtain ⟨vs,t,hb,⟨hl,hr⟩,hpr,how⟩:=((h.key κ').bx hκ csb hbx).cells_at hb0
      rw [hb0] at hb
      cases hb
      have hlive:e.get κ'≠ .undef:=by rw [hbx];simp
      have hT:=h.tb κ' hκ hlive
      let g':G:={g with ow:=fun b'=>if b'=g.β κ' then some (k,0,i) else g.ow b'}
      have hown: ∀b',b'≠g.β κ'->g'.ow b'=g.ow b':=fun b' hn=>by simp [g',hn]
      have howb:g'.ow (g.β κ')=some (k,0,i):=by simp [g']
      have hext:Ext g.T g.pr g.ow w w g'.pr g'.ow:=
       ⟨rfl,rfl,rfl,Nat.le_refl _,fun b' o ho=>⟨o,ho,SameObj.refl _ _⟩,fun b' _=>Nat.le_refl _,fun b' _ hn hnT=>⟨rfl,by rw [hown b' (fun hh=>by rw [hh] at hnT;exact hnT hT)];exact hn⟩,fun _ _ _ _=>rfl⟩
      have howk: ∀ℓ,Ze3 g g' w w ℓ ℓ:=fun ℓ b' hb'=>⟨by rw [hown b' (fun hh=>by rw [hh,how] at hb';cases hb')];exact hb',rfl,rfl⟩
      have hget: ∀(d:D) k',((e.set κ' .undef).set k d).get k'=if k'=k then d else if k'=κ' then .undef else e.get k':=fun d k'=>by
       rw [Env.get_set]
       by_cases h1:k=k'
       ·subst h1;simp
       ·rw [if_neg h1,if_neg (Ne.symm h1),Env.get_set]
        by_cases h2:κ'=k'
        ·subst h2;simp
        ·rw [if_neg h2,if_neg (Ne.symm h2)]
      refine ⟨g',?_,hext,rfl,rfl,rfl⟩
      refine h.gen [k,κ'] (fun b'=>b'≠g.β κ') hext (fun b' hb'=>?_) rfl rfl rfl h.df rfl (fun k' hn=>?_) (fun _ _ _=>rfl) (fun k' hn c i'=>howk _) (fun _=> .inl rfl) (fun b' hn=>⟨rfl,rfl,hown b' hn⟩)
       (fun κ'' hn hκ'' hl hh=>?_) (fun _ os i' ho hi hh=>?_) (fun k' hm=>?_) (fun κ'' hm hκ''=>?_) (fun hm=>?_) (fun κ'' hm hκ'' hl=>?_)
      ·obtain ⟨f1,f2⟩:=h.fr b' hb'
       exact ⟨f1,by rw [hown b' (fun hh=>by have:=ZaB hb0;omega)];exact f2⟩
      ·simp at hn;rw [hget,if_neg hn.1,if_neg hn.2]
      ·have:=h.db κ'' κ' hκ'' hκ hl hlive hh
       exact hn (by simp [this])
      ·exact h.dbo κ' os i' hκ hlive ho hi hh.symm
      ·simp at hm
       rcases hm with rfl|rfl
       ·refine hset g' _ _ (by rw [hget,if_pos rfl]) (fun j u y hj hy hr=>hr.mono hext (fun _=>Nat.le_refl _) (howk _) (fun _ h=>h) (fun _ _=>rfl)) ?_ (fun hkb=>⟨rfl,rfl,hown _ (fun hh=>?_)⟩)
        ·obtain ⟨p1,p2⟩:=Zo5 (g:=g) (w:=w) (k:=κ') (c:=0) (vs:=(cs0.toList.take (n*s'))) hps (by
          refine ⟨by simp;omega,fun m u y hu hy=>?_⟩
          have hm:m<n*s':=by have:=Zaq hy;simp at this;omega
          rw [List.getElem?_take,if_pos hm] at hu hy
          refine hr.2 m u y ?_ hy
          rw [List.getElem?_take,if_pos Zo];exact hu)
         have hpl:ps.length=n*s':=by rw [p1];simp;omega
         refine ⟨some ⟨g.β κ',0,none⟩,cap,by rw [hu,Zf3],.inr ⟨g.β κ',cs0,t0,rfl,by rw [Zf3];exact hncap,hpr,howb,hT,hb0,hsz0,fun i' row hi'=>?_⟩⟩
         obtain ⟨c1,c2⟩:=Zqh s' n ps i' row hpl hi'
         refine ⟨c1,fun j z hj=>?_⟩
         have hj':j<s':=by have:=Zaq hj;omega
         have hi'':i'<n:=by have:=Zaq hi';rw [Zf3] at this;exact this
         have hlt:=ZdS hi'' hj'
         rw [c2 j hj'] at hj
         have hvi:i'*s'+j<cs0.size:=by omega
         have hv:(cs0.toList.take (n*s'))[i'*s'+j]? =some cs0[i'*s'+j]:=by
          rw [List.getElem?_take,if_pos hlt];simp [hvi]
         exact ⟨cs0[i'*s'+j],by simp [hvi],p2 _ _ z hv hj⟩
        ·have:=h.db k' κ' hkb hκ (by rw [hx];simp) hlive hh
         exact hne this
       ·refine .box hκ fun cs' hcs'=>?_
        rw [hget,if_neg (Ne.symm hne),if_pos rfl] at hcs';cases hcs'
      ·simp at hm
       rcases hm with rfl|rfl
       ·rw [hget,if_pos rfl];exact .inr (ZjO h hκ'' hx)
       ·rw [hget,if_neg (Ne.symm hne),if_pos rfl];exact .inl rfl
      ·simp at hm
       rcases hm with hh|hh
       ·exact absurd hh.symm hkO
       ·exact absurd hh.symm hκO
      ·simp at hm
       rcases hm with rfl|rfl
       ·exact .inl ⟨by rw [hx];simp,rfl⟩
       ·rw [hget,if_neg (Ne.symm hne),if_pos rfl] at hl;exact absurd rfl hl
     ·exact Zgr h
    ·exact Zgr h
   ·exact Zgr h
  ·exact Zgr h
 ·exact Zgr h
theorem ZyG (h:St g e a w) (gh:Gh):Zxq g a w (doGh gh e):=by
 cases gh with
 | thaw k i κ s=>exact Zzd h k i κ s
 | shut k i κ s=>exact Zym h k i κ s
 | pub k i=>exact ZBZ h k i
end
end Go.Am
end
