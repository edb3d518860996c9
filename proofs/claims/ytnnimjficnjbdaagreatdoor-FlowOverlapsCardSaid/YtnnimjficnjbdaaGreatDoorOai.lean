/- Part. -/
import Derived.Test.YtnnimjficnjbdaaGreatDoorOah
import Derived.Calls
set_option maxRecDepth 999999
set_option maxHeartbeats 0
set_option linter.all false
section
namespace Go.Am
theorem Env.get_set (e:Env) (k k':Nat) (d:D):(e.set k d).get k'=if k=k' then d else e.get k':=by
 simp [Env.set,Env.get]
theorem Env.get_set_same (e:Env) (k:Nat) (d:D):(e.set k d).get k=d:=by simp [Env.get_set]
theorem Env.get_set_ne (e:Env) {k k':Nat} (d:D) (h:k≠k'):(e.set k d).get k'=e.get k':=by simp [Env.get_set,h]
theorem Env.get_norm (e:Env) (live:List Nat) (k:Nat):(e.norm live).get k=e.get k∨(e.norm live).get k= .undef:=by
 induction live with
 | nil=>exact .inr rfl
 | cons x r ih=>
   simp only [Env.norm,List.map_cons,Env.get]
   by_cases h:x=k
   · subst h;simp
   · simp only [beq_iff_eq,h,if_false];exact ih
structure KeyOK (g:G) (e:Env) (a:Act) (w:World) (k:Nat):Prop where
 tm:k<OBJS->RepD g w k (a.tmps.getD k undef) (e.get k)
 bx:BOX<=k-> ∀cs,e.get k= .a (.agg cs)->Box g w (g.β k) k 0 cs
 ob:k=OBJS-> ∀os,e.get OBJS= .objs os-> ∀(i:Nat) cs,os[i]? =some cs->Box g w (g.ω i) OBJS i cs
structure St [WI] (g:G) (e:Env) (a:Act) (w:World):Prop where
 key: ∀k,KeyOK g e a w k
 box: ∀κ,BOX<=κ->e.get κ= .undef∨ ∃cs,e.get κ= .a (.agg cs)
 obj:e.get OBJS= .undef∨ ∃os,e.get OBJS= .objs os
 db: ∀κ κ',BOX<=κ->BOX<=κ'->e.get κ≠ .undef->e.get κ'≠ .undef->g.β κ=g.β κ'->κ=κ'
 dbo: ∀κ os i,BOX<=κ->e.get κ≠ .undef->e.get OBJS= .objs os->i<os.length->g.β κ≠g.ω i
 dob: ∀os i j,e.get OBJS= .objs os->i<os.length->j<os.length->g.ω i=g.ω j->i=j
 fr:ZnQ g.pr g.ow w
 wi:WI.I g.pr w
 df:a.defers=[]
 sz:g.nt<=a.tmps.size
 tb: ∀κ,BOX<=κ->e.get κ≠ .undef->g.T (g.β κ)
 to: ∀os i,e.get OBJS= .objs os->i<os.length->g.T (g.ω i)
 tf: ∀b,w.heap.size<=b->g.T b
 nt:g.nt<=OBJS
theorem St.weaken [WI] {g:G} {e e':Env} {a:Act} {w:World} (h:St g e a w) (he: ∀k,e'.get k=e.get k∨e'.get k= .undef):St g e' a w:=by
 have keep: ∀k d,e'.get k=d->d≠ .undef->e.get k=d:=fun k d hd hn=>by
  rcases he k with h'|h'
  ·rw [<-h'];exact hd
  ·rw [h'] at hd;exact absurd hd.symm hn
 refine ⟨fun k=>⟨fun hk=>?_,fun hk cs hc=>(h.key k).bx hk cs (keep _ _ hc Zs),fun hk os ho=>(h.key k).ob hk os (keep _ _ ho Zs)⟩,fun κ hκ=>?_,?_,fun κ κ' h1 h2 h3 h4=>?_,fun κ os i h1 h2 h3=>?_,fun os i j h1=>h.dob os i j (keep _ _ h1 Zs),h.fr,h.wi,h.df,h.sz,fun κ h1 h2=>h.tb κ h1 (by rw [keep _ _ rfl h2];exact h2),fun os i h1=>h.to os i (keep _ _ h1 Zs),h.tf,h.nt⟩
 ·rcases he k with h'|h'
  ·rw [h'];exact (h.key k).tm hk
  ·rw [h'];exact True.intro
 ·rcases he κ with h'|h'
  ·rw [h'];exact h.box κ hκ
  ·exact .inl h'
 ·rcases he OBJS with h'|h'
  ·rw [h'];exact h.obj
  ·exact .inl h'
 ·exact h.db κ κ' h1 h2 (by rw [keep _ _ rfl h3];exact h3) (by rw [keep _ _ rfl h4];exact h4)
 ·exact h.dbo κ os i h1 (by rw [keep _ _ rfl h2];exact h2) (keep _ _ h3 Zs)
theorem RepCells.mono {g g':G} {w w':World} {k c k' c':Nat} {vs:List Value} {cs:List C} (h:RepCells g w k c vs cs) (he:Ext g.T g.pr g.ow w w' g'.pr g'.ow) (hp: ∀b,g.pr b<=g'.pr b)
   (ho: ∀i,Ze3 g g' w w' (k,c,i) (k',c',i)) (hT: ∀b,g.T b->g'.T b) (hr: ∀r:R,(r.own=true->cs.any (C.ment r.k)=true)->r.val g'=r.val g):RepCells g' w' k' c' vs cs:=by
 refine ⟨h.1,fun i u x hu hx=>(h.2 i u x hu hx).mono he hp (ho i) hT fun r hm=>hr r fun hown=>?_⟩
 refine List.any_eq_true.2 ⟨x,List.mem_of_getElem? hx,?_⟩
 cases x with
 | ref r'=>simp only at hm;subst hm;simp [C.ment,hown]
 | clo f p q=>
   simp only at hm
   simp only [C.ment,Bool.or_eq_true,List.any_eq_true]
   rcases hm with hm|hm
   · exact .inl ⟨r,hm,by simp [hown]⟩
   · exact .inr ⟨r,hm,by simp [hown]⟩
 | own r' s n=>simp only at hm;subst hm;simp [C.ment,hown]
 | mptr r'=>simp only at hm;subst hm;simp [C.ment,hown]
 | closs f r'=>simp only at hm;subst hm;simp [C.ment,hown]
 | map r' es=>simp only at hm;subst hm;simp [C.ment,hown]
 | _=>exact hm.elim
theorem RepA.mono {g g':G} {w w':World} {k c k' c':Nat} {v:Value} {x:A} (h:RepA g w k c v x) (he:Ext g.T g.pr g.ow w w' g'.pr g'.ow) (hp: ∀b,g.pr b<=g'.pr b)
   (ho: ∀i,Ze3 g g' w w' (k,c,i) (k',c',i)) (hT: ∀b,g.T b->g'.T b) (hr: ∀r:R,(r.own=true->x.ment r.k=true)->r.val g'=r.val g):RepA g' w' k' c' v x:=by
 cases x with
 | one x=>
   have h':RepCells g w k c [v] [x]:=⟨rfl,fun i u y hu hy=>by
     cases i with
     | zero=>simp at hu hy;subst hu;subst hy;exact h
     | succ i=>simp at hu⟩
   have:=(h'.mono he hp ho hT (fun r hm=>hr r fun ho=>hm ho)).2 0 v x rfl rfl
   exact this
 | agg cs=>
   obtain ⟨vs,rfl,hc⟩:=h
   exact ⟨vs,rfl,hc.mono he hp ho hT fun r hm=>hr r fun ho=>hm ho⟩
theorem RepAs.mono {g g':G} {w w':World} {k c k' c':Nat} {vs:List Value} {xs:List A} (h:RepAs g w k c vs xs) (he:Ext g.T g.pr g.ow w w' g'.pr g'.ow) (hp: ∀b,g.pr b<=g'.pr b)
  (ho: ∀j i,Ze3 g g' w w' (k,c+j,i) (k',c'+j,i)) (hT: ∀b,g.T b->g'.T b) (hr: ∀r:R,(r.own=true->xs.any (A.ment r.k)=true)->r.val g'=r.val g):RepAs g' w' k' c' vs xs:=by
 refine ⟨h.1,fun j u x hu hx=>(h.2 j u x hu hx).mono he hp (ho j) hT fun r hm=>hr r fun ho=>?_⟩
 exact List.any_eq_true.2 ⟨x,List.mem_of_getElem? hx,hm ho⟩
theorem RepD.mono {g g':G} {w w':World} {k k':Nat} {v:Value} {d:D} (h:RepD g w k v d) (he:Ext g.T g.pr g.ow w w' g'.pr g'.ow) (hp: ∀b,g.pr b<=g'.pr b)
   (ho: ∀c i,Ze3 g g' w w' (k,c,i) (k',c,i)) (hT: ∀b,g.T b->g'.T b) (hr: ∀r:R,(r.own=true->d.ment r.k=true)->r.val g'=r.val g):RepD g' w' k' v d:=by
 cases d with
 | undef=>exact True.intro
 | a x=>exact RepA.mono h he hp (ho 0) hT hr
 | tup xs=>
   obtain ⟨vs,rfl,hx⟩:=h
   exact ⟨vs,rfl,hx.mono he hp (fun j i=>ho (1+j) i) hT hr⟩
 | objs os=>exact h.elim
theorem Box.mono {g g':G} {w w':World} {b k c k' c':Nat} {cs:List C} (h:Box g w b k c cs) (he:Ext g.T g.pr g.ow w w' g'.pr g'.ow) (hp: ∀b,g.pr b<=g'.pr b)
  (ho: ∀i,Ze3 g g' w w' (k,c,i) (k',c',i)) (hT: ∀b,g.T b->g'.T b) (hr: ∀r:R,(r.own=true->cs.any (C.ment r.k)=true)->r.val g'=r.val g)
  (hb:w'.heap[b]? =w.heap[b]?) (hpb:g'.pr b=g.pr b) (hob:g'.ow b=g.ow b):Box g' w' b k' c' cs:=by
 obtain ⟨_,_,_,hn⟩:=h.bk
 exact h.lift hb hpb (hob.trans hn) he.keeps hp (fun _ h _=>h) fun ⟨vs,e,h1,h2,h3,h4⟩=>⟨vs,e,hb.trans h1,⟨h2.1,h2.2.mono he hp ho hT hr⟩,hpb.trans h3,hob.trans h4⟩
theorem RepCells.plain {g:G} {w:World} {k c k' c':Nat} {vs:List Value} {cs:List C} (h:RepCells g w k c vs cs):RepCells g w k' c' vs (cs.map C.plain):=by
 refine ⟨by rw [List.length_map];exact h.1,fun i u x hu hx=>?_⟩
 rw [List.getElem?_map] at hx
 cases hc:cs[i]? with
 | none=>rw [hc] at hx;cases hx
 | some y=>rw [hc] at hx;cases hx;exact (h.2 i u y hu hc).plain
theorem RepA.plain {g:G} {w:World} {k c k' c':Nat} {v:Value} {x:A} (h:RepA g w k c v x):RepA g w k' c' v x.plain:=by
 cases x with
 | one x=>exact RepC.plain h
 | agg cs=>obtain ⟨vs,rfl,hc⟩:=h;exact ⟨vs,rfl,hc.plain⟩
theorem RepD.plain {g:G} {w:World} {k k':Nat} {v:Value} {d:D} (h:RepD g w k v d):RepD g w k' v d.plain:=by
 cases d with
 | undef=>exact True.intro
 | a x=>exact RepA.plain h
 | tup xs=>
   obtain ⟨vs,rfl,hl,hx⟩:=h
   refine ⟨vs,rfl,by rw [List.length_map];exact hl,fun j u x hu hxs=>?_⟩
   rw [List.getElem?_map] at hxs
   cases hc:xs[j]? with
   | none=>rw [hc] at hxs;cases hxs
   | some y=>rw [hc] at hxs;cases hxs;exact (hx j u y hu hc).plain
 | objs os=>exact h.elim
def G.News (g:G) (w:World) (b:Nat):Prop:=w.heap.size<=b∨(g.ow b≠none/\g.T b)
theorem St.gen [WI] {g g':G} {e e':Env} {a a':Act} {w w':World} (h:St g e a w) (ch:List Nat) (Bk:Nat->Prop)
   (he:Ext g.T g.pr g.ow w w' g'.pr g'.ow) (hfr:ZnQ g'.pr g'.ow w') (hω:g'.ω=g.ω) (hT:g'.T=g.T) (hnt:g'.nt=g.nt) (hdf:a'.defers=[]) (hsz:a'.tmps.size=a.tmps.size)
   (hget: ∀k,k∉ch->e'.get k=e.get k) (htm: ∀k,k∉ch->k<OBJS->a'.tmps.getD k undef=a.tmps.getD k undef)
   (how: ∀k,k∉ch-> ∀c i,Ze3 g g' w w' (k,c,i) (k,c,i))
   (hβ: ∀κ,g'.β κ=g.β κ∨(e.get κ= .undef/\ ∀k,k∉ch->(e.get k).ment κ=false))
   (hB: ∀b,Bk b->w'.heap[b]? =w.heap[b]? /\g'.pr b=g.pr b/\g'.ow b=g.ow b)
   (hbx: ∀κ,κ∉ch->BOX<=κ->e.get κ≠ .undef->Bk (g.β κ))
   (hob:OBJS∉ch-> ∀os i,e.get OBJS= .objs os->i<os.length->Bk (g.ω i))
   (hch: ∀k,k∈ch->KeyOK g' e' a' w' k)
   (hbox: ∀κ,κ∈ch->BOX<=κ->e'.get κ= .undef∨ ∃cs,e'.get κ= .a (.agg cs))
   (hobj:OBJS∈ch-> ∃os os',e.get OBJS= .objs os/\e'.get OBJS= .objs os'/\os'.length=os.length)
   (hnew: ∀κ,κ∈ch->BOX<=κ->e'.get κ≠ .undef->(e.get κ≠ .undef/\g'.β κ=g.β κ)∨(g.News w (g'.β κ)/\ ∀κ',κ'∈ch->BOX<=κ'->e'.get κ'≠ .undef->g'.β κ'=g'.β κ->κ'=κ)):
   St g' e' a' w':=by
 have hp:=he.prle' h.fr
 have hval: ∀k,k∉ch-> ∀r:R,(r.own=true->(e.get k).ment r.k=true)->r.val g'=r.val g:=fun k hk r hm=>by
   unfold R.val
   rw [hω]
   cases ho:r.own with
   | false=>rfl
   | true=>
     rcases hβ r.k with h1|⟨_,h1⟩
     · simp [h1]
     · rw [h1 k hk] at hm;exact absurd (hm ho) Zs
 have hβlive: ∀κ,e.get κ≠ .undef->g'.β κ=g.β κ:=fun κ hl=>by
   rcases hβ κ with h1|⟨h1,_⟩
   · exact h1
   · exact absurd h1 hl
 have hold: ∀κ,BOX<=κ->e.get κ≠ .undef-> ¬g.News w (g.β κ):=fun κ hκ hl=>by
   rcases h.box κ hκ with h1|⟨cs,h1⟩
   · exact absurd h1 hl
   · obtain ⟨_,hb,_,ho⟩:=((h.key κ).bx hκ cs h1).bk
     rintro (hh|⟨hh,_⟩)
     · have:=ZaB hb;omega
     · exact hh ho
 have holdo: ∀os i,e.get OBJS= .objs os->i<os.length-> ¬g.News w (g.ω i):=fun os i ho hi=>by
   obtain ⟨_,hb,_,hn⟩:=((h.key OBJS).ob rfl os ho i os[i] (List.getElem?_eq_getElem hi)).bk
   rintro (hh|⟨hh,_⟩)
   · have:=ZaB hb;omega
   · exact hh hn
 have hobjs: ∀os',e'.get OBJS= .objs os'-> ∃os,e.get OBJS= .objs os/\os'.length=os.length:=fun os' ho=>by
   by_cases hm:OBJS∈ch
   · obtain ⟨os,os'',h1,h2,h3⟩:=hobj hm
     rw [h2] at ho;cases ho
     exact ⟨os,h1,h3⟩
   · rw [hget _ hm] at ho;exact ⟨os',ho,rfl⟩
 have hlive: ∀κ,BOX<=κ->e'.get κ≠ .undef->(e.get κ≠ .undef/\g'.β κ=g.β κ)∨(κ∈ch/\g.News w (g'.β κ)/\ ∀κ',κ'∈ch->BOX<=κ'->e'.get κ'≠ .undef->g'.β κ'=g'.β κ->κ'=κ):=fun κ hκ hl=>by
   by_cases hm:κ∈ch
   · exact (hnew κ hm hκ hl).imp id fun h=>⟨hm,h⟩
   · rw [hget κ hm] at hl;exact .inl ⟨hl,hβlive κ hl⟩
 refine ⟨fun k=>?_,fun κ hκ=>?_,?_,fun κ κ' h1 h2 h3 h4 h5=>?_,fun κ os i h1 h2 h3 h4=>?_,fun os i j h1 h2 h3 h4=>?_,hfr,WI.mono h.wi he hp,hdf,by rw [hnt,hsz];exact h.sz,fun κ h1 h2=>?_,fun os i h1 h2=>?_,fun b hb=>by rw [hT];exact h.tf b (Nat.le_trans he.size hb),by rw [hnt];exact h.nt⟩
 · by_cases hm:k∈ch
   · exact hch k hm
   · refine ⟨fun hk=>?_,fun hk cs hc=>?_,fun hk os ho i cs hi=>?_⟩
     · rw [hget k hm,htm k hm hk]
       exact ((h.key k).tm hk).mono he hp (how k hm) (fun b hb=>by rw [hT];exact hb) (hval k hm)
     · rw [hget k hm] at hc
       have hl:e.get k≠ .undef:=by rw [hc];simp
       obtain ⟨b1,b2,b3⟩:=hB _ (hbx k hm hk hl)
       have hv:=hval k hm
       rw [hc] at hv
       rw [hβlive k hl]
       exact ((h.key k).bx hk cs hc).mono he hp (how k hm 0) (fun b hb=>by rw [hT];exact hb) hv b1 b2 b3
     · subst hk
       rw [hget _ hm] at ho
       obtain ⟨b1,b2,b3⟩:=hB _ (hob hm os i ho (Zaq hi))
       have hv:=hval _ hm
       rw [ho] at hv
       rw [hω]
       exact ((h.key OBJS).ob rfl os ho i cs hi).mono he hp (how _ hm i) (fun b hb=>by rw [hT];exact hb) (fun r hr=>hv r fun ho=>List.any_eq_true.2 ⟨cs,List.mem_of_getElem? hi,hr ho⟩) b1 b2 b3
 · by_cases hm:κ∈ch
   · exact hbox κ hm hκ
   · rw [hget κ hm];exact h.box κ hκ
 · by_cases hm:OBJS∈ch
   · obtain ⟨os,os',_,h2,_⟩:=hobj hm;exact .inr ⟨os',h2⟩
   · rw [hget _ hm];exact h.obj
 · rcases hlive κ h1 h3 with ⟨l1,b1⟩|⟨m1,s1,u1⟩
   · rcases hlive κ' h2 h4 with ⟨l2,b2⟩|⟨m2,s2,u2⟩
     · exact h.db κ κ' h1 h2 l1 l2 (by rw [<-b1,<-b2];exact h5)
     · rw [b1] at h5;rw [<-h5] at s2;exact absurd s2 (hold κ h1 l1)
   · rcases hlive κ' h2 h4 with ⟨l2,b2⟩|⟨m2,s2,u2⟩
     · rw [b2] at h5;rw [h5] at s1;exact absurd s1 (hold κ' h2 l2)
     · exact (u1 κ' m2 h2 h4 h5.symm).symm
 · obtain ⟨os₀,ho,hl⟩:=hobjs os h3
   rw [hω]
   rcases hlive κ h1 h2 with ⟨l1,b1⟩|⟨m1,s1,u1⟩
   · rw [b1];exact h.dbo κ os₀ i h1 l1 ho Zo
   · intro hh;rw [hh] at s1;exact absurd s1 (holdo os₀ i ho Zo)
 · obtain ⟨os₀,ho,hl⟩:=hobjs os h1
   rw [hω] at h4
   exact h.dob os₀ i j ho Zo Zo h4
 · rw [hT]
   rcases hlive κ h1 h2 with ⟨l1,b1⟩|⟨m1,s1,u1⟩
   · rw [b1];exact h.tb κ h1 l1
   · exact s1.elim (h.tf _) (fun hh=>hh.2)
 · obtain ⟨os₀,ho,hl⟩:=hobjs os h1
   rw [hT,hω]
   exact h.to os₀ i ho Zo
end Go.Am
end
