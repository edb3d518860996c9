/- Part. -/
import Derived.Test.YtmofclmogldnjaaGreatDoorSam
set_option maxRecDepth 999999
set_option maxHeartbeats 0
set_option linter.all false
section
namespace Go.Am
variable [WI]
variable {Pg:Program}
section each
variable {F:Zae} {g:G} {e e':Env} {a:Act} {w:World}
def St.gives (h:St g e a w) {ks:List Nat} {d:Nat} (hd:d<g.nt) (hk: ∀n∈ks,n<OBJS/\n≠d) {v:Value} {dd:D} (φ:Loc->Loc) (hφ: ∀k c i,k∉ks->φ (k,c,i)=(k,c,i))
  (hrd:RepD (g.remap φ) w d v dd):St (g.remap φ) ((Zag e ks).set d dd) (a.put (some d) v) w:=by
 have hdO:d<OBJS:=Yq hd h.nt
 have hs:d<a.tmps.size:=Yq hd h.sz
 have hnb: ∀κ,κ∈d::ks->κ<OBJS:=fun κ hm=>by
  rcases List.mem_cons.1 hm with rfl|hm
  ·exact hdO
  ·exact (hk κ hm).1
 have hob:=Zac
 refine h.gen (d::ks) (fun b=>g.pr b=0/\g.ow b=none) (Zal (Ext.refl _ _ _ _)) (ZaF h.fr (Yc _)) rfl rfl rfl (by rw [ZaC];exact h.df) ZaQ
  (fun k hm=>?_) (fun k hm _=>?_) (fun k hm c i=>Zas (hφ k c i (fun hh=>hm (Yk _ hh)))) (fun _=> .inl rfl) (fun b hb=>⟨rfl,rfl,by rw [Zaj hb.2,hb.2]⟩)
  (fun κ _ hκ hl=>(ZaT h hκ hl).2) (fun _ os i ho hi=>(Zcc h ho hi).2) (fun k hm=>?_) (fun κ hm hκ=>by have:=hnb κ hm;omega) (fun hm=>by have:=hnb OBJS hm;omega) (fun κ hm hκ=>by have:=hnb κ hm;omega)
 ·rw [Yv,not_or] at hm
  rw [Env.get_set_ne _ _ (Ne.symm hm.1),Zcu hm.2]
 ·rw [Yv,not_or] at hm
  exact Zan hm.1
 ·refine .tmp (hnb k hm) ?_
  rcases List.mem_cons.1 hm with rfl|hm
  ·rw [Env.get_set_same,Zao hs];exact hrd
  ·have hne:=(hk k hm).2
   rw [Env.get_set_ne _ _ (Ne.symm hne),Zan hne,Zg8 hm]
   exact ((h.key k).tm (hk k hm).1).plain'
def Zoq (h:St g e a w) {x:Operand} {y:Arg} (hx:Za1 x y=true) {takes:List Nat} {z:A} (hz:Zaw e takes y= .a z) (φ:Loc->Loc) (k c off:Nat) (hφ: ∀m i,y= .k m->m∈takes->φ (m,0,i)=(k,c,off+i)):
   (a.eval x).cells.toList.length=z.cells.length/\ ∀(i:Nat) u q,(a.eval x).cells.toList[i]? =some u->z.cells[i]? =some q->RepC (g.remap φ) w (k,c,off+i) u q:=by
 have hr:=Zb2 h hx takes
 rw [hz] at hr
 have hcells: ∃k,RepCells g w k 0 (a.eval x).cells.toList z.cells:=⟨_,RepA.cells hr⟩
 obtain ⟨kz,hcells⟩:=hcells
 refine ⟨hcells.1,fun i u q hu hq=>?_⟩
 cases y with
 | c y=>
   simp only [Zaw,D.a.injEq] at hz
   subst hz
   have hrep:=Zrz hx a (g.remap φ) w (k,c,off+i)
   rw [hrep.not_agg.1] at hu
   cases i with
   | zero=>simp [A.cells] at hu hq;subst hu;subst hq;exact hrep
   | succ i=>simp [A.cells] at hq
 | k m=>
   obtain ⟨rfl,hm⟩:=Zf6 hx
   have hr0:RepD g w m (a.eval (.tmp m)) (Zaw e takes (.k m)):=Zb2 h hx takes
   rw [hz] at hr0
   have hc0:=RepA.cells hr0
   by_cases ht:m∈takes
   · exact (hc0.2 i u q hu hq).mono (Zal (Ext.refl _ _ _ _)) (fun _=>Yc _) (Zas (hφ m i rfl ht)) (fun _ h=>h) (fun _ _=>rfl)
   · have he:Zaw e takes (.k m)=Zaw e [] (.k m):=by simp [Zaw,ht]
     rw [he] at hz
     exact (hc0.2 i u q hu hq).of_pr (ZfS e (.k m) hz trivial (YA hq))
def ZlT (h:St g e a w) (takes:List Nat) (φ:Loc->Loc) (fs:Array Field) (places:Array (Nat×Nat)) (hpl: ∀(i:Nat) (fd:Field) (n:Nat),fs[i]? =some fd->(Pg.info? fd.type).map (·.size)=some n->places[i]? =some (fd.offset,n)) (k:Nat):
   ∀(ps:List (Nat×Operand)) (offs:List (Nat×Nat)) (ys:List Arg) (cells:Array Value) (z cs:List C),Zhw Pg fs ps offs ys=true->
     (∀(j:Nat) m o,ys[j]? =some (.k m)->m∈takes->offs[j]? =some o-> ∀i,φ (m,0,i)=(k,0,o.1+i))->RepCells (g.remap φ) w k 0 cells.toList z->Zc3 z offs (ys.map (Zaw e takes))=some cs->
     ∃cells',Instr.fill (places[·]?) cells (ps.map fun (i,x)=>(i,a.eval x))=some cells'/\RepCells (g.remap φ) w k 0 cells'.toList cs
 | [],[],[],cells,z,cs,_,_,hz,hf=>by simp [Zc3] at hf;subst hf;exact ⟨cells,rfl,hz⟩
 | (i,x)::ps,(off,n)::offs,y::ys,cells,z,cs,ho,hφ,hz,hf=>by
   simp only [Zhw,Yb] at ho
   obtain ⟨⟨o1,o2⟩,o3⟩:=ho
   split at o1
   · rename_i fd hfd
     simp only [Yb,beq_iff_eq] at o1
     obtain ⟨rfl,hn⟩:=o1
     simp only [Yp] at hf
     unfold Zc3 at hf
     split at hf
     · rename_i heq;cases heq
     · rename_i o' n' os' q r heq1 heq2
       simp only [Yf,YM] at heq1 heq2
       obtain ⟨⟨rfl,rfl⟩,rfl⟩:=heq1
       obtain ⟨q1,rfl⟩:=heq2
       split at hf
       · rename_i hlen
         split at hf
         · rename_i z' hz'
           obtain ⟨c1,c2⟩:=Zoq h o2 q1 φ k 0 fd.offset (fun m i hy hm=>hφ 0 m (fd.offset,n) (by rw [hy];rfl) hm rfl i)
           obtain ⟨p1,p2⟩:=Zbh hz'
           have hsz:(a.eval x).cells.size=n:=by rw [<-hlen,<-c1];simp
           have hcs:cells.size=z.length:=by rw [<-hz.1];simp
           have hcells:=RepCells.put (cells':=((a.eval x).cells.zipIdx.foldl (fun cs (c,j)=>cs.setIfInBounds (fd.offset+j) c) cells).toList) hz ⟨c1,c2⟩ hz' (by
               rw [<-Array.foldl_toList];simp [Zbs]) (fun i'=>by
               rw [<-Array.foldl_toList,Array.toList_zipIdx,Array.getElem?_toList]
               have:=Zfg (a.eval x).cells.toList cells fd.offset 0 Ze i'
               simp only [Nat.add_zero] at this
               rw [this]
               simp)
           obtain ⟨cells',f1,f2⟩:=ZlT h takes φ fs places hpl k ps offs ys _ z' cs o3 (fun j m o h1 h2 h3=>hφ (j+1) m o (by simpa using h1) h2 (by simpa using h3)) hcells hf
           refine ⟨cells',?_,f2⟩
           simp only [Yp,Instr.fill,hpl i fd n hfd hn]
           have hcond: ¬((a.eval x).cells.size≠n∨fd.offset+(a.eval x).cells.size>cells.size):=by
             rw [hsz];omega
           simp only [ne_eq,Bool.or_eq_true,decide_eq_true_eq]
           rw [if_neg (by simpa using hcond)]
           exact f1
         · cases hf
       · cases hf
     · cases hf
   · cases o1
 | [],[],_::_,_,_,_,ho,_,_,_=>by cases ho
 | [],_::_,_,_,_,_,ho,_,_,_=>by cases ho
 | _::_,[],_,_,_,_,ho,_,_,_=>by cases ho
 | _::_,_::_,[],_,_,_,ho,_,_,_=>by cases ho
def ZkP (Pg:Program) (z:List C) (offs:List (Nat×Nat)) (o:Oper) (s:SOp) (nt:Nat):Bool:=
 match o.op,o.dst,s.outs with
 | .build t ps,some d,[d']=>d==d' && Nat.blt d nt && s.takes.all (fun m=>Nat.blt m OBJS && m !=d) && ZvW s.ins s.takes && ZmA Pg t z && (match Pg.underlying t with
   | some (.struct fs)=>fs.all (fun fd=>(Pg.info? fd.type).isSome) && Zhw Pg fs ps.toList offs s.ins
   | _=>false)
 | _,_,_=>false
theorem ZpY (h:St g e a w) {o:Oper} {s:SOp} {z:List C} {offs:List (Nat×Nat)} (hk:s.kind= .build z offs) (ho:ZkP Pg z offs o s g.nt=true) (hd:doOp F s e=some e'):OpOut Pg o a w g e':=by
 unfold ZkP at ho
 split at ho
 ·rename_i t ps d d' hop hdst hout
  simp only [Yb,beq_iff_eq] at ho
  obtain ⟨⟨⟨⟨⟨e1,o0⟩,ot⟩,op⟩,o1⟩,o2⟩:=ho
  obtain ⟨d,rfl⟩: ∃d₀:Nat,d₀=d:=⟨d,rfl⟩
  rw [<-e1] at hout
  have hlt:=Nat.blt_eq.mp o0
  have htk: ∀n∈s.takes,n<OBJS/\n≠d:=fun n hn=>by
   have:=List.all_eq_true.1 ot n hn
   simp only [Yb,bne_iff_ne] at this
   exact ⟨Nat.blt_eq.mp this.1,this.2⟩
  unfold doOp at hd
  rw [hk,hout] at hd
  simp only [Zai,ZhB] at hd
  split at hd
  ·cases hd
  ·rename_i ds hs
   split at hs
   ·rename_i cs hcs
    cases hs
    simp only [Env.sets,Ye] at hd
    subst hd
    unfold ZmA at o1
    split at o1
    ·rename_i inf hi
     split at o1
     ·rename_i zv hzv
      split at o2
      ·rename_i fs hu
       rw [Yb] at o2
       obtain ⟨o2,o3⟩:=o2
       obtain ⟨pl,r1,r2,r3⟩:=Zfe (Pg:=Pg) (w:=w) fs.toList (fun fd hm=>by
        have:=Array.all_eq_true_iff_forall_mem.1 o2 fd (by simpa using hm)
        exact this)
       have hpl: ∀(i:Nat) (fd:Field) (n:Nat),fs[i]? =some fd->(Pg.info? fd.type).map (·.size)=some n->pl.toArray[i]? =some (fd.offset,n):=fun i fd n h1 h2=>by
        simpa using r3 i fd n (by simpa using h1) h2
       let φ:Loc->Loc:=fun ℓ=>if ℓ.1∈s.takes/\ℓ.2.1=0 then (match ZqN s.ins ℓ.1 with|some j=>(match offs[j]? with|some o=>(d,0,o.1+ℓ.2.2)|none=>ℓ)|none=>ℓ) else ℓ
       obtain ⟨cells',f1,f2⟩:=ZlT h s.takes φ fs pl.toArray hpl d ps.toList offs s.ins zv.cells z cs o3 (fun j m o h1 h2 h3 i=>by
        simp only [φ,h2,true_and,if_true]
        rw [ZjS op h1 h2]
        simp only [h3]) (Zcf (g.remap φ) w d 0 _ _ o1) hcs
       refine ⟨.value (.agg cells'),.agg cells',w,g.remap φ,?_,.inl rfl,?_,Zal (Ext.refl _ _ _ _),rfl,rfl,rfl⟩
       ·have hmap:(Array.mapM (fun (f:Field)=>do pure (f.offset,<-sizeOf f.type)) fs:Sem (Array (Nat×Nat))).run Pg w= .ok pl.toArray w:=by
         rw [Array.mapM_eq_mapM_toList]
         simp only [Sem.run_map,r1,Result.andThen_ok]
        simp only [execOp,hop]
        rw [Zaa]
        simp only [Instr.build,Sem.run_bind,Zak hi hzv,run_underlying hu,Result.andThen_ok]
        rw [hmap]
        simp only [Result.andThen_ok,Array.toList_map]
        rw [f1]
        rfl
       ·rw [hdst]
        exact h.gives hlt htk φ (fun k c i hk=>by simp [φ,hk]) ⟨cells',rfl,f2⟩
      ·cases o2
     ·cases o1
    ·cases o1
   ·cases hs
 ·cases ho
end each
end Go.Am
end
section
namespace Go.Am
variable [WI]
variable {Pg:Program}
section each
variable {F:Zae} {g:G} {e e':Env} {a:Act} {w:World}
def St.newRowU (h:St g e a w) {d:Nat} (hlt:d<g.nt) {cells:Array Value} (t:TypeId) {s len cap:Nat} {rows:List (List P)} (hl:len=rows.length) (hcap:len<=cap) (hsz:cap*s<=cells.size) (hlen: ∀(i:Nat) row,rows[i]? =some row->row.length=s)
  (hc: ∀(i:Nat) row (j:Nat) x,rows[i]? =some row->row[j]? =some x-> ∃v,cells[i*s+j]? =some v/\RepP g.pr w v x) (w₀:World) (hw:w₀=w∨w₀=w.drew):
  ∃g',St g' (e.set d (.a (.one (.uniq s rows)))) (a.put (some d) (.slice (some ⟨w.heap.size,0,none⟩) len cap)) (w₀.alloc (.cells cells t))/\
   Ext g.T g.pr g.ow w (w₀.alloc (.cells cells t)) g'.pr g'.ow/\g'.ω=g.ω/\g'.T=g.T/\g'.nt=g.nt:=by
 have hdO:d<OBJS:=Yq hlt h.nt
 have hds:d<a.tmps.size:=Yq hlt h.sz
 let g':G:=g.lay w.heap.size 0 (d,0,0)
 let w':World:=w₀.alloc (.cells cells t)
 have hheap:w'.heap=w.heap.push (.cells cells t):=by rcases hw with rfl|rfl<;>rfl
 have hold: ∀b,b<w.heap.size->w'.heap[b]? =w.heap[b]? :=fun b hb=>by rw [hheap,Array.getElem?_push];simp [Nat.ne_of_lt hb]
 have hnew:w'.heap[w.heap.size]? =some (.cells cells t (0,0)):=by rw [hheap];simp
 have hsize:w'.heap.size=w.heap.size+1:=by rw [hheap];simp
 have hext:Ext g.T g.pr g.ow w w' g'.pr g'.ow:=by
  refine ⟨?_,?_,?_,by rw [hsize];omega,fun b o' hb=>⟨o',by rw [hold b (Zad hb)];exact hb,SameObj.refl _ _⟩,fun b hb=>?_,fun b hb ho _=>?_,fun b hb _ _=>?_⟩
  ·rcases hw with rfl|rfl<;>rfl
  ·rcases hw with rfl|rfl<;>rfl
  ·rcases hw with rfl|rfl<;>rfl
  ·simp [g',G.lay,Nat.ne_of_lt hb]
  ·simp [g',G.lay,Nat.ne_of_lt hb,ho]
  ·exact hold _ ‹_›
 have hp:=hext.prle' h.fr
 refine ⟨g',?_,hext,rfl,rfl,rfl⟩
 have hbig: ∀κ,κ∈[d]-> ¬BOX<=κ:=fun κ hm hb=>by have:=Zac;simp at hm;omega
 refine h.gen [d] (fun b=>b<w.heap.size) hext (fun b hb=>?_) rfl rfl rfl (by rw [ZaC];exact h.df) ZaQ (fun k hk=>Env.get_set_ne _ _ (by simp at hk;omega)) (fun k hk _=>Zan (by simpa using hk))
  (fun k hk c i b hb=>?_) (fun _=> .inl rfl) (fun b hb=>⟨hold b hb,by simp [g',G.lay,Nat.ne_of_lt hb],by simp [g',G.lay,Nat.ne_of_lt hb]⟩) (fun κ _ hκ hl=>(ZaT h hκ hl).1) (fun _ os i ho hi=>(Zcc h ho hi).1)
  (fun k hk=>?_) (fun κ hm hκ=>absurd hκ (hbig κ hm)) (fun hm=>by simp at hm;omega) (fun κ hm hκ=>absurd hκ (hbig κ hm))
 ·change w'.heap.size<=b at hb
  rw [hsize] at hb
  have hne:b≠w.heap.size:=by omega
  simp [g',G.lay,hne,h.fr b Zo]
 ·have hne:b≠w.heap.size:=fun hh=>by rw [hh,(h.fr _ (Yc _)).2] at hb;cases hb
  refine ⟨by simp [g',G.lay,hne,hb],by simp [g',G.lay,hne],hold b ?_⟩
  rcases Yt b w.heap.size with hh|hh
  ·exact hh
  ·rw [(h.fr b hh).2] at hb;cases hb
 ·simp at hk;subst hk
  refine .tmp hdO ?_
  rw [Env.get_set_same,Zao hds]
  refine ⟨some ⟨w.heap.size,0,none⟩,cap,by rw [hl],.inr ⟨w.heap.size,cells,t,rfl,by omega,by simp [g',G.lay],by simp [g',G.lay],h.tf _ (Yc _),hnew,hsz,fun i row hi=>⟨hlen i row hi,fun j x hj=>?_⟩⟩⟩
  obtain ⟨v,hv,hr⟩:=hc i row j x hi hj
  exact ⟨v,hv,hr.mono hext.keeps hp⟩
def Zoz {g:G} {w:World} {b s n:Nat} {cs:Array Value} {t:TypeId} (hb:w.heap[b]? =some (.cells cs t (0,0))) (hsz:n*s<=cs.size):
  ∃olds:List Value,olds.length=n*s/\(∀(j:Nat) v,olds[j]? =some v->w.cell? ((⟨b,0,none⟩:Addr).add j)=some v)/\ ∀i,i<n*s->olds[i]? =cs[i]? :=by
 refine ⟨cs.toList.take (n*s),by simp;omega,fun j v hj=>?_,fun i hi=>by rw [YH,if_pos hi];simp⟩
 rw [YH] at hj
 split at hj
 ·rw [Addr.add_eq,Nat.zero_add,ZaH hb];simpa using hj
 ·cases hj
def Zi7 (Pg:Program) (z:Nat) (o:Oper) (s:SOp) (nt:Nat):Bool:=Zhy Pg z o s nt
def Zks {v:Value} {s:Nat} {rows:List (List P)} (h:ZcE v (.uniq s rows)=true):rows=[]/\v= .slice none 0 0:=by
 unfold ZcE at h;split at h<;>simp_all
def Zns (h:St g e a w) {o:Oper} {s:SOp} {z:Nat} (hk:s.kind= .appendU z) (ho:Zi7 Pg z o s g.nt=true) (hd:doOp F s e=some e'):OpOut Pg o a w g e':=by
 unfold Zi7 Zhy at ho
 split at ho
 · rename_i c d y1 y2 d' hop hdst hins hout
   split at ho
   · rename_i x1 x2 t t' hcal hargs htys
     simp only [Yb,beq_iff_eq,Nat.blt_eq] at ho
     obtain ⟨⟨⟨⟨⟨⟨e1,o1⟩,o2⟩,o3⟩,e2⟩,hlt⟩,o4⟩:=ho
     obtain ⟨d,rfl⟩: ∃d₀:Nat,d₀=d:=⟨d,rfl⟩
     rw [<-e2] at hout
     obtain ⟨el,inf,zv,u1,u2,u3,u4,u5,u6,u7⟩:=Zcq o3
     have hdO:d<OBJS:=Yq hlt h.nt
     have htl:s.takes=[]∨ ∃m,s.takes=[m]:=(Zch o4).imp (·.1) (fun ⟨m,hm,_⟩=>⟨m,hm⟩)
     have htk: ∀m,m∈s.takes->y1= .k m/\m<OBJS/\m≠d/\y2≠ .k m:=fun m hm=>by
       rcases Zch o4 with ⟨h0,_⟩|⟨m',h0,h1,h2,h3⟩
       · rw [h0] at hm;simp at hm
       · rw [h0] at hm;simp at hm;subst hm
         refine ⟨h1,?_,h2,h3⟩
         rw [h1] at o1
         exact (Zf6 o1).2
     have hy1: ∀m,y1= .k m->m∈s.takes:=fun m hm=>by
       rcases Zch o4 with ⟨_,h1⟩|⟨m',h0,h1,_⟩
       · exact absurd hm (h1 m)
       · rw [hm] at h1;cases h1;rw [h0];simp
     unfold doOp at hd
     rw [hk,hins,hout] at hd
     simp only [Yp,List.map_nil,Zai] at hd
     unfold Zhj at hd
     split at hd
     · cases hd
     · rename_i ds heq
       split at heq
       · rename_i s' rows c2 heq2
         simp only [Yf,and_true] at heq2
         obtain ⟨q1,q2⟩:=heq2
         split at heq
         · rename_i s'' more hmore
           split at heq
           · rename_i hc
             obtain ⟨rfl,rfl,hbd⟩:=hc
             simp only [Ye] at heq
             subst heq
             simp only [Env.sets,Ye] at hd
             subst hd
             have r1: ∃k,RepC g w (k,0,0) (a.eval x1) (.uniq s'' rows)/\(∀m,m∈s.takes->k=m)/\(s.takes=[]->rows=[]/\a.eval x1= .slice none 0 0):=by
               have hr:=Zb2 h o1 s.takes
               rw [q1] at hr
               cases y1 with
               | k m=>
                 exact ⟨m,hr,(fun m' hm'=>by have:=(htk m' hm').1;cases this;rfl),fun hh=>by have:=hy1 m rfl;rw [hh] at this;cases this⟩
               | c c=>
                 have hce:c= .uniq s'' rows:=by simpa [Zaw] using q1
                 subst hce
                 refine ⟨0,hr,(fun m' hm'=>by have:=(htk m' hm').1;cases this),fun _=>?_⟩
                 cases x1 with
                 | const v=>exact Zks o1
                 | tmp t=>simp [Za1] at o1
                 | global g=>simp [Za1] at o1
                 | func f=>simp [Za1] at o1
             obtain ⟨k1,r1,hk1,hnil⟩:=r1
             have r2:RepP g.pr w (a.eval x2) (.sl s'' more):=by
               have hr:=Zb2 h o2 s.takes
               rw [q2] at hr
               exact Zex hr hmore
             obtain ⟨ad1,cap1,v1,hroom⟩:=r1
             obtain ⟨ad2,cap2,v2,hcap2⟩:=r2.slice_inv
             rw [v2] at r2
             obtain ⟨news,l2,c2',g2,b2,n2,oc2,p2⟩:=ZfM r2 u4
             have n1: ∀(i:Nat) row,rows[i]? =some row->row.length=s'':=fun i row hi=>by
               rcases hroom with ⟨_,hr,_⟩|⟨b,cs,t,_,_,_,_,_,_,_,hrows⟩
               · rw [hr] at hi;simp at hi
               · exact (hrows i row hi).1
             have hlens: ∀(i:Nat) row,(rows++more)[i]? =some row->row.length=s'':=fun i row hi=>by
               rcases Za2 hi with ⟨_,hh⟩|⟨_,hh⟩
               · exact n1 i row hh
               · exact n2 _ row hh
             have htk': ∀m,m∈s.takes->m<OBJS/\m≠d:=fun m hm=>⟨(htk m hm).2.1,(htk m hm).2.2.1⟩
             have hfirst: ∀W:World,(∀ad,W.cell? ad=w.cell? ad)->(Builtin.firstCells inf.size more.length (.slice ad2 more.length cap2)).run Pg W= .ok news.toArray W:=fun W hW=>by
               cases ad2 with
               | none=>
                 have:news=[]:=by
                   cases more with
                   | nil=>simpa using l2
                   | cons r rs=>obtain ⟨_,_,hh⟩:=b2 Zs;cases hh
                 rw [this];exact run_firstCells_none W _ _ _ _
               | some b=>
                 exact run_firstCells_some W _ _ b _ _ news (by rw [l2,u3]) (fun j v hj=>by rw [hW];exact c2' b rfl j v hj)
             have hexec: ∀(v:Value) (w':World),(Builtin.append_ #[t,t] o.type #[.slice ad1 rows.length cap1,.slice ad2 more.length cap2]).run Pg w= .ok v w'->(execOp a.eval o).run Pg w= .ok (.value v) w':=fun v w' hr=>by
               obtain ⟨callee,args,argTypes⟩:=c
               obtain ⟨args⟩:=args
               obtain ⟨argTypes⟩:=argTypes
               simp only at hcal hargs htys
               subst hcal;subst hargs;subst htys;subst e1
               simp only [execOp,hop,resolve,List.map_toArray,Yp,List.map_nil,v1,v2]
               rw [Sem.run_bind,Sem.run_pure,Result.andThen_ok]
               simp only [invoke,builtin]
               rw [Zaa,hr,Result.andThen_ok]
             by_cases hle:rows.length+more.length<=cap1
             · have hrun:=Zer (Pg:=Pg) (w:=w) (ty:=o.type) u1 u2 (base:=ad1) (base':=ad2) hle (hfirst w fun _=>rfl)
               by_cases hm0:more=[]
               · have hn0:news=[]:=by rw [hm0] at l2;simpa using l2
                 subst hm0
                 subst hn0
                 rw [Zck,Result.andThen_ok] at hrun
                 let φ:Loc->Loc:=fun ℓ=>if ℓ.1∈s.takes then (d,ℓ.2) else ℓ
                 refine ⟨.value _,_,w,g.remap φ,hexec _ _ hrun,.inl rfl,?_,Zal (Ext.refl _ _ _ _),rfl,rfl,rfl⟩
                 rw [hdst]
                 refine h.appended hlt htk' htl (Zal (Ext.refl _ _ _ _)) (ZaF h.fr (Yc _)) rfl rfl rfl rfl (fun k hk _ c i=>Zas (by simp [φ,hk])) (fun b _ _ hb=>⟨rfl,rfl,by rw [Zaj hb,hb]⟩) ?_
                 simp only [List.append_nil,List.length_nil,Nat.add_zero]
                 refine ⟨ad1,cap1,rfl,hroom.imp id ?_⟩
                 rintro ⟨b,cs,t0,hb,hl,hpr,how,hTb,hcs,hfit,hrows⟩
                 have hmt: ∃m,s.takes=[m]:=by
                   rcases htl with htl|hh
                   · have h0:=(hnil htl).2;rw [v1] at h0;injection h0 with h1;rw [h1] at hb;cases hb
                   · exact hh
                 obtain ⟨m,hmt⟩:=hmt
                 have hkm:=hk1 m (by rw [hmt];simp)
                 exact ⟨b,cs,t0,hb,hl,hpr,by simp [G.remap,how,φ,hmt,hkm],hTb,hcs,hfit,hrows⟩
               · have hpos:0<more.length:=by cases more with|nil=>exact absurd rfl hm0|cons _ _=>simp
                 rcases hroom with ⟨_,hr0,hc0⟩|⟨b,cs,el',hb,hl,hpr,how,hTb,hcs,hfit,hrows⟩
                 · omega
                 subst hb
                 have hmt: ∃m,s.takes=[m]:=by
                   rcases htl with htl|hh
                   · have h0:=(hnil htl).2;rw [v1] at h0;injection h0 with h1;cases h1
                   · exact hh
                 obtain ⟨m,hmt⟩:=hmt
                 have hk1m:=hk1 m (by rw [hmt];simp)
                 subst hk1m
                 let new:Array Value:=(cs.toList.take (rows.length*s'')++news++cs.toList.drop (rows.length*s''+news.length)).toArray
                 have hfit':rows.length*s''+news.length<=cs.size:=by
                   rw [l2]
                   have:(rows.length+more.length)*s''<=cap1*s'':=YJ _ hle
                   rw [Nat.add_mul] at this
                   omega
                 have hst:(ZbI (some ⟨b,0,none⟩) (rows.length*inf.size) news).run Pg w= .ok () (w.setRow b new):=by
                   show (storeCells ((⟨b,0,none⟩:Addr).add (rows.length*inf.size)) news).run Pg w=_
                   rw [Addr.add_eq,u3,Nat.zero_add]
                   have:=run_storeCells_at Pg b (rows.length*s'') el' news 0 cs w hcs (by simpa using hfit') oc2
                   simpa [new] using this
                 rw [hst,Result.andThen_ok] at hrun
                 have hnsz:new.size=cs.size:=by simp [new];omega
                 have hnget: ∀i,new[i]? =if rows.length*s''<=i/\i<rows.length*s''+news.length then news[i-rows.length*s'']? else cs[i]? :=fun i=>by
                   have hm:(cs.toList.take (rows.length*s'')).length=rows.length*s'':=by simp;omega
                   simp only [new,List.getElem?_toArray]
                   rcases Yt i (rows.length*s'') with h1|h1
                   · rw [if_neg Zo,Yu,Yx Zo,YH,if_pos h1,Array.getElem?_toList]
                   · rcases Yt i (rows.length*s''+news.length) with h2|h2
                     · rw [if_pos ⟨h1,h2⟩,Yu,Yo Zo,hm,Yx Zo]
                     · rw [if_neg Zo,Yu,Yo Zo,hm,Yo Zo,List.getElem?_drop,Array.getElem?_toList]
                       congr 1;omega
                 let g':G:=g.remap fun ℓ=>if ℓ.1=k1 then (d,ℓ.2) else ℓ
                 have hext0:=ZeZ (T:=g.T) (ow:=g.ow) hcs hnsz (pr:=g.pr) (fun j hj=>by rw [hpr] at hj;omega) (.inr (by rw [how];simp))
                 have hext:Ext g.T g.pr g.ow w (w.setRow b new) g'.pr g'.ow:=Zal hext0
                 have hblt:=Zad hcs
                 refine ⟨.value _,_,w.setRow b new,g',hexec _ _ hrun,.inl rfl,?_,hext,rfl,rfl,rfl⟩
                 rw [hdst]
                 refine h.appended hlt htk' htl hext (ZaF h.fr hext0.size) rfl rfl rfl rfl (fun k hk _ c i b' hb'=>?_) (fun k hk hp0 hn=>?_) ?_
                 · have hkb:b'≠b:=fun hh=>by
                     rw [hh,how] at hb';cases hb'
                     exact hk (by rw [hmt];simp)
                   have hkm:k≠k1:=fun hh=>hk (by rw [hmt,hh];simp)
                   exact ⟨by simp [g',G.remap,hb',hkm],rfl,setRow_other w b b' new hkb⟩
                 · have hkb:k≠b:=fun hh=>by rw [hh,how] at hn;cases hn
                   exact ⟨setRow_other w b k new hkb,rfl,by simp [g',G.remap,hn]⟩
                 · have hkeeps:=hext0.keeps
                   refine ⟨some ⟨b,0,none⟩,cap1,by simp,.inr ⟨b,new,el',rfl,by simpa using hle,hpr,by simp [g',G.remap,how],hTb,setRow_heap w b cs new el' (0,0) hcs,by rw [hnsz];exact hfit,fun i row hi=>⟨hlens i row hi,fun j x hj=>?_⟩⟩⟩
                   have hj':j<s'':=by have:=Zab hj;rw [hlens i row hi] at this;exact this
                   rcases Za2 hi with ⟨hi1,hh⟩|⟨hi1,hh⟩
                   · obtain ⟨v,hv1,hv2⟩:=(hrows i row hh).2 j x hj
                     have hlt':=Za8 hi1 hj'
                     exact ⟨v,by rw [hnget,if_neg Zo];exact hv1,hv2.mono hkeeps (fun _=>Yc _)⟩
                   · obtain ⟨v,hv1,hv2⟩:=g2 (i-rows.length) row j x hh hj
                     have hlt':=Zab hv1
                     have hi2:i*s''=rows.length*s''+(i-rows.length)*s'':=by rw [<-Nat.add_mul];congr 1;omega
                     refine ⟨v,?_,hv2.mono hkeeps (fun _=>Yc _)⟩
                     rw [hnget,if_pos Zo]
                     rw [<-hv1];congr 1;omega
             · have hgt:cap1<rows.length+more.length:=by omega
               have hpos:0<more.length:=by
                 rcases Nat.eq_zero_or_pos more.length with h0|h0
                 · rcases hroom with ⟨_,hr,hc0⟩|⟨_,_,_,_,hr,_⟩
                   · rw [hr,hc0] at hgt;simp [h0] at hgt
                   · omega
                 · exact h0
               have hmne:more≠[]:=fun hh=>by rw [hh] at hpos;simp at hpos
               obtain ⟨b₂,o₂,hb₂⟩:=b2 hmne
               subst hb₂
               have hbytes:(rows.length+more.length)*inf.bytes<=140737488355328:=by
                 unfold Zim at hbd
                 have:(rows.length+more.length)*inf.bytes<=68719476736*2048:=Nat.mul_le_mul Zo u7
                 omega
               have h63:((rows.length+more.length:Nat):Int)<=9223372036854775807:=by unfold Zim at hbd;omega
               have hrunG: ∃(cells:Array Value) (ncap:Nat),(Builtin.append_ #[t,t] o.type #[.slice ad1 rows.length cap1,.slice (some ⟨b₂,o₂,none⟩) more.length cap2]).run Pg w= .ok (.slice (some ⟨w.heap.size,0,none⟩) (rows.length+more.length) ncap) (w.drew.alloc (.cells cells el))/\
                   rows.length+more.length<=ncap/\ncap*s''<=cells.size/\(∀(i:Nat) row (j:Nat) x,rows[i]? =some row->row[j]? =some x-> ∃v,cells[i*s''+j]? =some v/\RepP g.pr w v x)/\(∀i,i<news.length->cells[rows.length*s''+i]? =news[i]?):=by
                 have hcapge: ∀old,rows.length+more.length<=grownCap w (rows.length+more.length) old el:=fun old=>by
                   unfold grownCap Question.cut;exact Nat.le_add_right _ _
                 rcases hroom with ⟨ha,hr0,hc0⟩|⟨b,cs,el',hb,hl,hpr,how,hTb,hcs,hfit,hrows⟩
                 · subst ha;subst hr0;subst hc0
                   simp only [List.length_nil,Nat.zero_add] at*
                   have:=run_append_nil w t o.type el inf zv u1 u2 u5 ⟨b₂,o₂,none⟩ more.length cap2 news (by rw [l2,u3]) (fun j v hj=>c2' _ rfl j v hj) hpos h63 (by
                     have:more.length*inf.bytes<=140737488355328:=hbytes
                     omega)
                   refine ⟨_,_,this,hcapge 0,?_,fun i row j x hi=>by simp at hi,fun i hi=>?_⟩
                   · have hz:(Builtin.zeroCells zv.cells (grownCap w more.length 0 el-more.length)).size=(grownCap w more.length 0 el-more.length)*s'':=by simp [Builtin.zeroCells,u6]
                     have:=hcapge 0
                     rw [Array.size_append,hz,List.size_toArray,l2,<-Nat.add_mul]
                     exact YJ _ Zo
                   · simp only [Nat.zero_mul,Nat.zero_add]
                     rw [Array.getElem?_append_left (by simpa using hi)]
                     simp
                 · subst hb
                   have hfit0:rows.length*s''<=cs.size:=Yy (YJ _ hl) hfit
                   obtain ⟨olds,l1,c1,og⟩:=Zoz (g:=g) (n:=rows.length) (s:=s'') hcs hfit0
                   have:=run_append_grow w t o.type el inf zv u1 u2 u5 ⟨b,0,none⟩ rows.length cap1 olds (by rw [l1,u3]) (fun j v hj=>c1 j v hj) ⟨b₂,o₂,none⟩ more.length cap2 news (by rw [l2,u3]) (fun j v hj=>c2' _ rfl j v hj) hgt h63 (growslice_fits hgt hbytes)
                   refine ⟨_,_,this,hcapge cap1,?_,fun i row j x hi hj=>?_,fun i hi=>?_⟩
                   · have hz:(Builtin.zeroCells zv.cells (grownCap w (rows.length+more.length) cap1 el-(rows.length+more.length))).size=(grownCap w (rows.length+more.length) cap1 el-(rows.length+more.length))*s'':=by simp [Builtin.zeroCells,u6]
                     have:=hcapge cap1
                     rw [Array.size_append,Array.size_append,hz,List.size_toArray,List.size_toArray,l1,l2,<-Nat.add_mul,<-Nat.add_mul]
                     exact YJ _ Zo
                   · have hj':j<s'':=by have:=Zab hj;rw [(hrows i row hi).1] at this;exact this
                     have hlt':=Za8 (Zab hi) hj'
                     obtain ⟨v,hv1,hv2⟩:=(hrows i row hi).2 j x hj
                     refine ⟨v,?_,hv2⟩
                     rw [Array.getElem?_append_left (by simp [l1];omega),Array.getElem?_append_left (by simp [l1];omega)]
                     rw [List.getElem?_toArray,og _ hlt'];exact hv1
                   · rw [Array.getElem?_append_left (by simp [l1];omega),Array.getElem?_append_right (by simp [l1])]
                     simp [l1]
               obtain ⟨cells,ncap,hrun,hnc,hcsz,hco,hcn⟩:=hrunG
               have hSt:St g (Zag e s.takes) a w:=by
                 rcases htl with htl|⟨m,htl⟩
                 · rw [htl];exact h
                 · rw [htl]
                   obtain ⟨_,hmO,hmd,_⟩:=htk m (by rw [htl];simp)
                   have hno:OBJS∉[m]:=by simp;omega
                   have hbig: ∀κ,κ∈[m]-> ¬BOX<=κ:=fun κ hm hb=>by have:=Zac;simp at hm;omega
                   refine h.gen [m] (fun _=>True) (Ext.refl _ _ _ _) h.fr rfl rfl rfl h.df rfl (fun k hk=>Env.get_set_ne _ _ (by simp at hk;omega)) (fun _ _ _=>rfl) (fun _ _ _ _ b hb=>⟨hb,rfl,rfl⟩) (fun _=> .inl rfl) (fun _ _=>⟨rfl,rfl,rfl⟩)
                     (fun _ _ _ _=>trivial) (fun _ _ _ _ _=>trivial) (fun k hk=>?_) (fun κ hm hκ=>absurd hκ (hbig κ hm)) (fun hm=>absurd hm hno) (fun κ hm hκ=>absurd hκ (hbig κ hm))
                   simp at hk;subst hk
                   refine .tmp hmO ?_
                   simp only [Zag]
                   rw [Env.get_set_same]
                   exact ((h.key k).tm hmO).plain
               obtain ⟨g',s1,s2,s3,s4,s5⟩:=hSt.newRowU (cells:=cells) hlt el (rows:=rows++more) (s:=s'') (len:=rows.length+more.length) (cap:=ncap) Zs hnc hcsz hlens (fun i row j x hi hj=>by
                 rcases Za2 hi with ⟨hi1,hh⟩|⟨hi1,hh⟩
                 · exact hco i row j x hh hj
                 · obtain ⟨v,hv1,hv2⟩:=g2 (i-rows.length) row j x hh hj
                   refine ⟨v,?_,hv2⟩
                   have hi2:i*s''=rows.length*s''+(i-rows.length)*s'':=by rw [<-Nat.add_mul];congr 1;omega
                   rw [hi2,Nat.add_assoc,hcn _ (Zab hv1)];exact hv1) w.drew (.inr rfl)
               exact ⟨.value _,_,_,g',hexec _ _ hrun,.inl rfl,by rw [hdst];exact s1,s2,s3,s4,s5⟩
           · cases heq
         · cases heq
       · cases heq
   · cases ho
 · cases ho
def ZkC (Pg:Program) (z:Nat) (o:Oper) (s:SOp) (nt:Nat):Bool:=
 match o.op,o.dst,s.ins,s.takes,s.outs with
 | .slice t (.tmp t') none (some hx) none,some d,[.k n,y],[n'],[d']=>t'==n && n'==n && d==d' && Nat.blt d nt && Nat.blt n OBJS && n !=d && Za1 hx y && Arg.isNot y n && Zlb Pg t z
 | _,_,_,_,_=>false
def ZgA {e:Env} {y:Arg} {n:Nat} (h:Arg.isNot y n=true):Zaw e [n] y=Zaw e [] y:=by
 cases y with
 | c c=>rfl
 | k m=>
   have hm:m≠n:=fun hh=>by subst hh;simp [Arg.isNot] at h
   simp [Zaw,hm]
def ZpQ (h:St g e a w) {o:Oper} {s:SOp} {z:Nat} (hk:s.kind= .sliceU z) (ho:ZkC Pg z o s g.nt=true) (hd:doOp F s e=some e'):OpOut Pg o a w g e':=by
 unfold ZkC at ho
 split at ho
 ·rename_i t t' hx d n y n' d' hop hdst hins htk hout
  simp only [Yb,beq_iff_eq,Nat.blt_eq,bne_iff_ne] at ho
  obtain ⟨⟨⟨⟨⟨⟨⟨⟨rfl,rfl⟩,rfl⟩,hlt⟩,hn⟩,hne⟩,o1⟩,o2⟩,o3⟩:=ho
  obtain ⟨el,inf,u1,u2,u3,u4⟩:=Zc6 o3
  unfold doOp at hd
  rw [hk,hins,htk,hout] at hd
  have e1:Zaw e [n'] (.k n')=e.get n':=by simp [Zaw]
  simp only [Yp,List.map_nil,Zai,e1,ZgA o2] at hd
  unfold Zjf at hd
  split at hd
  ·cases hd
  ·rename_i ds heq
   split at heq
   ·rename_i s' rows hv heq2
    simp only [Yf,and_true] at heq2
    obtain ⟨q1,q2⟩:=heq2
    split at heq
    ·rename_i hc
     obtain ⟨rfl,h0,hle⟩:=hc
     simp only [Ye] at heq
     subst heq
     simp only [Zag,Env.sets,Ye] at hd
     subst hd
     have hrep:=(h.key n').tm hn
     rw [q1] at hrep
     obtain ⟨ad,cap,hv',hroom⟩:=hrep
     have hcap:rows.length<=cap:=by
      rcases hroom with ⟨_,hr,_⟩|⟨_,_,_,_,hr,_⟩
      ·rw [hr];simp
      ·exact hr
     have hhi:=ZaG h o1 0
     rw [q2] at hhi
     have hb:Zbz (none:Option Operand).isSome (some hx).isSome rows.length ([y].map (Zaw e []))=some (0,hv.toNat,[]):=by
      have:hv.toNat<=rows.length:=by omega
      simp [Zbz,q2,Zj1,h0,this]
     obtain ⟨hr,b1,b2⟩:=Zhu (Pg:=Pg) h true rows.length cap hcap none (some hx) [y] (by simpa [ZbZ] using o1) hb
     let φ:Loc->Loc:=fun ℓ=>if ℓ.1=n' then (d,ℓ.2) else ℓ
     have hev:Act.eval a (.tmp n')= .slice ad rows.length cap:=hv'
     refine ⟨.value (.slice ad hv.toNat cap),.slice ad hv.toNat cap,w,g.remap φ,?_,.inl rfl,?_,Zal (Ext.refl _ _ _ _),rfl,rfl,rfl⟩
     ·simp only [execOp,hop,hev]
      rw [Zaa]
      have hr':(Instr.sliceBounds true rows.length cap none (some (a.eval hx)) none).run Pg w= .ok (0,hv.toNat,cap) w:=hr
      simp only [Option.map_none,YN]
      cases ad with
      | none=>simp [Instr.sliceAt,Instr.slice,run_underlying u1,hr',sizeOf,typeInfo,u2,u3]
      | some ad=>simp [Instr.sliceAt,Instr.slice,run_underlying u1,hr',sizeOf,typeInfo,u2,u3,Addr.add]
     ·rw [hdst]
      refine h.give hlt hn hne φ (fun k c i hk=>by simp [φ,hk]) ?_ ?_
      ·rw [q1];exact ⟨ad,cap,hv'⟩
      ·refine ⟨ad,cap,by rw [List.length_take,Nat.min_eq_left b2],hroom.imp (fun ⟨h1,h2,h3⟩=>⟨h1,by rw [h2];simp,h3⟩) ?_⟩
       rintro ⟨b,cs,t0,hb,hl,hpr,how,hTb,hcs,hfit,hrows⟩
       refine ⟨b,cs,t0,hb,by rw [List.length_take];omega,hpr,by simp [G.remap,how,φ],hTb,hcs,hfit,fun i row hi=>hrows i row ?_⟩
       rw [YH] at hi
       split at hi
       ·exact hi
       ·cases hi
    ·cases heq
   ·cases heq
 ·cases ho
def Zjh (Pg:Program) (t:TypeId) (zz:List P):Bool:=
 match Pg.underlying t with
 | some (.slice el)=>(match (Pg.info? el).bind (·.zero) with
   | some v=>ZeU v.cells.toList (zz.map .p)
   | none=>false)
 | _=>false
def ZiA {t el:TypeId} {zz:List P} {inf:TypeInfo} {zv:Value} (h:Zjh Pg t zz=true) (u1:Pg.underlying t=some (.slice el)) (u2:Pg.info? el=some inf) (u5:inf.zero=some zv) (g:G) (w:World):
  ∀(j:Nat) x,zz[j]? =some x-> ∃v,zv.cells[j]? =some v/\RepP g.pr w v x:=by
 simp only [Zjh,u1,u2,Option.bind_some,u5] at h
 obtain ⟨h1,h2⟩:=Zcf g w 0 0 _ _ h
 intro j x hx
 have hj:=Zab hx
 rw [Yh] at h1
 have hv:zv.cells.toList[j]? =some (zv.cells.toList[j]'(by omega)):=Ya _
 exact ⟨_,by rw [<-Array.getElem?_toList];exact hv,h2 j _ (.p x) hv (by rw [Yn,hx];rfl)⟩
def ZeG (Pg:Program) (z:Nat) (zz:List P) (o:Oper) (s:SOp) (nt:Nat):Bool:=
 Zep o s nt && match o.op with
 | .makeSlice t l c=>ZhN Pg t z && ok2 l c s && Zjh Pg t zz
 | _=>false
def Zkf (h:St g e a w) {o:Oper} {s:SOp} {z:Nat} {zz:List P} (hk:s.kind= .makeSliceZ z zz) (ho:ZeG Pg z zz o s g.nt=true) (hd:doOp F s e=some e'):OpOut Pg o a w g e':=by
 unfold ZeG at ho
 rw [Yb] at ho
 obtain ⟨d,h1,h2,h3,hlt⟩:=ZeW ho.1
 obtain ⟨x,hx,rfl⟩:=Zhe h3 h2 hd
 have ho2:=ho.2
 split at ho2
 ·rename_i t l c hop
  rw [Yb,Yb] at ho2
  obtain ⟨el,inf,zv,u1,u2,u3,u4,u5,u6,u7⟩:=Zcq ho2.1.1
  obtain ⟨d1,d2,q1,q2,q3⟩:=Zfj h ho2.1.2
  have hzr:=ZiA ho2.2 u1 u2 u5 g w
  rw [hk,q1] at hx
  simp only [Zai] at hx
  unfold ZdI at hx
  split at hx
  ·rename_i n m heq
   simp only [Yf,and_true] at heq
   obtain ⟨rfl,rfl⟩:=heq
   split at hx
   ·rename_i hn
    simp only [Zx5,and_true] at hx
    subst hx
    have e1:=ZbB (q2 0)
    have e2:=ZbB (q3 0)
    obtain ⟨hnm,n0,n1,hzl⟩:=hn
    unfold Zim at n1
    let zero:Array Value:=if m.toNat*z=0 then #[] else zv.cells
    let c0:Array Value:=(Array.range (m.toNat*z)).map (zero[· % zero.size]!)
    obtain ⟨g',s1,s2,s3,s4,s5⟩:=h.newRowU (cells:=c0) hlt el (rows:=List.replicate n.toNat zz) (s:=z) (len:=n.toNat) (cap:=m.toNat) Zs Zo (by simp [c0]) (fun i row hi=>by
     rw [List.getElem?_replicate] at hi;split at hi
     ·cases hi;exact hzl
     ·cases hi) (fun i row j x hi hj=>by
     rw [List.getElem?_replicate] at hi
     split at hi
     ·rename_i hin
      cases hi
      have hjz:j<z:=by rw [<-hzl];exact Zab hj
      have hlt:=Za8 (show i<m.toNat by omega) hjz
      obtain ⟨v,hv1,hv2⟩:=hzr j x hj
      refine ⟨v,?_,hv2⟩
      have hz1:zero=zv.cells:=by simp only [zero];rw [if_neg Zo]
      have hm:(i*z+j) % z=j:=by rw [Nat.mul_comm,Nat.mul_add_mod];exact Nat.mod_eq_of_lt hjz
      have hjs:j<zv.cells.size:=by rw [u6];exact hjz
      rw [Array.getElem?_eq_getElem hjs] at hv1
      simp only [c0,Array.getElem?_map,Array.getElem?_range,hlt,if_true,YN,hz1,u6,hm]
      rw [getElem!_pos zv.cells j hjs];exact hv1
     ·cases hi) w (.inl rfl)
    refine ⟨.value _,_,_,g',?_,.inl rfl,by rw [h1];exact s1,s2,s3,s4,s5⟩
    have hwn:IntKind.i64.wrap n=n:=by
     unfold IntKind.wrap IntKind.bits IntKind.signed
     simp
     omega
    have hwm:IntKind.i64.wrap m=m:=by
     unfold IntKind.wrap IntKind.bits IntKind.signed
     simp
     omega
    have hbytes: ¬((inf.bytes:Int)*m>2 ^ 48):=by
     have:(inf.bytes:Int)*m<=2048*68719476736:=Int.mul_le_mul Zo Zo Zo Zo
     omega
    simp only [execOp,hop,e1,e2]
    rw [Zaa]
    have hcond2:(decide (m<0)||decide ((inf.bytes:Int)*m>2 ^ 48)||decide (n<0)||decide (n>m))=false:=by
     simp;omega
    have hc0':(Array.map (fun x=>zero[x % zero.size]!) (Array.range (m.toNat*inf.size)))=c0:=by simp only [c0,u3]
    simp only [Instr.makeSlice,Sem.run_bind,run_underlying u1,Result.andThen_ok,asInt,asIntOf,Sem.run_pure,typeInfo,run_program,u2,hwn,hwm,hcond2,Yw,if_false,run_askRoom,sizeOf]
    by_cases hz0:m.toNat*inf.size=0
    ·have hzero:zero= #[]:=by simp only [zero];rw [<-u3,if_pos hz0]
     rw [hzero] at hc0'
     rw [if_pos hz0]
     simp only [Sem.run_bind,Sem.run_pure,Result.andThen_ok,hc0']
     simp [newRow]
    ·have hzero:zero=zv.cells:=by simp only [zero];rw [<-u3,if_neg hz0]
     rw [hzero] at hc0'
     rw [if_neg hz0]
     simp only [Sem.run_bind,Sem.run_pure,Zak u2 u5,Result.andThen_ok,hc0']
     simp [newRow]
   ·cases hx
  ·cases hx
 ·cases ho2
end each
end Go.Am
end
