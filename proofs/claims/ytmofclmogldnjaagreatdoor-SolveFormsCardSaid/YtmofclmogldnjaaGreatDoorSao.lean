/- Part. -/
import Derived.Test.YtmofclmogldnjaaGreatDoorSan
import Derived.MapKept
import Derived.Carry
import Derived.Laws.StructEq
set_option maxRecDepth 999999
set_option maxHeartbeats 0
set_option linter.all false
section
namespace Go.Am
variable [WI]
variable {Pg:Program}
open Go.MapKept Go.RowKit
def Zeq (d:TypeDesc) (kk:Nat):Bool:=
 match d with
 | .string=>kk==0
 | .int _=>kk==1
 | .bool=>kk==2
 | _=>false
def ZlV (Pg:Program) (t:TypeId) (kk:Nat):Bool:=
 match Pg.underlying t with
 | some (.map key _)=>(match Pg.underlying key with
   | some d=>Zeq d kk
   | none=>false)
 | _=>false
def ZgJ {t kk:Nat} (h:ZlV Pg t kk=true): ∃key el d,Pg.underlying t=some (.map key el)/\Pg.underlying key=some d/\Zeq d kk=true:=by
 unfold ZlV at h
 split at h
 ·rename_i key el h1
  split at h
  ·rename_i d h2;exact ⟨key,el,d,h1,h2,h⟩
  ·cases h
 ·cases h
def Zfc {a b:ByteArray} (h:Zax a=Zax b):a=b:=by
 obtain ⟨a⟩:=a
 obtain ⟨b⟩:=b
 unfold Zax at h
 have:=(List.map_inj_right (fun x y h=>UInt8.toNat_inj.1 h)).1 h
 have e:a=b:=Array.toList_inj.1 this
 subst e;rfl
def Zes {d:TypeDesc} {u v:Value} (h:Instr.sameNow d u v=some true) (n:Nat):Instr.sameBits n v u=true:=by
 cases d<;>cases u<;>cases v<;>simp_all [Instr.sameNow,Instr.sameBits,bytes_beq]
def Zci {pr:Nat->Nat} {w:World} {d:TypeDesc} {u v:Value} {k k':P} {b:Bool} (hd:Zeq d (ZlQ k)=true) (hu:RepP pr w u k) (hv:RepP pr w v k') (h:peqK k k'=some b):Instr.sameNow d u v=some b:=by
 cases hu with
 | int kk n=>
   cases hv with
   | int kk' n'=>
     simp only [peqK] at h
     split at h
     · rename_i e
       cases d<;>simp [Zeq,ZlQ] at hd
       simp only [Instr.sameNow,e,if_true]
       exact h
     · cases h
   | _=>simp [peqK] at h
 | bool c=>
   cases hv with
   | bool c'=>cases d<;>simp [Zeq,ZlQ] at hd;simpa [peqK,Instr.sameNow] using h
   | _=>simp [peqK] at h
 | str bs t ht=>
   cases hv with
   | str bs' t' ht'=>
     cases d<;>simp [Zeq,ZlQ] at hd
     simp only [peqK,Ye] at h
     subst ht;subst ht'
     rw [Zd0] at h
     simp only [Instr.sameNow,Ye]
     rw [<-h]
     rw [Bool.eq_iff_iff,bytes_beq]
     constructor
     · rintro rfl;simp
     · intro hh
       have hh:bs.toList=bs'.toList:=by simpa using hh
       exact Zfc (by rw [Zam,Zam,hh])
   | _=>simp [peqK] at h
 | nils=>simp [peqK] at h
 | sl=>simp [peqK] at h
theorem Zc8 {pr:Nat->Nat} {w:World} {d:TypeDesc} {u:Value} {k:P} (hd:Zeq d (ZlQ k)=true) (hu:RepP pr w u k): ∀(es:List (P×P)) (mes:List MapEntry) (i:Nat) (r:Option (Nat×P)),mes.length=es.length->
   (∀(j:Nat) k' x,es[j]? =some (k',x)-> ∃e,mes[j]? =some e/\RepP pr w e.key k'/\RepP pr w e.val x)->Ztp es k i=some r->
   match r with
   | none=>Instr.findNow d u mes i=some none
   | some (j,x)=> ∃e,i<=j/\mes[j-i]? =some e/\Instr.findNow d u mes i=some (some (j,e.val))/\RepP pr w e.val x/\Instr.sameNow d u e.key=some true
 | [],[],i,r,_,_,h=>by simp only [Ztp,Ye] at h;subst h;rfl
 | (k',x)::es,m::mes,i,r,hl,hr,h=>by
   obtain ⟨e,he,h1,h2⟩:=hr 0 k' x rfl
   simp only [Yi,Ye] at he
   subst he
   unfold Ztp at h
   split at h
   · rename_i hp
     simp only [Ye] at h
     subst h
     have hs:=Zci hd hu h1 hp
     exact ⟨m,Yc _,by simp,by simp [Instr.findNow,hs],h2,hs⟩
   · rename_i hp
     have hs:=Zci hd hu h1 hp
     have ih:=Zc8 hd hu es mes (i+1) r (by simpa using hl) (fun j k' x hj=>by simpa using hr (j+1) k' x (by simpa using hj)) h
     cases r with
     | none=>simp only [Instr.findNow,hs];exact ih
     | some q=>
       obtain ⟨j,x'⟩:=q
       obtain ⟨e,g1,g2,g3,g4,g5⟩:=ih
       refine ⟨e,by omega,?_,by simp only [Instr.findNow,hs];exact g3,g4,g5⟩
       rw [show j-i=(j-(i+1))+1 by omega]
       simpa using g2
   · cases h
 | [],_::_,_,_,hl,_,_=>by simp at hl
 | _::_,[],_,_,hl,_,_=>by simp at hl
def ZbT {P:Program} {w:World} {kt:TypeId} {d:TypeDesc} {k:Value} {kk:Nat} (hd:P.underlying kt=some d) (hk:Zeq d kk=true) (e:Bool) (n:Nat):(Instr.checkKey e (n+1) kt k).run P w= .ok () w:=by
 unfold Instr.checkKey
 simp only [Sem.run_bind,run_underlying hd,Result.andThen]
 cases d<;>cases k<;>simp_all [Zeq]
def Zol (Pg:Program) (t:TypeId) (z:P):Bool:=
 match Pg.underlying t with
 | some (.map _ el)=>(match Pg.info? el with
   | some i=>(match i.zero with
     | some v=>ZcE v (.p z)
     | none=>false)
   | none=>false)
 | _=>false
def ZkF {t key el:TypeId} {z:P} (h:Zol Pg t z=true) (u1:Pg.underlying t=some (.map key el)): ∃i v,Pg.info? el=some i/\i.zero=some v/\ZcE v (.p z)=true:=by
 simp only [Zol,u1] at h
 split at h
 ·rename_i i hi
  split at h
  ·rename_i v hv;exact ⟨i,v,hi,hv,h⟩
  ·cases h
 ·cases h
section each
variable {F:Zae} {g:G} {e e':Env} {a:Act} {w:World}
def Zi6 (κ:Nat) (o:Oper) (s:SOp) (nt:Nat):Bool:=
 Zep o s nt && Nat.ble BOX κ && match o.op,s.ins with
 | .makeMap _ none,[]=>true
 | _,_=>false
def ZnM (h:St g e a w) {o:Oper} {s:SOp} {κ:Nat} (hk:s.kind= .makeMap κ) (ho:Zi6 κ o s g.nt=true) (hno:Zf5 e κ) (hd:doOp F s e=some e'):OpOut Pg o a w g e':=by
 unfold Zi6 at ho
 simp only [Yb] at ho
 obtain ⟨d,h1,h2,h3,hlt⟩:=ZeW ho.1.1
 obtain ⟨x,hx,rfl⟩:=Zhe h3 h2 hd
 have hκ:=Nat.le_of_ble_eq_true ho.1.2
 have ho2:=ho.2
 split at ho2
 ·rename_i t hop hins
  rw [hk,hins] at hx
  simp only [List.map_nil,Zai,ZhC,Ye,Yf,and_true] at hx
  subst hx
  obtain ⟨d,rfl⟩: ∃d₀:Nat,d₀=d:=⟨d,rfl⟩
  have hdO:d<OBJS:=Yq hlt h.nt
  have hds:d<a.tmps.size:=Yq hlt h.sz
  let g':G:={g.lay w.heap.size 0 (d,0,0) with β:=fun k=>if k=κ then w.heap.size else g.β k}
  let w':World:=w.alloc (.map #[] 0)
  have hheap:w'.heap=w.heap.push (.map #[] 0):=rfl
  have hold: ∀b,b<w.heap.size->w'.heap[b]? =w.heap[b]? :=fun b hb=>by rw [hheap,Array.getElem?_push];simp [Nat.ne_of_lt hb]
  have hnew:w'.heap[w.heap.size]? =some (.map #[] 0):=by rw [hheap];simp
  have hsize:w'.heap.size=w.heap.size+1:=by rw [hheap];simp
  have hext:Ext g.T g.pr g.ow w w' g'.pr g'.ow:=by
   refine ⟨rfl,rfl,rfl,by rw [hsize];omega,fun b o' hb=>⟨o',by rw [hold b (Zad hb)];exact hb,SameObj.refl _ _⟩,fun b hb=>?_,fun b hb ho _=>?_,fun b hb _ _=>hold _ hb⟩
   ·simp [g',G.lay,Nat.ne_of_lt hb]
   ·simp [g',G.lay,Nat.ne_of_lt hb,ho]
  have hbig: ∀κ,κ∈[d]-> ¬BOX<=κ:=fun κ hm hb=>by have:=Zac;simp at hm;omega
  refine ⟨.value (.map (some w.heap.size)),.map (some w.heap.size),w',g',?_,.inl rfl,?_,hext,rfl,rfl,rfl⟩
  ·simp only [execOp,hop,Option.map_none]
   rw [Zaa,run_makeMap]
   rfl
  ·rw [h1]
   refine h.gen [d] (fun b=>b<w.heap.size) hext (fun b hb=>?_) rfl rfl rfl (by rw [ZaC];exact h.df) ZaQ (fun k hk=>Env.get_set_ne _ _ (by simp at hk;omega)) (fun k hk _=>Zan (by simpa using hk))
    (fun k hk c i b hb=>?_) (fun κ'=>?_) (fun b hb=>⟨hold b hb,by simp [g',G.lay,Nat.ne_of_lt hb],by simp [g',G.lay,Nat.ne_of_lt hb]⟩) (fun κ _ hκ hl=>(ZaT h hκ hl).1) (fun _ os i ho hi=>(Zcc h ho hi).1)
    (fun k hk=>?_) (fun κ hm hκ=>absurd hκ (hbig κ hm)) (fun hm=>by simp at hm;omega) (fun κ hm hκ=>absurd hκ (hbig κ hm))
   ·change w'.heap.size<=b at hb
    rw [hsize] at hb
    have hne:b≠w.heap.size:=by omega
    simp [g',G.lay,hne,h.fr b Zo]
   ·have hne:b≠w.heap.size:=fun hh=>by rw [hh,(h.fr _ (Yc _)).2] at hb;cases hb
    refine ⟨by simp [g',G.lay,hne,hb],by simp [g',G.lay,hne],hold b ?_⟩
    rcases Yt b w.heap.size with hh|hh
    ·exact hh
    ·rw [(h.fr b hh).2] at hb;cases hb
   ·by_cases hh:κ'=κ
    ·subst hh;exact .inr ⟨hno.1,fun k _=>hno.2 k⟩
    ·exact .inl (by simp [g',G.lay,hh])
   ·simp at hk;subst hk
    refine .tmp hdO ?_
    rw [Env.get_set_same,Zao hds]
    have hb:R.blk g' ⟨true,κ,0⟩=w.heap.size:=by simp [R.blk,g']
    refine ⟨#[],0,by rw [hb],?_,?_,?_,?_,rfl,fun i k x hi=>by simp at hi⟩
    ·rw [hb];simp [g',G.lay]
    ·rw [hb];simp [g',G.lay]
    ·rw [hb];exact h.tf _ (Yc _)
    ·rw [hb];exact hnew
 ·cases ho2
def Zlk (Pg:Program) (kk:Nat) (z:P) (o:Oper) (s:SOp) (nt:Nat):Bool:=
 match o.op,o.dst,s.ins,s.takes,s.outs with
 | .lookup t (.tmp t') ix false,some d,[.k n,y,.k m],[m'],[d',m'']=>t'==n && m'==m && m''==m && d==d' && Nat.blt d nt && Nat.blt n OBJS && Nat.blt m OBJS && n !=m && m !=d && Za1 ix y && Arg.isNot y m && ZlV Pg t kk && Zol Pg t z
 | _,_,_,_,_=>false
def ZlY {e:Env} {n m:Nat} (h:n≠m):Zaw e [m] (.k n)=(e.get n).plain:=by
 simp [Zaw,h]
def plain_mptr {d:D} {r:R} (h:d.plain= .a (.one (.mptr r))):d= .a (.one (.mptr r))∨ ∃es,d= .a (.one (.map r es)):=by
 cases d with
 | a x=>
   cases x with
   | one c=>
     cases c<;>simp [D.plain,A.plain,C.plain] at h
     · subst h;exact .inr ⟨_,rfl⟩
     · subst h;exact .inl rfl
   | agg cs=>simp [D.plain,A.plain] at h
 | _=>simp [D.plain] at h
def ZnN (h:St g e a w) {n:Nat} {r:R} (hn:n<OBJS) (hp:(e.get n).plain= .a (.one (.mptr r))):a.tmps.getD n undef= .map (some (r.blk g)):=by
 have hr:=(h.key n).tm hn
 rcases plain_mptr hp with q|⟨es,q⟩
 ·rw [q] at hr;exact hr
 ·rw [q] at hr;obtain ⟨_,_,hv,_⟩:=hr;exact hv
theorem ZiR (h:St g e a w) {o:Oper} {s:SOp} {kk:Nat} {z:P} (hk:s.kind= .lookup kk z) (ho:Zlk Pg kk z o s g.nt=true) (hd:doOp F s e=some e'):OpOut Pg o a w g e':=by
 unfold Zlk at ho
 split at ho
 ·rename_i t t' ix d n y m m' d' m'' hop hdst hins htk hout
  simp only [Yb,beq_iff_eq,Nat.blt_eq,bne_iff_ne] at ho
  obtain ⟨⟨⟨⟨⟨⟨⟨⟨⟨⟨⟨⟨rfl,rfl⟩,rfl⟩,rfl⟩,hlt⟩,hn⟩,hm⟩,hnm⟩,hne⟩,o1⟩,o2⟩,o3⟩,o4⟩:=ho
  obtain ⟨d,rfl⟩: ∃d₀:Nat,d₀=d:=⟨d,rfl⟩
  obtain ⟨m'',rfl⟩: ∃d₀:Nat,d₀=m'':=⟨m'',rfl⟩
  obtain ⟨key,el,dk,u1,u2,u3⟩:=ZgJ o3
  obtain ⟨inf,zv,z1,z2,z3⟩:=ZkF o4 u1
  unfold doOp at hd
  rw [hk,hins,htk,hout] at hd
  have e1:Zaw e [m''] (.k m'')=e.get m'':=by simp [Zaw]
  simp only [Yp,List.map_nil,Zai,e1,ZgA o2,ZlY hnm] at hd
  unfold ZiH at hd
  split at hd
  ·cases hd
  ·rename_i ds heq
   split at heq
   ·rename_i r k r' es heq2
    simp only [Yf,and_true] at heq2
    obtain ⟨q0,q2,q1⟩:=heq2
    have hev:Act.eval a (.tmp _)= .map (some (r.blk g)):=ZnN h hn q0
    have hrep:=(h.key m'').tm hm
    rw [q1] at hrep
    obtain ⟨mes,clock,hv',hpr,how,hTb,hb,hsz,hes⟩:=hrep
    have hkr:RepP g.pr w (a.eval ix) k:=by
     have:=ZaG h o1 0
     rw [q2] at this
     exact this
    have hdO:d<OBJS:=Yq hlt h.nt
    have hds:d<a.tmps.size:=Yq hlt h.sz
    have fin: ∀(x:P) (v:Value),RepP g.pr w v x->(execOp a.eval o).run Pg w= .ok (.value v) w->e'=(((e.set m'' (e.get m'').plain).set d (one x)).set m'' (.a (.one (.map r' es))))->OpOut Pg o a w g e':=fun x v hx hr he=>by
     refine ⟨.value v,v,w,g,hr,.inl rfl,?_,Ext.refl _ _ _ _,rfl,rfl,rfl⟩
     rw [hdst]
     have hbig: ∀κ,κ∈[d]-> ¬BOX<=κ:=fun κ hm hb=>by have:=Zac;simp at hm;omega
     refine h.gen [d] (fun _=>True) (Ext.refl _ _ _ _) h.fr rfl rfl rfl (by rw [ZaC];exact h.df) ZaQ (fun k hk=>?_) (fun k hk _=>Zan (by simpa using hk)) (fun _ _ _ _ b hb=>⟨hb,rfl,rfl⟩) (fun _=> .inl rfl) (fun _ _=>⟨rfl,rfl,rfl⟩)
      (fun _ _ _ _=>trivial) (fun _ _ _ _ _=>trivial) (fun k hk=>?_) (fun κ hm hκ=>absurd hκ (hbig κ hm)) (fun hm=>by simp at hm;omega) (fun κ hm hκ=>absurd hκ (hbig κ hm))
     ·simp at hk
      rw [he]
      by_cases hkn:k=m''
      ·subst hkn;rw [Env.get_set_same,q1]
      ·rw [Env.get_set_ne _ _ (Ne.symm hkn),Env.get_set_ne _ _ (Ne.symm hk),Env.get_set_ne _ _ (Ne.symm hkn)]
     ·simp at hk;subst hk
      refine .tmp hdO ?_
      rw [he,Env.get_set_ne _ _ hne,Env.get_set_same,Zao hds]
      exact hx
    split at heq
    ·rename_i hpk
     obtain ⟨rfl,hpk⟩:=hpk
     have hd2:Zeq dk (ZlQ k)=true:=by rw [hpk];exact u3
     have hrun: ∀q,Instr.findNow dk (a.eval ix) mes.toList 0=some q->(execOp a.eval o).run Pg w= .ok (.value (match q with|some (_,v)=>v|none=>zv)) w:=fun q hr=>by
      simp only [execOp,hop,hev]
      rw [Zaa]
      unfold Instr.lookup
      simp only [Sem.run_bind,run_underlying u1,Result.andThen_ok,Go.MapKept.run_getObj_map hb,Sem.run_pure,ZbT u2 u3,run_findKey u2 hr]
      cases q with
      | none=>simp [Zak z1 z2]
      | some q=>simp
     split at heq
     ·rename_i j x hf
      have hfn:=Zc8 hd2 hkr es mes.toList 0 _ (by simpa using hsz) (fun j k' x hj=>by simpa using hes j k' x hj) hf
      obtain ⟨en,_,g2,g3,g4,_⟩:=hfn
      simp only [Ye] at heq
      subst heq
      simp only [Zag,Env.sets,Ye] at hd
      exact fin x en.val g4 (hrun _ g3) hd.symm
     ·rename_i hf
      have hfn:=Zc8 hd2 hkr es mes.toList 0 _ (by simpa using hsz) (fun j k' x hj=>by simpa using hes j k' x hj) hf
      simp only [Ye] at heq
      subst heq
      simp only [Zag,Env.sets,Ye] at hd
      have hz:=Zbn z3 g w (0,0,0)
      exact fin z zv hz (hrun _ hfn) hd.symm
     ·cases heq
    ·cases heq
   ·cases heq
 ·cases ho
def Zk2 (Pg:Program) (kk:Nat) (o:Oper) (s:SOp):Bool:=
 match o.op,o.dst,s.ins,s.takes,s.outs with
 | .mapUpdate t (.tmp t') kx vx,none,[.k n,y1,y2,.k m],[m'],[m'']=>t'==n && m'==m && m''==m && Nat.blt n OBJS && Nat.blt m OBJS && n !=m && Za1 kx y1 && Za1 vx y2 && Arg.isNot y1 m && Arg.isNot y2 m && ZlV Pg t kk
 | _,_,_,_,_=>false
def Zgp (h:St g e a w) {o:Oper} {s:SOp} {kk:Nat} (hk:s.kind= .update kk) (ho:Zk2 Pg kk o s=true) (hd:doOp F s e=some e'):OpOut Pg o a w g e':=by
 unfold Zk2 at ho
 split at ho
 ·rename_i t t' kx vx n y1 y2 m m' m'' hop hdst hins htk hout
  simp only [Yb,beq_iff_eq,Nat.blt_eq,bne_iff_ne] at ho
  obtain ⟨⟨⟨⟨⟨⟨⟨⟨⟨⟨rfl,rfl⟩,rfl⟩,hn⟩,hm⟩,hnm⟩,o1⟩,o2⟩,o3⟩,o4⟩,o5⟩:=ho
  obtain ⟨m'',rfl⟩: ∃d₀:Nat,d₀=m'':=⟨m'',rfl⟩
  obtain ⟨key,el,dk,u1,u2,u3⟩:=ZgJ o5
  unfold doOp at hd
  rw [hk,hins,htk,hout] at hd
  have e1:Zaw e [m''] (.k m'')=e.get m'':=by simp [Zaw]
  simp only [Yp,List.map_nil,Zai,e1,ZgA o3,ZgA o4,ZlY hnm] at hd
  unfold ZiD at hd
  split at hd
  ·cases hd
  ·rename_i ds heq
   split at heq
   ·rename_i r k x r' es heq2
    simp only [Yf,and_true] at heq2
    obtain ⟨q0,q2,q3,q1⟩:=heq2
    have hev:Act.eval a (.tmp _)= .map (some (r.blk g)):=ZnN h hn q0
    have hrep:=(h.key m'').tm hm
    rw [q1] at hrep
    obtain ⟨mes,clock,hv',hpr,how,hTb,hb,hsz,hes⟩:=hrep
    have hkr:RepP g.pr w (a.eval kx) k:=by
     have:=ZaG h o1 0
     rw [q2] at this
     exact this
    have hxr:RepP g.pr w (a.eval vx) x:=by
     have:=ZaG h o2 0
     rw [q3] at this
     exact this
    split at heq
    ·rename_i hpk
     obtain ⟨rfl,hpk⟩:=hpk
     obtain ⟨b,hbe⟩: ∃b,b=r.blk g:=⟨_,rfl⟩
     rw [<-hbe] at hev hv' hpr how hTb hb
     have hblt:=Zad hb
     have fin: ∀(es':List (P×P)) (mes':Array MapEntry) (clock':Nat),mes'.size=es'.length->
       (∀(i:Nat) k' x',es'[i]? =some (k',x')-> ∃e,mes'[i]? =some e/\RepP g.pr w e.key k'/\RepP g.pr w e.val x')->
       (execOp a.eval o).run Pg w= .ok .skip {w with heap:=w.heap.setIfInBounds b (.map mes' clock')}->e'=((e.set m'' (e.get m'').plain).set m'' (.a (.one (.map r es'))))->OpOut Pg o a w g e':=fun es' mes' clock' hsz' hes' hr he=>by
      let w':World:={w with heap:=w.heap.setIfInBounds b (.map mes' clock')}
      obtain ⟨hw1,hw2⟩:=heap_set (o':=Obj.map mes' clock') hb
      have hext:Ext g.T g.pr g.ow w w' g.pr g.ow:=by
       refine ⟨rfl,rfl,rfl,by simp [w'],fun b' o' ho'=>?_,fun _ _=>Yc _,fun _ _ h _=>⟨rfl,h⟩,fun b' _ ho' _=>hw2 b' (fun hh=>by rw [hh,how] at ho';cases ho')⟩
       by_cases hbb:b'=b
       ·subst hbb
        rw [hb] at ho';cases ho'
        exact ⟨_,hw1,_,_,rfl⟩
       ·exact ⟨o',(hw2 b' hbb).trans ho',SameObj.refl _ _⟩
      have hbig: ∀κ,κ∈[m'']-> ¬BOX<=κ:=fun κ hm hb=>by have:=Zac;simp at hm;omega
      refine ⟨.skip,undef,w',g,hr,.inr ⟨rfl,rfl⟩,?_,hext,rfl,rfl,rfl⟩
      rw [hdst]
      refine h.gen [m''] (fun b'=>b'≠b) hext (fun b' hb'=>h.fr b' (by simpa [w'] using hb')) rfl rfl rfl h.df rfl (fun k hk=>?_) (fun _ _ _=>rfl) (fun k hk c i b' hb'=>?_) (fun _=> .inl rfl) (fun b' hb'=>⟨hw2 b' hb',rfl,rfl⟩)
       (fun κ _ hκ hl hh=>?_) (fun _ os i ho' hi hh=>?_) (fun k hk=>?_) (fun κ hm hκ=>absurd hκ (hbig κ hm)) (fun hm=>by simp at hm;omega) (fun κ hm hκ=>absurd hκ (hbig κ hm))
      ·simp at hk
       rw [he,Env.get_set_ne _ _ (Ne.symm hk),Env.get_set_ne _ _ (Ne.symm hk)]
      ·simp at hk
       refine ⟨hb',rfl,hw2 b' fun hh=>?_⟩
       rw [hh,how] at hb'
       simp only [Ye,YM] at hb'
       exact hk hb'.1.symm
      ·have:=(ZaT h hκ hl).2.2
       rw [hh,how] at this;cases this
      ·have:=(Zcc h ho' hi).2.2
       rw [hh,how] at this;cases this
      ·simp at hk;subst hk
       refine .tmp hm ?_
       rw [he,Env.get_set_same]
       show RepC g w' (k,0,0) (a.tmps.getD k undef) (.map r es')
       rw [hv']
       refine ⟨mes',clock',by rw [<-hbe],by rw [<-hbe];exact hpr,by rw [<-hbe];exact how,by rw [<-hbe];exact hTb,by rw [<-hbe];exact hw1,hsz',fun i k' x' hi=>?_⟩
       obtain ⟨e,h1,h2,h3⟩:=hes' i k' x' hi
       exact ⟨e,h1,h2.mono hext.keeps (fun _=>Yc _),h3.mono hext.keeps (fun _=>Yc _)⟩
     have hd2:Zeq dk (ZlQ k)=true:=by rw [hpk];exact u3
     split at heq
     ·rename_i j x0 hf
      have hfn:=Zc8 hd2 hkr es mes.toList 0 _ (by simpa using hsz) (fun j k' x hj=>by simpa using hes j k' x hj) hf
      obtain ⟨en,_,g2,g3,_,g5⟩:=hfn
      simp only [Nat.sub_zero,Array.getElem?_toList] at g2
      simp only [Ye] at heq
      subst heq
      simp only [Zag,Env.sets,Ye] at hd
      have hkeep:(Instr.keyThatStays en.key (a.eval kx)).run Pg w= .ok (a.eval kx) w:=by
       have:Instr.sameBits 10000 en.key (a.eval kx)=true:=Zes g5 _
       simp [Instr.keyThatStays,this]
      refine fin _ (mes.modify j fun e=>{e with key:=a.eval kx,val:=a.eval vx}) clock (by simp [hsz]) (fun i k' x' hi=>?_) ?_ hd.symm
      ·rw [List.getElem?_set] at hi
       have hjl:j<mes.size:=by
        rcases Yt j mes.size with hh|hh
        ·exact hh
        ·rw [Array.getElem?_eq_none hh] at g2;cases g2
       by_cases hij:j=i
       ·subst hij
        simp only [if_true] at hi
        split at hi
        ·simp only [Ye,YM] at hi
         obtain ⟨rfl,rfl⟩:=hi
         exact ⟨{en with key:=a.eval kx,val:=a.eval vx},by rw [Array.getElem?_modify,if_pos rfl,g2];rfl,hkr,hxr⟩
        ·cases hi
       ·rw [if_neg hij] at hi
        obtain ⟨e,h1,h2⟩:=hes i k' x' hi
        exact ⟨e,by rw [Array.getElem?_modify,if_neg hij];exact h1,h2⟩
      ·simp only [execOp,hop,hev,Instr.mapUpdate,Sem.run_bind,run_underlying u1,Result.andThen_ok,Go.MapKept.run_getObj_map hb,ZbT u2 u3,run_findKey u2 g3,g2,YN,Option.getD_some,hkeep,run_setObj_map _ hb,Sem.run_pure]
     ·rename_i hf
      have hfn:=Zc8 hd2 hkr es mes.toList 0 _ (by simpa using hsz) (fun j k' x hj=>by simpa using hes j k' x hj) hf
      simp only [Ye] at heq
      subst heq
      simp only [Zag,Env.sets,Ye] at hd
      refine fin _ (mes.push {key:=a.eval kx,val:=a.eval vx,born:=clock}) (clock+1) (by simp [hsz]) (fun i k' x' hi=>?_) ?_ hd.symm
      ·rcases Nat.lt_trichotomy i es.length with hh|hh|hh
       ·rw [Yx hh] at hi
        obtain ⟨e,h1,h2⟩:=hes i k' x' hi
        exact ⟨e,by rw [Array.getElem?_push,if_neg Zo];exact h1,h2⟩
       ·subst hh
        rw [Yo (Yc _),Nat.sub_self] at hi
        simp only [Yi,Ye,YM] at hi
        obtain ⟨rfl,rfl⟩:=hi
        exact ⟨_,by rw [Array.getElem?_push,if_pos hsz.symm],hkr,hxr⟩
       ·rw [List.getElem?_eq_none Ze] at hi;cases hi
      ·simp only [execOp,hop,hev,Instr.mapUpdate,Sem.run_bind,run_underlying u1,Result.andThen_ok,Go.MapKept.run_getObj_map hb,ZbT u2 u3,run_findKey u2 hfn,run_setObj_map _ hb,Sem.run_pure]
     ·cases heq
    ·cases heq
   ·cases heq
 ·cases ho
end each
end Go.Am
end
section
namespace Go.Am
variable [WI]
variable {Pg:Program}
open Go.MapKept Go.RowKit
def okKF (Pg:Program):List Field→List Nat→Nat→Bool
  | [],[],_=>true
  | f :: r, k :: ks, i => f.name != "_" && f.offset == i && (match Pg.underlying f.type with
    | some d=>Zeq d k
    | none=>false) && okKF Pg r ks (i+1)
  | _,_,_=>false
def Zdx (Pg:Program) (t:TypeId):MK->Bool
 | .one k=>match Pg.underlying t with
   | some d=>Zeq d k
   | none=>false
 | .agg ks=>match Pg.underlying t with
   | some (.struct fs)=> !Pg.stoodInHeld t && okKF Pg fs.toList ks 0
   | _=>false
def Zoi {t:TypeId} {ks:MK} (h:Zdx Pg t ks=true): ∃d,Pg.underlying t=some d:=by
 cases ks with
 | one k=>
   simp only [Zdx] at h
   split at h
   · exact ⟨_,by assumption⟩
   · cases h
 | agg ks=>
   simp only [Zdx] at h
   split at h
   · exact ⟨_,by assumption⟩
   · cases h
def Zbc {t:TypeId} {d:TypeDesc} (ht:Pg.underlying t=some d) {u v:Value} {b:Bool} (hs:Instr.sameNow d u v=some b) (n:Nat) (w:World):(Op.equalIn (n+1) t u v).run Pg w= .ok b w:=by
 cases d<;>simp only [Instr.sameNow] at hs<;>try cases hs
 ·cases u<;>cases v<;>simp only [Ye] at hs<;>first|cases hs|skip
  exact run_equalIn_bool' w n t _ _ ht
 ·cases u<;>cases v<;>simp only at hs<;>first|cases hs|skip
  split at hs
  ·rename_i e;subst e;cases hs;exact run_equalIn_int w n t _ _ _ _ ht
  ·cases hs
 ·cases u<;>cases v<;>simp only [Ye] at hs<;>first|cases hs|skip
  refine Eq.trans (run_equalIn_string (P:=Pg) w n t _ _ ht) (congrArg (Result.ok · w) ?_)
  exact (Bool.eq_iff_iff.2 ((bytes_beq _ _).trans ⟨fun h=>by rw [h];simp,fun h=>Zfc (by rw [Zam,Zam,beq_iff_eq.1 h])⟩)).symm
def ZeX {t:TypeId} {d:TypeDesc} (ht:Pg.underlying t=some d) {k:Value} {w:World}: ∀(ms:List MapEntry) (i:Nat) {q r:Option (Nat×Value)},Instr.findNow d k ms i=some q->(Instr.findAsking t k ms i).run Pg w= .ok r w->q=r
 | [],i,q,r,h1,h2=>by
   simp only [Instr.findNow,Ye] at h1
   simp only [Instr.findAsking,Sem.run_pure,Result.ok.injEq] at h2
   rw [<-h1,<-h2.1]
 | m::ms,i,q,r,h1,h2=>by
   simp only [Instr.findNow] at h1
   simp only [Instr.findAsking,Op.equal] at h2
   split at h1
   · rename_i hs
     rw [Sem.run_bind,show Op.maxDepth=9999+1 from rfl,Zbc ht hs,Result.andThen_ok] at h2
     simp only [if_true,Sem.run_pure,Result.ok.injEq] at h2
     simp only [Ye] at h1
     rw [<-h1,<-h2.1]
   · rename_i hs
     rw [Sem.run_bind,show Op.maxDepth=9999+1 from rfl,Zbc ht hs,Result.andThen_ok] at h2
     exact ZeX ht ms (i+1) h1 (by simpa using h2)
   · cases h1
def part_one {t:TypeId} {d:TypeDesc} {k:Nat} (ht:Pg.underlying t=some d) (hd:Zeq d k=true) {vs:Array Value} {i:Nat} {u:Value} (hu:vs[i]? =some u) (w:World):(part t vs i).run Pg w= .ok u w:=by
 have hag:(Go.isAgg t).run Pg w= .ok false w:=by
  simp only [Go.isAgg,Sem.run_bind,run_underlying ht,Result.andThen_ok]
  cases d<;>first|rfl|(simp [Zeq] at hd)
 unfold part
 rw [Sem.run_bind,hag,Result.andThen_ok]
 simp [hu]
def Zho {pr:Nat->Nat} {w w':World} (n:Nat) {us vs:Array Value}: ∀{fs:List Field} {xs ys:List P} {i:Nat} {b:Bool},okKF Pg fs (xs.map ZlQ) i=true->
   (∀(j:Nat) x,xs[j]? =some x-> ∃u,us[i+j]? =some u/\RepP pr w u x)->(∀(j:Nat) y,ys[j]? =some y-> ∃v,vs[i+j]? =some v/\RepP pr w v y)->Zn3 xs ys=some b->(Op.eqFields (n+1) us vs fs).run Pg w'= .ok b w'
 | [],[],[],i,b,_,_,_,h=>by simp only [Zn3,Ye] at h;subst h;rfl
 | f::fs,x::xs,y::ys,i,b,hk,hx,hy,h=>by
   simp only [Yp,okKF,Yb,bne_iff_ne,beq_iff_eq] at hk
   obtain ⟨⟨⟨k1,k2⟩,k3⟩,k4⟩:=hk
   obtain ⟨u,u1,u2⟩:=hx 0 x rfl
   obtain ⟨v,v1,v2⟩:=hy 0 y rfl
   cases hd:Pg.underlying f.type with
   | none=>rw [hd] at k3;cases k3
   | some d=>
   rw [hd] at k3
   simp only at k3
   simp only [Op.eqFields]
   rw [if_pos k1,Sem.run_bind,k2,part_one hd k3 (by simpa using u1),Result.andThen_ok,Sem.run_bind,part_one hd k3 (by simpa using v1),Result.andThen_ok]
   unfold Zn3 at h
   split at h
   · rename_i he
     rw [Sem.run_bind,Zbc hd (Zci k3 u2 v2 he),Result.andThen_ok]
     simp only [Bool.not_true,Yw,if_false]
     exact Zho n k4 (fun j x hj=>by have:=hx (j+1) x (by simpa using hj);rwa [show i+(j+1)=i+1+j by omega] at this) (fun j x hj=>by have:=hy (j+1) x (by simpa using hj);rwa [show i+(j+1)=i+1+j by omega] at this) h
   · rename_i he
     rw [Sem.run_bind,Zbc hd (Zci k3 u2 v2 he),Result.andThen_ok]
     simp only [Ye] at h
     subst h
     rfl
   · cases h
 | [],_::_,_,_,_,h,_,_,_=>by simp [okKF] at h
 | _::_,[],_,_,_,h,_,_,_=>by simp [okKF] at h
 | [],[],_::_,_,_,_,_,_,h=>by simp [Zn3] at h
 | _::_,_::_,[],_,_,_,_,_,h=>by simp [Zn3] at h
def ZoJ {pr:Nat->Nat} {w:World} {vs:Array Value} {xs:List P} (hl:vs.size=xs.length) (h: ∀(i:Nat) u x,vs[i]? =some u->xs[i]? =some x->RepP pr w u x): ∀(j:Nat) x,xs[j]? =some x-> ∃u,vs[0+j]? =some u/\RepP pr w u x:=fun j x hx=>by
 have hj:=Zab hx
 exact ⟨vs[j]'(by omega),by simp,h j _ x (Array.getElem?_eq_getElem Zo) hx⟩
def Zul {pr:Nat->Nat} {w w':World} {t:TypeId} {k k':MV} {u v:Value} {b:Bool} (ht:Zdx Pg t k.kind=true) (hu:RepMV pr w u k) (hv:RepMV pr w v k') (h:peqV k k'=some b):(Op.equal t u v).run Pg w'= .ok b w':=by
 unfold Op.equal
 rw [show Op.maxDepth=9999+1 from rfl]
 cases k with
 | one x=>
   cases k' with
   | one y=>
     simp only [MV.kind,Zdx] at ht
     split at ht
     · rename_i d hd
       exact Zbc hd (Zci ht hu hv h) _ _
     · cases ht
   | agg ys=>simp [peqV] at h
 | agg xs=>
   cases k' with
   | one y=>simp [peqV] at h
   | agg ys=>
     obtain ⟨us,rfl,u1,u2⟩:=hu
     obtain ⟨vs,rfl,v1,v2⟩:=hv
     simp only [MV.kind,Zdx] at ht
     split at ht
     · rename_i fs hd
       simp only [Yb,Bool.not_eq_true'] at ht
       have hf:Pg.fieldsOf t=fs:=by unfold Program.fieldsOf;rw [hd]
       rw [run_equalIn_agg w' 9999 t _ _ (by rw [hf];exact hd) ht.1,hf]
       exact Zho 9998 ht.2 (ZoJ u1 u2) (ZoJ v1 v2) h
     · cases ht
theorem Zvi {pr:Nat→Nat} {w w':World} (em:Bool) (n:Nat) {us:Array Value}: ∀{fs:List Field} {xs:List P} {i:Nat},okKF Pg fs (xs.map ZlQ) i=true→(∀(j:Nat) x,xs[j]? =some x→ ∃u,us[i+j]? =some u∧RepP pr w u x)→
    (forIn fs PUnit.unit fun f _=>do
      if f.name ≠ "_" then Instr.checkKey em (n + 1) f.type (← part f.type us f.offset)
      pure (ForInStep.yield PUnit.unit):Sem PUnit).run Pg w'= .ok () w'
  | [],_,_,_,_=>by simp
  | f::fs,x::xs,i,hk,hx=>by
    simp only [List.map_cons,okKF,Bool.and_eq_true,bne_iff_ne,beq_iff_eq] at hk
    obtain ⟨⟨⟨k1,k2⟩,k3⟩,k4⟩:=hk
    obtain ⟨u,u1,u2⟩:=hx 0 x rfl
    cases hd:Pg.underlying f.type with
    | none=>rw [hd] at k3;cases k3
    | some d=>
    rw [hd] at k3
    simp only at k3
    simp only [List.forIn_cons,Sem.run_bind,k1,ne_eq,not_false_eq_true,if_true,Result.andThen_ok,k2,part_one hd k3 (by simpa using u1),ZbT hd k3,Sem.run_pure]
    exact Zvi em n k4 fun j x hj=>by have:=hx (j+1) x (by simpa using hj);rwa [show i+(j+1)=i+1+j by omega] at this
  | _::_,[],_,h,_=>by simp [okKF] at h
def Zqq {pr:Nat->Nat} {w w':World} {t:TypeId} {k:MV} {u:Value} (ht:Zdx Pg t k.kind=true) (hu:RepMV pr w u k) (em:Bool):(Instr.checkKey em 10000 t u).run Pg w'= .ok () w':=by
 cases k with
 | one x=>
   simp only [MV.kind,Zdx] at ht
   split at ht
   · rename_i d hd;exact ZbT hd ht em 9999
   · cases ht
 | agg xs=>
   obtain ⟨us,rfl,u1,u2⟩:=hu
   simp only [MV.kind,Zdx] at ht
   split at ht
   · rename_i fs hd
     simp only [Yb,Bool.not_eq_true'] at ht
     rw [show (10000:Nat)=9998+1+1 from rfl,Instr.checkKey]
     simp only [Sem.run_bind,run_underlying hd,Result.andThen_ok]
     rw [<-Array.forIn_toList]
     have:=Zvi (w':=w') em 9998 ht.2 (ZoJ u1 u2)
     simp at this⊢
     rw [this]
     rfl
   · cases ht
theorem Zzl {pr:Nat->Nat} {w w':World} {t:TypeId} {k:MV} {u:Value} (ht:Zdx Pg t k.kind=true) (hu:RepMV pr w u k): ∀(es:List (MV×MV)) (ms:List MapEntry) (i:Nat) {r:Option (Nat×MV)},ms.length=es.length->
   (∀(j:Nat) k' x,es[j]? =some (k',x)-> ∃e,ms[j]? =some e/\RepMV pr w e.key k'/\RepMV pr w e.val x)->Zpc es k i=some r->
   ∃r',(Instr.findAsking t u ms i).run Pg w'= .ok r' w'/\match r with
     | none=>r'=none
     | some (j,x)=> ∃e k',i<=j/\ms[j-i]? =some e/\es[j-i]? =some (k',x)/\r'=some (j,e.val)/\peqV k k'=some true
 | [],[],i,r,_,_,hf=>by
   simp only [Zpc,Ye] at hf;subst hf
   exact ⟨none,by simp [Instr.findAsking],rfl⟩
 | (k',x)::es,m::ms,i,r,hl,hr,hf=>by
   obtain ⟨e,h0,h1,h2⟩:=hr 0 k' x rfl
   simp only [Yi,Ye] at h0
   subst h0
   simp only [Zpc] at hf
   split at hf
   · rename_i he
     simp only [Ye] at hf;subst hf
     have hq:=Zul (w':=w') ht hu h1 he
     exact ⟨some (i,m.val),by simp [Instr.findAsking,hq],m,k',Yc _,by simp,by simp,rfl,he⟩
   · rename_i he
     have hq:=Zul (w':=w') ht hu h1 he
     obtain ⟨r',q1,q2⟩:=Zzl ht hu es ms (i+1) (by simpa using hl) (fun j k' x hj=>by simpa using hr (j+1) k' x (by simpa using hj)) hf
     refine ⟨r',by simp only [Instr.findAsking];rw [Sem.run_bind,hq,Result.andThen_ok];simpa using q1,?_⟩
     cases r with
     | none=>exact q2
     | some jx=>
       obtain ⟨j,x⟩:=jx
       obtain ⟨e',k',z1,z2,z3,z4,z5⟩:=q2
       have hj:j-i=(j-(i+1))+1:=by omega
       exact ⟨e',k',by omega,by rw [hj];simpa using z2,by rw [hj];simpa using z3,z4,z5⟩
   · cases hf
 | [],_::_,_,_,hl,_,_=>by simp at hl
 | _::_,[],_,_,hl,_,_=>by simp at hl
theorem ZnI {pr:Nat->Nat} {w w':World} {t:TypeId} {k:MV} {u:Value} (ht:Zdx Pg t k.kind=true) (hu:RepMV pr w u k) {es:List (MV×MV)} {ms:List MapEntry} {r:Option (Nat×MV)} (hl:ms.length=es.length)
   (hr: ∀(j:Nat) k' x,es[j]? =some (k',x)-> ∃e,ms[j]? =some e/\RepMV pr w e.key k'/\RepMV pr w e.val x) (hf:Zpc es k 0=some r):
   ∃r',(Instr.findKey t u ms).run Pg w'= .ok r' w'/\match r with
     | none=>r'=none
     | some (j,x)=> ∃e k',ms[j]? =some e/\es[j]? =some (k',x)/\r'=some (j,e.val)/\peqV k k'=some true:=by
 obtain ⟨d,hd⟩:=Zoi ht
 obtain ⟨r',q1,q2⟩:=Zzl (w':=w') ht hu es ms 0 hl hr hf
 refine ⟨r',?_,?_⟩
 · unfold Instr.findKey
   rw [Sem.run_bind,run_underlying hd,Result.andThen_ok]
   split
   · rename_i q hq
     rw [ZeX hd _ _ hq q1];simp
   · exact q1
 · cases r with
   | none=>exact q2
   | some jx=>
     obtain ⟨j,x⟩:=jx
     obtain ⟨e,k',_,z2,z3,z4,z5⟩:=q2
     exact ⟨e,k',by simpa using z2,by simpa using z3,z4,z5⟩
def Zny {pr:Nat->Nat} {w:World} {u v:Value} {k k':P} (hu:RepP pr w u k) (hv:RepP pr w v k') (h:peqK k k'=some true) (n:Nat):Instr.sameBits n v u=true:=by
 have hd: ∃d,Zeq d (ZlQ k)=true:=by
  cases k with
  | int kk=>exact ⟨.int kk,rfl⟩
  | bool=>exact ⟨.bool,rfl⟩
  | str=>exact ⟨.string,rfl⟩
  | sl=>simp [peqK] at h
 obtain ⟨d,hd⟩:=hd
 exact Zes (Zci hd hu hv h) n
def ZqR {pr:Nat->Nat} {w:World} (n:Nat): ∀{xs ys:List P} {us vs:List Value},us.length=xs.length->vs.length=ys.length->(∀(i:Nat) u x,us[i]? =some u->xs[i]? =some x->RepP pr w u x)->(∀(i:Nat) u x,vs[i]? =some u->ys[i]? =some x->RepP pr w u x)->Zn3 xs ys=some true->
   vs.length=us.length/\(vs.zip us).all (fun (x,y)=>Instr.sameBits n x y)=true
 | [],[],[],[],_,_,_,_,_=>⟨rfl,rfl⟩
 | x::xs,y::ys,u::us,v::vs,h1,h2,h3,h4,h=>by
   unfold Zn3 at h
   split at h
   · rename_i he
     obtain ⟨q1,q2⟩:=ZqR n (us:=us) (vs:=vs) (by simpa using h1) (by simpa using h2) (fun i u x hu hx=>h3 (i+1) u x (by simpa using hu) (by simpa using hx)) (fun i u x hu hx=>h4 (i+1) u x (by simpa using hu) (by simpa using hx)) h
     refine ⟨by simp [q1],?_⟩
     simp only [List.zip_cons_cons,List.all_cons,Yb]
     exact ⟨Zny (h3 0 u x rfl rfl) (h4 0 v y rfl rfl) he n,q2⟩
   · cases h
   · cases h
 | [],_::_,_,_,_,_,_,_,h=>by simp [Zn3] at h
 | _::_,[],_,_,_,_,_,_,h=>by simp [Zn3] at h
 | [],[],_::_,_,h,_,_,_,_=>by simp at h
 | [],[],[],_::_,_,h,_,_,_=>by simp at h
 | _::_,_::_,[],_,h,_,_,_,_=>by simp at h
 | _::_,_::_,_::_,[],_,h,_,_,_=>by simp at h
def ZzO {pr:Nat->Nat} {w:World} {u v:Value} {k k':MV} (hu:RepMV pr w u k) (hv:RepMV pr w v k') (h:peqV k k'=some true) (n:Nat):Instr.sameBits (n+1) v u=true:=by
 cases k with
 | one x=>
   cases k' with
   | one y=>exact Zny hu hv h _
   | agg ys=>simp [peqV] at h
 | agg xs=>
   cases k' with
   | one y=>simp [peqV] at h
   | agg ys=>
     obtain ⟨us,rfl,u1,u2⟩:=hu
     obtain ⟨vs,rfl,v1,v2⟩:=hv
     obtain ⟨q1,q2⟩:=ZqR n (us:=us.toList) (vs:=vs.toList) (by simpa using u1) (by simpa using v1) (fun i u x hu=>u2 i u x (by simpa using hu)) (fun i u x hu=>v2 i u x (by simpa using hu)) h
     simp only [Instr.sameBits,Yb,beq_iff_eq]
     exact ⟨by simpa using q1,q2⟩
section each
variable {F:Zae} {g:G} {e e':Env} {a:Act} {w:World}
def ZsI {k:Nat} {v:Value} {x:A} {y:MV} (hr:RepD g w k v (.a x)) (hy:mvOf x=some y):RepMV g.pr w v y:=by
 cases x with
 | one c=>
   cases c<;>simp [mvOf,C.toP] at hy
   · subst hy;exact hr
   · subst hy;exact hr.1
 | agg cs=>
   simp only [mvOf,YG] at hy
   obtain ⟨xs,h1,rfl⟩:=hy
   obtain ⟨vs,rfl,hc⟩:=hr
   obtain ⟨q1,q2⟩:=Zii h1 hc
   exact ⟨vs,rfl,by rw [q1];simpa using hc.1,fun i u x hu hx=>q2 i u x (by simpa using hu) hx⟩
def mv_a {k:Nat} {v:Value} {x:MV} (h:RepMV g.pr w v x):RepA g w k 0 v x.a:=by
 cases x with
 | one x=>exact h
 | agg xs=>
   obtain ⟨vs,rfl,h1,h2⟩:=h
   refine ⟨vs,rfl,by simp [h1],fun i u x hu hx=>?_⟩
   rw [Yn,YG] at hx
   obtain ⟨y,hy,rfl⟩:=hx
   exact h2 i u y (by simpa using hu) hy
def Zz7 {k c:Nat} {v:Value} {x:MV} (h:RepMV g.pr w v x):RepA g w k c v x.a:=by
 cases x with
 | one x=>exact h
 | agg xs=>
   obtain ⟨vs,rfl,h1,h2⟩:=h
   refine ⟨vs,rfl,by simp [h1],fun i u x hu hx=>?_⟩
   rw [Yn,YG] at hx
   obtain ⟨y,hy,rfl⟩:=hx
   exact h2 i u y (by simpa using hu) hy
def Zqa (Pg:Program) (t:TypeId) (ks:MK):Bool:=
 match Pg.underlying t with
 | some (.map key _)=>Zdx Pg key ks
 | _=>false
def Zou (Pg:Program) (t:TypeId) (z:MV):Bool:=
 match Pg.underlying t with
 | some (.map _ el)=>(match Pg.info? el with
   | some i=>(match i.zero,z with
     | some v,.one x=>ZcE v (.p x)
     | some (.agg vs),.agg xs=>ZeU vs.toList (xs.map .p)
     | _,_=>false)
   | none=>false)
 | _=>false
def Zkw {t key el:TypeId} {z:MV} (h:Zou Pg t z=true) (u1:Pg.underlying t=some (.map key el)): ∃i v,Pg.info? el=some i/\i.zero=some v/\ ∀pr w,RepMV pr w v z:=by
 simp only [Zou,u1] at h
 split at h
 ·rename_i i hi
  refine ⟨i,?_⟩
  split at h
  ·rename_i v x hv
   exact ⟨v,hi,hv,fun pr w=>Zbn h ⟨0,fun _=>False,pr,fun _=>none,id,id⟩ w (0,0,0)⟩
  ·rename_i vs xs hv
   refine ⟨_,hi,hv,fun pr w=>?_⟩
   obtain ⟨h1,h2⟩:=Zcf ⟨0,fun _=>False,pr,fun _=>none,id,id⟩ w 0 0 _ _ h
   refine ⟨vs,rfl,by simpa using h1,fun i u x hu hx=>h2 i u (.p x) (by simpa using hu) (by rw [Yn,hx];rfl)⟩
  ·cases h
 ·cases h
def ZkM {cs:List C} {es:List (MV×MV)} (h:Zq6 cs=some es):cs=[.mapc es]:=by
 unfold Zq6 at h
 split at h
 ·cases h;rfl
 ·cases h
def ZgK (h:St g e a w) {own:Option Nat} {r:R} {es:List (MV×MV)} {d:D} (hκ: ∀κ,own=some κ->BOX<=κ) (hd:e.get (own.getD OBJS)=d) (hx:ZlL own r d=some es):MapO g w (r.blk g) es/\g.T (r.blk g):=by
 unfold ZlL at hx
 split at hx
 ·rename_i κ cs
  split at hx
  ·rename_i hc
   simp only [Yb,beq_iff_eq] at hc
   have hcs:=ZkM hx
   subst hcs
   simp only [Option.getD_some] at hd
   have hb:=hκ κ rfl
   refine ⟨?_,?_⟩
   ·simp only [R.blk,hc.1,if_true,hc.2]
    exact ((h.key κ).bx hb _ hd).map
   ·simp only [R.blk,hc.1,if_true,hc.2]
    exact h.tb κ hb (by rw [hd];simp)
  ·cases hx
 ·rename_i os
  split at hx
  ·cases hx
  ·rename_i ho
   split at hx
   ·rename_i cs hcs
    have hce:=ZkM hx
    subst hce
    simp only [Option.getD_none] at hd
    simp only [R.blk,ho,if_false]
    exact ⟨((h.key OBJS).ob rfl os hd r.k _ hcs).map,h.to os r.k hd (Zab hcs)⟩
   ·cases hx
 ·cases hx
def ZyP (own:Option Nat):Bool:=match own with
 | some κ=>Nat.ble BOX κ
 | none=>true
def Zj8 {own:Option Nat} (h:ZyP own=true): ∀κ,own=some κ->BOX<=κ:=fun κ hk=>by
 subst hk;exact Nat.le_of_ble_eq_true h
def Zil (Pg:Program) (own:Option Nat) (ks:MK) (z:MV) (ok:Bool) (o:Oper) (s:SOp) (nt:Nat):Bool:=
 Zep o s nt && match o.op,s.ins with
 | .lookup t m ix ok',[y,yk,.k κ']=>ok==ok' && Za1 m y && Za1 ix yk && κ'==own.getD OBJS && ZyP own && Zqa Pg t ks && Zou Pg t z
 | _,_=>false
def ZmD {own:Option Nat} {r:R} {d:D} {es:List (MV×MV)} (h:ZlL own r d.plain=some es):d.plain=d:=by
 cases d with
 | a x=>
   cases x with
   | one c=>cases own<;>simp [D.plain,A.plain,ZlL] at h
   | agg cs=>
     cases own with
     | none=>simp [D.plain,A.plain,ZlL] at h
     | some κ=>
       simp only [D.plain,A.plain,ZlL] at h
       split at h
       · have:=ZkM h
         simp only [D.plain,A.plain,D.a.injEq,A.agg.injEq]
         cases cs with
         | nil=>rfl
         | cons c cs=>
           cases cs with
           | nil=>
             simp only [Yp,List.map_nil,Yf,and_true] at this⊢
             cases c<;>simp [C.plain] at this⊢
           | cons _ _=>simp at this
       · cases h
 | tup xs=>cases own<;>simp [D.plain,ZlL] at h
 | _=>rfl
theorem Znp (h:St g e a w) {o:Oper} {s:SOp} {own:Option Nat} {ks:MK} {z:MV} {ok:Bool} (hk:s.kind= .lookupX own ks z ok) (ho:Zil Pg own ks z ok o s g.nt=true) (hd:doOp F s e=some e'):OpOut Pg o a w g e':=by
 unfold Zil at ho
 rw [Yb] at ho
 refine ZbG h ho.1 hd fun d hx=>?_
 have ho2:=ho.2
 rw [hk] at hx
 split at ho2
 · rename_i t m ix ok' y yk κ' hop hins
   simp only [Yb,beq_iff_eq] at ho2
   obtain ⟨⟨⟨⟨⟨⟨rfl,o1⟩,o2⟩,rfl⟩,o3⟩,o4⟩,o5⟩:=ho2
   rw [hins] at hx
   simp only [Yp,List.map_nil,Zai] at hx
   unfold Zhi at hx
   split at hx
   · rename_i r x dm heq
     simp only [Yf,and_true] at heq
     obtain ⟨q1,q2,q3⟩:=heq
     split at hx
     · rename_i es k hes hkx
       split at hx
       · rename_i hkk
         subst hkk
         split at hx
         · rename_i q hq
           simp only [Zx5,and_true] at hx
           subst hx
           have q3':(e.get (own.getD OBJS)).plain=dm:=by simpa [Zaw] using q3
           subst q3'
           have hpl:=ZmD hes
           rw [hpl] at hes
           obtain ⟨⟨mes,clock,hb,hsz,hent,_,_⟩,_⟩:=ZgK h (Zj8 o3) rfl hes
           have hm:=ZaG h o1 0
           rw [q1] at hm
           have hm:a.eval m= .map (some (r.blk g)):=hm
           have hkr:=ZaG h o2 0
           rw [q2] at hkr
           have hkr:=ZsI hkr hkx
           unfold Zqa at o4
           split at o4
           · rename_i key el u1
             obtain ⟨inf,zv,z1,z2,z3⟩:=Zkw o5 u1
             have hl:mes.toList.length=es.length:=by simpa using hsz
             have hent': ∀(j:Nat) k' x,es[j]? =some (k',x)-> ∃e,mes.toList[j]? =some e/\RepMV g.pr w e.key k'/\RepMV g.pr w e.val x:=fun j k' x hj=>by simpa using hent j k' x hj
             obtain ⟨r',f1,f2⟩:=ZnI (Pg:=Pg) (w':=w) o4 hkr hl hent' hq
             have hval: ∃v,(Instr.lookup t (a.eval m) (a.eval ix) ok).run Pg w= .ok (if ok then .tuple #[v,.bool q.isSome] else v) w/\RepMV g.pr w v (Zsu z q):=by
               cases q with
               | none=>
                 simp only at f2
                 subst f2
                 refine ⟨zv,?_,z3 _ _⟩
                 rw [hm]
                 unfold Instr.lookup
                 simp only [Sem.run_bind,run_underlying u1,Result.andThen_ok,Go.MapKept.run_getObj_map hb,Sem.run_pure,Zqq o4 hkr,f1,Zak z1 z2]
                 rfl
               | some jx=>
                 obtain ⟨j,x⟩:=jx
                 simp only at f2
                 obtain ⟨en,k',g1,g2,rfl,g4⟩:=f2
                 obtain ⟨en',e1,e2,e3⟩:=hent' j k' x g2
                 rw [g1] at e1
                 cases e1
                 refine ⟨en.val,?_,e3⟩
                 rw [hm]
                 unfold Instr.lookup
                 simp only [Sem.run_bind,run_underlying u1,Result.andThen_ok,Go.MapKept.run_getObj_map hb,Sem.run_pure,Zqq o4 hkr,f1]
                 rfl
             obtain ⟨v,hrun,hrep⟩:=hval
             refine ⟨_,by simp only [execOp,hop];rw [Zaa,hrun,Result.andThen_ok],fun k=>?_⟩
             cases ok with
             | false=>exact mv_a hrep
             | true=>
               refine ⟨#[v,.bool q.isSome],rfl,rfl,fun j u x hu hx=>?_⟩
               match j with
               | 0=>simp at hu hx;subst hu hx;exact Zz7 hrep
               | 1=>simp at hu hx;subst hu hx;exact RepP.bool _
               | j+2=>simp at hx
           · cases o4
         · cases hx
       · cases hx
     · cases hx
   · cases hx
 · cases ho2
end each
end Go.Am
end
section
namespace Go.Am
variable [WI]
variable {Pg:Program}
open Go.MapKept Go.RowKit
section each
variable {F:Zae} {g:G} {e e':Env} {a:Act} {w:World}
def St.newMap (h:St g e a w) {d κ:Nat} (hlt:d<g.nt) (hκ:BOX<=κ) (hno:Zf5 e κ):
  ∃g',St g' ((e.set d (.a (.one (.mptr ⟨true,κ,0⟩)))).set κ (.a (.agg [.mapc []]))) (a.put (some d) (.map (some w.heap.size))) (w.alloc (.map #[] 0))/\
   Ext g.T g.pr g.ow w (w.alloc (.map #[] 0)) g'.pr g'.ow/\g'.ω=g.ω/\g'.T=g.T/\g'.nt=g.nt:=by
 have hsame: ∀ℓ b,g.ow b=some ℓ->(w.alloc (Obj.map #[] 0)).heap[b]? =w.heap[b]? :=fun ℓ b hb=>heap_alloc_old w _ b (by
  rcases Yt b w.heap.size with hh|hh
  ·exact hh
  ·rw [(h.fr b hh).2] at hb;cases hb)
 have hdO:d<OBJS:=Yq hlt h.nt
 have hds:d<a.tmps.size:=Yq hlt h.sz
 have hne:d≠κ:=by have:=Zac;omega
 let g':G:={g with β:=fun k=>if k=κ then w.heap.size else g.β k}
 have hext:Ext g.T g.pr g.ow w (w.alloc (.map #[] 0)) g'.pr g'.ow:=ZlC _ _ _ _ _
 have hget: ∀k,((e.set d (.a (.one (.mptr ⟨true,κ,0⟩)))).set κ (.a (.agg [.mapc []]))).get k=if k=κ then .a (.agg [.mapc []]) else if k=d then .a (.one (.mptr ⟨true,κ,0⟩)) else e.get k:=fun k=>by
  rw [Env.get_set,Env.get_set]
  by_cases h1:κ=k
  ·subst h1;simp
  ·by_cases h2:d=k
   ·subst h2;simp [h1,hne]
   ·simp [h1,h2,Ne.symm h1,Ne.symm h2]
 refine ⟨g',?_,hext,rfl,rfl,rfl⟩
 refine h.gen [d,κ] (fun b=>b<w.heap.size) hext (fun b hb=>h.fr b (by simp at hb;omega)) rfl rfl rfl (by rw [ZaC];exact h.df) ZaQ (fun k hk=>?_) (fun k hk _=>?_) (fun k hk c i b hb=>⟨hb,rfl,hsame _ b hb⟩)
  (fun κ'=>?_) (fun b hb=>⟨heap_alloc_old w _ b hb,rfl,rfl⟩) (fun κ' _ hκ' hl=>(ZaT h hκ' hl).1) (fun _ os i ho hi=>(Zcc h ho hi).1) (fun k hk=>?_) (fun κ' hm hκb=>?_) (fun hm=>?_) (fun κ' hm hκb hl=>?_)
 ·simp at hk;rw [hget,if_neg hk.2,if_neg hk.1]
 ·simp at hk;exact Zan hk.1
 ·by_cases hh:κ'=κ
  ·subst hh;exact .inr ⟨hno.1,fun k _=>hno.2 k⟩
  ·exact .inl (by simp [g',hh])
 ·simp at hk
  rcases hk with rfl|rfl
  ·refine .tmp hdO ?_
   rw [hget,if_neg hne,if_pos rfl,Zao hds]
   show _=Value.map (some (R.blk g' _))
   simp [R.blk,g']
  ·refine .box hκ fun cs'' hcs=>?_
   rw [hget,if_pos rfl] at hcs
   cases hcs
   have hb:g'.β k=w.heap.size:=by simp [g']
   rw [hb]
   exact .inl ⟨[],rfl,#[],0,heap_alloc_new w _,rfl,fun i k x hi=>by simp at hi,(h.fr _ (Yc _)).1,(h.fr _ (Yc _)).2⟩
 ·simp at hm
  rcases hm with rfl|rfl
  ·have:=Zac;omega
  ·rw [hget,if_pos rfl];exact .inr ⟨_,rfl⟩
 ·simp at hm;have:=Zac;omega
 ·simp at hm
  rcases hm with rfl|rfl
  ·have:=Zac;omega
  ·refine .inr ⟨.inl (by simp [g']),fun κ'' hm' hκ'' _ _=>?_⟩
   simp at hm'
   rcases hm' with rfl|rfl
   ·have:=Zac;omega
   ·rfl
def Zg9 (κ:Nat) (o:Oper) (s:SOp) (nt:Nat):Bool:=
 match o.op,o.dst,s.ins,s.outs,s.takes with
 | .makeMap _ none,some d,[],[d',κ'],[]=>κ'==κ && Nat.ble BOX κ && d==d' && Nat.blt d nt
 | _,_,_,_,_=>false
def Znc (h:St g e a w) {o:Oper} {s:SOp} {κ:Nat} (hk:s.kind= .makeMapX κ) (ho:Zg9 κ o s g.nt=true) (hno:Zf5 e κ) (hd:doOp F s e=some e'):OpOut Pg o a w g e':=by
 unfold Zg9 at ho
 split at ho
 ·rename_i t d d' κ' hop hdst hins hout htk
  simp only [Yb,beq_iff_eq,Nat.ble_eq,Nat.blt_eq] at ho
  obtain ⟨⟨⟨e1,hκ⟩,e2⟩,hlt⟩:=ho
  obtain ⟨d,rfl⟩: ∃d₀:Nat,d₀=d:=⟨d,rfl⟩
  rw [e1,<-e2] at hout
  obtain ⟨ds,hx,hs⟩:=Zgk htk hd
  rw [hk,hins] at hx
  simp only [List.map_nil,Zai,ZfU,Ye] at hx
  subst hx
  rw [hout] at hs
  simp only [Env.sets,Ye] at hs
  subst hs
  obtain ⟨g',h1,h2,h3,h4,h5⟩:=h.newMap hlt hκ hno
  refine ⟨.value _,_,_,g',?_,.inl rfl,by rw [hdst];exact h1,h2,h3,h4,h5⟩
  simp only [execOp,hop,Option.map_none]
  rw [Zaa,run_makeMap]
  rfl
 ·cases ho
theorem St.setMap (h:St g e a w) {own:Option Nat} {r:R} {d d':D} {es es':List (MV×MV)} (hκ: ∀κ,own=some κ->BOX<=κ) (hd:e.get (own.getD OBJS)=d) (hx:ZlL own r d=some es) (hp:ZoI own r d es'=some d')
   {mes':Array MapEntry} (clock':Nat) (hsz:mes'.size=es'.length) (hent: ∀(i:Nat) k x,es'[i]? =some (k,x)-> ∃e,mes'[i]? =some e/\RepMV g.pr w e.key k/\RepMV g.pr w e.val x) (he: ∀k,e'.get k=if k=own.getD OBJS then d' else e.get k):
   St g e' a {w with heap:=w.heap.setIfInBounds (r.blk g) (.map mes' clock')}/\Ext g.T g.pr g.ow w {w with heap:=w.heap.setIfInBounds (r.blk g) (.map mes' clock')} g.pr g.ow:=by
 obtain ⟨⟨mes,clock,hb,_,_,hpr,how⟩,hT⟩:=ZgK h hκ hd hx
 generalize hbe:r.blk g=b at hb hpr how hT
 let w':World:={w with heap:=w.heap.setIfInBounds b (.map mes' clock')}
 obtain ⟨hw1,hw2⟩:=heap_set (o':=Obj.map mes' clock') hb
 have hext:Ext g.T g.pr g.ow w w' g.pr g.ow:=by
   refine ⟨rfl,rfl,rfl,by simp [w'],fun b' o' ho'=>?_,fun _ _=>Yc _,fun _ _ h _=>⟨rfl,h⟩,fun b' _ ho' hnT=>hw2 b' (fun hh=>hnT (hh ▸ hT))⟩
   by_cases hbb:b'=b
   · subst hbb
     rw [hb] at ho';cases ho'
     exact ⟨_,hw1,_,_,rfl⟩
   · exact ⟨o',(hw2 b' hbb).trans ho',SameObj.refl _ _⟩
 have hnew:MapO g w' b es':=⟨mes',clock',hw1,hsz,fun i k x hi=>by
   obtain ⟨e,q1,q2,q3⟩:=hent i k x hi
   exact ⟨e,q1,q2.mono hext.keeps (fun _=>Yc _),q3.mono hext.keeps (fun _=>Yc _)⟩,hpr,how⟩
 refine ⟨?_,hext⟩
 have hob:=Zac
 cases own with
 | some κ=>
   have hκb:=hκ κ rfl
   simp only [Option.getD_some] at hd he
   unfold ZlL at hx
   split at hx
   · rename_i κ1 cs heq
     cases heq
     split at hx
     · rename_i hc
       simp only [Yb,beq_iff_eq] at hc
       have hbk:b=g.β κ:=by rw [<-hbe];simp [R.blk,hc.1,hc.2]
       simp only [ZoI,Ye] at hp
       subst hp
       have hlive:e.get κ≠ .undef:=by rw [hd];simp
       refine h.gen [κ] (fun b'=>b'≠b) hext (fun b' hb'=>h.fr b' (by simpa [w'] using hb')) rfl rfl rfl h.df rfl (fun k hk=>?_) (fun _ _ _=>rfl) (fun k hk c i b' hb'=>⟨hb',rfl,hw2 b' fun hh=>by rw [hh,how] at hb';cases hb'⟩) (fun _=> .inl rfl) (fun b' hb'=>⟨hw2 b' hb',rfl,rfl⟩)
         (fun κ' hk' hκ' hl hh=>?_) (fun _ os i ho' hi hh=>h.dbo κ os i hκb hlive ho' hi (hbk.symm.trans hh.symm)) (fun k hk=>?_) (fun κ' hm _=>?_) (fun hm=>by simp at hm;omega) (fun κ' hm _ _=>?_)
       · simp at hk;rw [he,if_neg hk]
       · simp at hk'
         exact hk' (h.db κ' κ hκ' hκb hl hlive (hh.trans hbk))
       · simp at hk;subst hk
         refine .box hκb fun cs' hcs'=>?_
         rw [he,if_pos rfl] at hcs'
         cases hcs'
         rw [<-hbk]
         exact .inl ⟨es',rfl,hnew⟩
       · simp at hm;subst hm;rw [he,if_pos rfl];exact .inr ⟨_,rfl⟩
       · simp at hm;subst hm;exact .inl ⟨hlive,rfl⟩
     · cases hx
   · rename_i heq;cases heq
   · cases hx
 | none=>
   simp only [Option.getD_none] at hd he
   cases d with
   | objs os=>
     have hx:(if r.own then none else match os[r.k]? with|some cs=>Zq6 cs|none=>none)=some es:=hx
     split at hx
     · cases hx
     · rename_i ho
       have hbk:b=g.ω r.k:=by rw [<-hbe];simp [R.blk,ho]
       split at hx
       · rename_i cs hcs
         have hkl:=Zab hcs
         simp only [ZoI,Ye] at hp
         subst hp
         refine h.gen [OBJS] (fun b'=>b'≠b) hext (fun b' hb'=>h.fr b' (by simpa [w'] using hb')) rfl rfl rfl h.df rfl (fun k hk=>?_) (fun _ _ _=>rfl) (fun k hk c i b' hb'=>⟨hb',rfl,hw2 b' fun hh=>by rw [hh,how] at hb';cases hb'⟩) (fun _=> .inl rfl) (fun b' hb'=>⟨hw2 b' hb',rfl,rfl⟩)
           (fun κ' hk' hκ' hl hh=>h.dbo κ' os r.k hκ' hl hd hkl (hh.trans hbk)) (fun hno=>absurd (List.mem_singleton.2 rfl) hno) (fun k hk=>?_) (fun κ' hm hκ'=>by simp at hm;omega) (fun _=>⟨os,os.set r.k [.mapc es'],hd,by rw [he,if_pos rfl],by simp⟩) (fun κ' hm hκ' _=>by simp at hm;omega)
         · simp at hk;rw [he,if_neg hk]
         · simp at hk;subst hk
           refine .obj fun os' hos i cs'' hi=>?_
           rw [he,if_pos rfl] at hos
           cases hos
           by_cases hik:i=r.k
           · subst hik
             rw [List.getElem?_set_self hkl] at hi
             cases hi
             rw [<-hbk]
             exact .inl ⟨es',rfl,hnew⟩
           · rw [List.getElem?_set_ne (Ne.symm hik)] at hi
             have hne:g.ω i≠b:=fun hh=>hik (h.dob os i r.k hd (Zab hi) hkl (hh.trans hbk))
             exact ((h.key OBJS).ob rfl os hd i cs'' hi).mono hext (fun _=>Yc _) (fun j b' hb'=>⟨hb',rfl,hw2 b' fun hh=>by rw [hh,how] at hb';cases hb'⟩) (fun _ h=>h) (fun _ _=>rfl) (hw2 _ hne) rfl rfl
       · cases hx
   | a x=>cases x<;>simp [ZlL] at hx
   | tup xs=>simp [ZlL] at hx
   | undef=>simp [ZlL] at hx
def Zi1 (Pg:Program) (own:Option Nat) (ks:MK) (o:Oper) (s:SOp):Bool:=
 match o.op,o.dst,s.ins,s.takes,s.outs with
 | .mapUpdate t m kx vx,none,[y,y1,y2,.k κ'],[κ₂],[κ₃]=>Za1 m y && Za1 kx y1 && Za1 vx y2 && κ'==own.getD OBJS && κ₂==own.getD OBJS && κ₃==own.getD OBJS && ZyP own && Zqa Pg t ks
 | _,_,_,_,_=>false
theorem Zod {es:List (MV×MV)} {k x:MV} {q:Option (Nat×MV)} (i:Nat) (k' x':MV) (h:(putE es k x q)[i]? =some (k',x')):
   (k'=k/\x'=x/\(match q with|some (j,_)=>i=j/\i<es.length|none=>i=es.length))∨(es[i]? =some (k',x')/\(match q with|some (j,_)=>i≠j|none=>i<es.length)):=by
 cases q with
 | some jx=>
   obtain ⟨j,y⟩:=jx
   simp only [putE] at h
   rw [List.getElem?_set] at h
   by_cases hij:j=i
   · subst hij
     simp only [if_true] at h
     split at h
     · simp only [Ye,YM] at h
       exact .inl ⟨h.1.symm,h.2.symm,rfl,by assumption⟩
     · cases h
   · rw [if_neg hij] at h
     exact .inr ⟨h,Ne.symm hij⟩
 | none=>
   simp only [putE] at h
   rcases Nat.lt_trichotomy i es.length with hh|hh|hh
   · rw [Yx hh] at h
     exact .inr ⟨h,hh⟩
   · subst hh
     rw [Yo (Yc _),Nat.sub_self] at h
     simp only [Yi,Ye,YM] at h
     exact .inl ⟨h.1.symm,h.2.symm,rfl⟩
   · rw [List.getElem?_eq_none Ze] at h;cases h
def Zoj (h:St g e a w) {o:Oper} {s:SOp} {own:Option Nat} {ks:MK} (hk:s.kind= .updateX own ks) (ho:Zi1 Pg own ks o s=true) (hd:doOp F s e=some e'):OpOut Pg o a w g e':=by
 unfold Zi1 at ho
 split at ho
 · rename_i t m kx vx y y1 y2 κ' κ₂ κ₃ hop hdst hins htk hout
   simp only [Yb,beq_iff_eq] at ho
   obtain ⟨⟨⟨⟨⟨⟨⟨o1,o2⟩,o3⟩,e1⟩,e2⟩,e3⟩,o4⟩,o5⟩:=ho
   rw [e1] at hins
   rw [e2] at htk
   rw [e3] at hout
   unfold doOp at hd
   rw [hk,hins,htk,hout] at hd
   have hbx:Zaw e [own.getD OBJS] (.k (own.getD OBJS))=e.get (own.getD OBJS):=by simp [Zaw]
   simp only [Yp,List.map_nil,Zai] at hd
   rw [hbx] at hd
   unfold Zhr at hd
   split at hd
   · cases hd
   · rename_i ds heq
     split at heq
     · rename_i r x z dm heq2
       simp only [Yf,and_true] at heq2
       obtain ⟨q1,q2,q3,q4⟩:=heq2
       split at heq
       · rename_i es k v hes hkx hvx
         split at heq
         · rename_i hkk
           subst hkk
           split at heq
           · rename_i q hq
             split at heq
             · rename_i m' hm'
               simp only [Ye] at heq
               subst heq
               simp only [Zag,Env.sets,Ye] at hd
               subst hd
               have hκ:=Zj8 o4
               obtain ⟨⟨mes,clock,hb,hsz,hent,hpr,how⟩,hT⟩:=ZgK h hκ q4 hes
               have hm:=Zb2 h o1 [own.getD OBJS]
               rw [q1] at hm
               have hm:a.eval m= .map (some (r.blk g)):=hm
               have hkr:=Zb2 h o2 [own.getD OBJS]
               rw [q2] at hkr
               have hkr:=ZsI hkr hkx
               have hvr:=Zb2 h o3 [own.getD OBJS]
               rw [q3] at hvr
               have hvr:=ZsI hvr hvx
               unfold Zqa at o5
               split at o5
               · rename_i key el u1
                 have hl:mes.toList.length=es.length:=by simpa using hsz
                 have hent': ∀(j:Nat) k' x,es[j]? =some (k',x)-> ∃e,mes.toList[j]? =some e/\RepMV g.pr w e.key k'/\RepMV g.pr w e.val x:=fun j k' x hj=>by simpa using hent j k' x hj
                 obtain ⟨r',f1,f2⟩:=ZnI (Pg:=Pg) (w':=w) o5 hkr hl hent' hq
                 have hget: ∀k',((e.set (own.getD OBJS) (e.get (own.getD OBJS)).plain).set (own.getD OBJS) m').get k'=if k'=own.getD OBJS then m' else e.get k':=fun k'=>by
                   rw [Env.get_set,Env.get_set]
                   by_cases h1:own.getD OBJS=k'
                   · simp [h1]
                   · simp [h1,Ne.symm h1]
                 have fin: ∀(mes':Array MapEntry) (clock':Nat),mes'.size=(putE es k v q).length->(∀(i:Nat) k' x',(putE es k v q)[i]? =some (k',x')-> ∃e,mes'[i]? =some e/\RepMV g.pr w e.key k'/\RepMV g.pr w e.val x')->
                     (execOp a.eval o).run Pg w= .ok .skip {w with heap:=w.heap.setIfInBounds (r.blk g) (.map mes' clock')}->OpOut Pg o a w g ((e.set (own.getD OBJS) (e.get (own.getD OBJS)).plain).set (own.getD OBJS) m'):=fun mes' clock' hs' he' hr=>by
                   obtain ⟨g1,g2⟩:=h.setMap hκ q4 hes hm' clock' hs' he' hget
                   exact ⟨.skip,undef,_,g,hr,.inr ⟨rfl,rfl⟩,by rw [hdst];exact g1,g2,rfl,rfl,rfl⟩
                 cases q with
                 | none=>
                   simp only at f2
                   subst f2
                   refine fin (mes.push {key:=a.eval kx,val:=a.eval vx,born:=clock}) (clock+1) (by simp [putE,hsz]) (fun i k' x' hi=>?_) ?_
                   · rcases Zod i k' x' hi with ⟨rfl,rfl,hi⟩|⟨h1,h2⟩
                     · simp only at hi
                       subst hi
                       exact ⟨_,by rw [Array.getElem?_push,if_pos hsz.symm],hkr,hvr⟩
                     · simp only at h2
                       obtain ⟨e,z1,z2⟩:=hent i k' x' h1
                       exact ⟨e,by rw [Array.getElem?_push,if_neg Zo];exact z1,z2⟩
                   · simp only [execOp,hop,hm,Instr.mapUpdate,Sem.run_bind,run_underlying u1,Result.andThen_ok,Go.MapKept.run_getObj_map hb,Zqq o5 hkr,f1,run_setObj_map _ hb,Sem.run_pure]
                 | some jx=>
                   obtain ⟨j,x0⟩:=jx
                   simp only at f2
                   obtain ⟨en,k0,g1,g2,rfl,g4⟩:=f2
                   have g1:mes[j]? =some en:=by simpa using g1
                   obtain ⟨en',z1,z2,z3⟩:=hent j k0 x0 g2
                   rw [g1] at z1
                   cases z1
                   have hkeep:(Instr.keyThatStays en.key (a.eval kx)).run Pg w= .ok (a.eval kx) w:=by
                     have:Instr.sameBits 10000 en.key (a.eval kx)=true:=ZzO hkr z2 g4 9999
                     simp [Instr.keyThatStays,this]
                   refine fin (mes.modify j fun e=>{e with key:=a.eval kx,val:=a.eval vx}) clock (by simp [putE,hsz]) (fun i k' x' hi=>?_) ?_
                   · rcases Zod i k' x' hi with ⟨rfl,rfl,hi,_⟩|⟨h1,h2⟩
                     · subst hi
                       exact ⟨{en with key:=a.eval kx,val:=a.eval vx},by rw [Array.getElem?_modify,if_pos rfl,g1];rfl,hkr,hvr⟩
                     · simp only at h2
                       obtain ⟨e,z1,z2⟩:=hent i k' x' h1
                       exact ⟨e,by rw [Array.getElem?_modify,if_neg (Ne.symm h2)];exact z1,z2⟩
                   · simp only [execOp,hop,hm,Instr.mapUpdate,Sem.run_bind,run_underlying u1,Result.andThen_ok,Go.MapKept.run_getObj_map hb,Zqq o5 hkr,f1,g1,YN,Option.getD_some,hkeep,run_setObj_map _ hb,Sem.run_pure]
               · cases o5
             · cases heq
           · cases heq
         · cases heq
       · cases heq
     · cases heq
 · cases ho
end each
end Go.Am
end
section
namespace Go.Am
variable [WI]
variable {Pg:Program}
def C.quiet:C->Bool
 | .ref _=>false
 | .clo _ [] []=>true
 | .clo _ _ _=>false
 | .own _ _ _=>false
 | .mptr _=>false
 | .map _ _=>false
 | _=>true
def C.quiet_ment {c:C} (h:c.quiet=true) (κ:Nat):c.ment κ=false:=by
 cases c with
 | ref r=>cases h
 | own r s n=>cases h
 | mptr r=>cases h
 | map r es=>cases h
 | clo f p q=>cases p<;>cases q<;>first|rfl|cases h
 | _=>rfl
def Zlq {cs:List C} (h:cs.all C.quiet=true) (κ:Nat):cs.any (C.ment κ)=false:=by
 rw [List.any_eq_false]
 intro c hc
 rw [C.quiet_ment (List.all_eq_true.1 h c hc) κ];simp
def K.quiet:K->Bool
 | .alloc _ z=>z.all C.quiet
 | .build z _=>z.all C.quiet
 | _=>true
def SOp.quiet (s:SOp):Bool:=s.kind.quiet && s.ins.all fun| .c c=>c.quiet|_=>true
def ZiU {cs:List C} {κ n:Nat} (h:cs.any (C.ment κ)=false):(cs.take n).any (C.ment κ)=false:=by
 rw [List.any_eq_false] at*;exact fun c hc=>h c (List.mem_of_mem_take hc)
def ZiF {cs:List C} {κ n:Nat} (h:cs.any (C.ment κ)=false):(cs.drop n).any (C.ment κ)=false:=by
 rw [List.any_eq_false] at*;exact fun c hc=>h c (List.mem_of_mem_drop hc)
def Zp2 {cs:List C} {κ:Nat} (h:cs.any (C.ment κ)=false):(cs.map C.plain).any (C.ment κ)=false:=by
 rw [List.any_eq_false] at*
 intro c hc
 obtain ⟨y,hy,rfl⟩:=List.mem_map.1 hc
 rw [plain_ment];exact h y hy
def Zs6 {cs xs:List C} {off n κ:Nat} (h:cut cs off n=some xs) (hm:cs.any (C.ment κ)=false):xs.any (C.ment κ)=false:=by
 unfold cut at h
 split at h
 ·cases h;exact ZiU (ZiF hm)
 ·cases h
def Zn6 {cs xs ys:List C} {off κ:Nat} (h:put cs off xs=some ys) (hm:cs.any (C.ment κ)=false) (hx:xs.any (C.ment κ)=false):ys.any (C.ment κ)=false:=by
 obtain ⟨_,rfl⟩:=Zbh h
 rw [List.any_append,List.any_append,ZiU hm,ZiF hm,hx];rfl
def ZlD {cs xs ys:List C} {off κ:Nat} (h:putO cs off xs=some ys) (hm:cs.any (C.ment κ)=false) (hx:xs.any (C.ment κ)=false):ys.any (C.ment κ)=false:=Zn6 (ZiV h).2 hm hx
def Zkg {n:Option Nat} {cs:List C} {x:A} {κ:Nat} (h:ZoD n cs=some x) (hm:cs.any (C.ment κ)=false):x.ment κ=false:=by
 unfold ZoD at h
 split at h
 ·cases h;exact hm
 ·cases h
 ·cases h;exact hm
def ZcD {n:Option Nat} {cs:List C} {off κ:Nat} {x:A} (h:ZaZ n cs off=some x) (hm:cs.any (C.ment κ)=false):x.ment κ=false:=by
 have h:=(Zgu h).2
 split at h
 ·rename_i xs hx;exact Zkg h (Zs6 hx hm)
 ·cases h
def Zfo {n:Option Nat} {cs:List C} {off κ:Nat} (hm:cs.any (C.ment κ)=false):(ZaM n cs off).any (C.ment κ)=false:=by
 unfold ZaM
 rw [List.any_append,List.any_append,ZiU hm,ZiF hm,Zp2 (ZiU (ZiF hm))];rfl
def Zh1 {κ:Nat}: ∀{offs:List (Nat×Nat)} {ds:List D} {z cs:List C},Zc3 z offs ds=some cs->z.any (C.ment κ)=false->(∀d∈ds,d.ment κ=false)->cs.any (C.ment κ)=false
 | [],[],z,cs,h,hz,_=>by simp only [Zc3,Ye] at h;subst h;exact hz
 | (o,n)::os,.a x::r,z,cs,h,hz,hd=>by
   simp only [Zc3] at h
   split at h
   · split at h
     · rename_i z' hz'
       exact Zh1 h (Zn6 hz' hz (hd _ Yr)) fun d hd'=>hd d (Yk _ hd')
     · cases h
   · cases h
 | [],_::_,_,_,h,_,_=>by simp [Zc3] at h
 | _::_,[],_,_,h,_,_=>by simp [Zc3] at h
 | _::_,.undef::_,_,_,h,_,_=>by simp [Zc3] at h
 | _::_,.tup _::_,_,_,h,_,_=>by simp [Zc3] at h
 | _::_,.objs _::_,_,_,h,_,_=>by simp [Zc3] at h
def ZdJ {os:List (List C)} {k κ:Nat} {cs:List C} (h:os.any (fun cs=>cs.any (C.ment κ))=false) (hc:cs.any (C.ment κ)=false):(os.set k cs).any (fun cs=>cs.any (C.ment κ))=false:=by
 rw [List.any_eq_false] at h⊢
 intro c hm
 rcases List.mem_or_eq_of_mem_set hm with hm|rfl
 ·exact h c hm
 ·rw [hc];simp
def ZdF {os:List (List C)} {k κ:Nat} {cs:List C} (h:os.any (fun cs=>cs.any (C.ment κ))=false) (hc:os[k]? =some cs):cs.any (C.ment κ)=false:=by
 rw [List.any_eq_false] at h
 simpa using h cs (YA hc)
def Zh7 {κ:Nat}: ∀{ds:List D} {rs:List R},ZbV ds=some rs->(∀d∈ds,d.ment κ=false)-> ∀r∈rs,(r.own && r.k==κ)=false
 | [],rs,h,_,r,hr=>by simp [ZbV] at h;subst h;cases hr
 | .a (.one (.ref q))::rest,rs,h,hd,r,hr=>by
   simp only [ZbV] at h
   split at h
   · rename_i rs' h'
     cases h
     rcases List.mem_cons.1 hr with rfl|hr
     · have:=hd _ Yr
       simpa [D.ment,A.ment,A.cells,C.ment] using this
     · exact Zh7 h' (fun d hd'=>hd d (Yk _ hd')) r hr
   · cases h
 | .a (.one (.p _))::_,_,h,_,_,_=>by simp [ZbV] at h
 | .a (.one (.tip _ _))::_,_,h,_,_,_=>by simp [ZbV] at h
 | .a (.one (.view _ _))::_,_,h,_,_,_=>by simp [ZbV] at h
 | .a (.one (.clo _ _ _))::_,_,h,_,_,_=>by simp [ZbV] at h
 | .a (.one .nilp)::_,_,h,_,_,_=>by simp [ZbV] at h
 | .a (.one (.uniq _ _))::_,_,h,_,_,_=>by simp [ZbV] at h
 | .a (.one (.own _ _ _))::_,_,h,_,_,_=>by simp [ZbV] at h
 | .a (.one .junk)::_,_,h,_,_,_=>by simp [ZbV] at h
 | .a (.agg _)::_,_,h,_,_,_=>by simp [ZbV] at h
 | .undef::_,_,h,_,_,_=>by simp [ZbV] at h
 | .tup _::_,_,h,_,_,_=>by simp [ZbV] at h
 | .objs _::_,_,h,_,_,_=>by simp [ZbV] at h
def mem1 {P:D->Prop} {x:D} (h:P x): ∀d∈[x],P d:=by intro d hd;simp at hd;subst hd;exact h
def mem2 {P:D->Prop} {x y:D} (h:P x) (h':P y): ∀d∈[x,y],P d:=by intro d hd;simp at hd;rcases hd with rfl|rfl<;>assumption
def Zn5 {F:Zae} {k:K} {ds ds':List D} {κ:Nat} (h:Zai F k ds=some ds') (hcall:k.isCall=false) (hq:k.quiet=true) (hcr:κ∉k.creates) (hd: ∀d∈ds,d.ment κ=false):
   ∀d∈ds',d.ment κ=false:=by
 cases k with
 | call=>cases hcall
 | callv=>cases hcall
 | callU=>cases hcall
 | mov=>
   simp only [Zai] at h;unfold Zqe at h;split at h
   · cases h;exact hd
   · cases h
 | pick=>
   simp only [Zai] at h;unfold Zpa at h;split at h
   · rename_i b x y
     cases h
     refine mem1 ?_
     cases b
     · exact hd y Zs
     · exact hd x Zs
   · cases h
 | alloc κ' z=>
   simp only [Zai] at h;unfold Zk8 at h;split at h
   · cases h
     refine mem2 ?_ (Zlq hq κ)
     simp only [D.ment,A.ment,A.cells,C.ment,List.any_cons,List.any_nil,Bool.true_and,Bool.or_false,beq_eq_false_iff_ne]
     exact fun hh=>hcr (by rw [hh];exact List.mem_singleton.2 rfl)
   · cases h
 | box κ'=>
   simp only [Zai] at h;unfold ZpP at h;split at h
   · rename_i x
     cases h
     refine mem2 ?_ (hd (.a x) Zs)
     simp only [D.ment,A.ment,A.cells,C.ment,List.any_cons,List.any_nil,Bool.true_and,Bool.or_false,beq_eq_false_iff_ne]
     exact fun hh=>hcr (by rw [hh];exact List.mem_singleton.2 rfl)
   · cases h
 | build z offs=>
   simp only [Zai] at h;unfold ZhB at h;split at h
   · rename_i cs hcs;cases h;exact mem1 (Zh1 hcs (Zlq hq κ) hd)
   · cases h
 | load n=>
   simp only [Zai] at h;unfold ZlW at h;split at h
   · split at h
     · split at h
       · rename_i xs hxs x hx
         cases h
         refine mem1 (Zkg hx ?_)
         rw [List.any_map,List.any_eq_false]
         intro p _;simp [C.ment]
       · cases h
     · cases h
   · cases h
 | loadB κ' n=>
   simp only [Zai] at h;unfold Zji at h;split at h
   · rename_i κ'' off cs
     split at h
     · split at h
       · rename_i x hx
         cases h
         refine mem1 ?_
         simp only [D.ment]
         rw [A.plain_ment]
         exact ZcD hx (hd (.a (.agg cs)) Zs)
       · cases h
     · cases h
   · cases h
 | loadBT κ' n=>
   simp only [Zai] at h;unfold Zgv at h;split at h
   · rename_i κ'' off cs
     split at h
     · split at h
       · rename_i x hx
         cases h
         have:=hd (.a (.agg cs)) Zs
         exact mem2 (ZcD hx this) (Zfo this)
       · cases h
     · cases h
   · cases h
 | loadO n=>
   simp only [Zai] at h;unfold Zi5 at h;split at h
   · rename_i k off os
     split at h
     · rename_i cs hcs
       split at h
       · rename_i x hx
         cases h
         refine mem1 ?_
         simp only [D.ment]
         rw [A.plain_ment]
         exact ZcD hx (ZdF (hd (.objs os) Zs) hcs)
       · cases h
     · cases h
   · cases h
 | loadOT n=>
   simp only [Zai] at h;unfold Zgy at h;split at h
   · rename_i k off os
     split at h
     · rename_i cs hcs
       split at h
       · rename_i x hx
         cases h
         have h0:=hd (.objs os) Zs
         have:=ZdF h0 hcs
         exact mem2 (ZcD hx this) (ZdJ h0 (Zfo this))
       · cases h
     · cases h
   · cases h
 | storeB κ' n=>
   simp only [Zai] at h;unfold Zgs at h;split at h
   · rename_i κ'' off x cs
     split at h
     · split at h
       · rename_i cs' hcs'
         cases h
         exact mem1 (ZlD hcs' (hd (.a (.agg cs)) Zs) (hd (.a x) Zs))
       · cases h
     · cases h
   · cases h
 | storeO n=>
   simp only [Zai] at h;unfold Zgg at h;split at h
   · rename_i k off x os
     split at h
     · split at h
       · rename_i cs hcs
         split at h
         · rename_i cs' hcs'
           cases h
           have h0:=hd (.objs os) Zs
           exact mem1 (ZdJ h0 (ZlD hcs' (ZdF h0 hcs) (hd (.a x) Zs)))
         · cases h
       · cases h
     · cases h
   · cases h
 | nilCheck=>
   simp only [Zai] at h;unfold Zfv at h;split at h
   · cases h;exact hd
   · cases h;exact hd
   · cases h
 | fieldAddr o=>
   simp only [Zai] at h;unfold ZeL at h;split at h
   · rename_i r
     cases h
     have:=hd (.a (.one (.ref r))) Zs
     exact mem1 (by simpa [D.ment,A.ment,A.cells,C.ment] using this)
   · cases h;exact mem1 rfl
   · cases h
 | indexAddr s=>
   simp only [Zai] at h;unfold Zdn at h;split at h
   · rename_i r s' m n
     split at h
     · cases h
       have:=hd (.a (.one (.own r s' m))) Zs
       exact mem1 (by simpa [D.ment,A.ment,A.cells,C.ment] using this)
     · cases h
   · split at h
     · split at h
       · split at h
         · cases h;exact mem1 rfl
         · cases h
       · cases h
     · cases h
   · cases h
 | indexS=>
   simp only [Zai] at h;unfold Zgq at h;split at h
   · split at h
     · split at h
       · cases h;exact mem1 rfl
       · cases h
     · cases h
   · cases h
 | bin op=>
   simp only [Zai] at h;unfold ZqA at h;split at h
   · split at h
     · cases h;exact mem1 rfl
     · cases h
   · cases h
 | binB op=>
   simp only [Zai] at h;unfold Zpd at h;split at h
   · split at h
     · cases h;exact mem1 rfl
     · cases h;exact mem1 rfl
     · cases h
   · cases h
 | neqS=>
   simp only [Zai] at h;unfold Zoa at h;split at h
   · split at h
     · cases h;exact mem1 rfl
     · cases h
   · cases h
 | not=>
   simp only [Zai] at h;unfold Zst at h;split at h
   · cases h;exact mem1 rfl
   · cases h
 | neg=>
   simp only [Zai] at h;unfold ZsM at h;split at h
   · cases h;exact mem1 rfl
   · cases h
 | conv k=>
   simp only [Zai] at h;unfold Znx at h;split at h
   · cases h;exact mem1 rfl
   · cases h
 | convBS=>
   simp only [Zai] at h;unfold ZiM at h;split at h
   · split at h
     · split at h
       · cases h;exact mem1 rfl
       · cases h
     · cases h
   · cases h
 | buildSlice s=>
   simp only [Zai] at h;unfold ZcB at h;split at h
   · split at h
     · cases h;exact mem1 rfl
     · cases h
   · cases h
 | append s=>
   simp only [Zai] at h;unfold Zgl at h;split at h
   · split at h
     · split at h
       · cases h;exact mem1 rfl
       · cases h
     · cases h
   · cases h
 | len=>
   simp only [Zai] at h;unfold Zs0 at h;split at h
   · cases h;exact mem1 rfl
   · cases h;exact mem1 rfl
   · split at h
     · cases h;exact mem1 rfl
     · cases h
   · cases h
 | lenS=>
   simp only [Zai] at h;unfold Znj at h;split at h
   · cases h;exact mem1 rfl
   · cases h
 | min2=>
   simp only [Zai] at h;unfold Zpy at h;split at h
   · split at h
     · cases h;exact mem1 rfl
     · cases h
   · cases h
 | max2=>
   simp only [Zai] at h;unfold Zsd at h;split at h
   · split at h
     · cases h;exact mem1 rfl
     · cases h
   · cases h
 | slice s lo hi mx=>
   simp only [Zai] at h;unfold Zja at h;split at h
   · split at h
     · split at h
       · split at h
         · split at h
           · cases h
           · cases h;exact mem1 rfl
         · split at h
           · split at h
             · cases h;exact mem1 rfl
             · cases h;exact mem1 rfl
           · cases h
         · cases h
       · cases h
     · cases h
   · cases h
 | sliceS lo hi=>
   simp only [Zai] at h;unfold Zi4 at h;split at h
   · split at h
     · cases h;exact mem1 rfl
     · cases h
   · cases h
 | fieldV off=>
   simp only [Zai] at h;unfold ZiG at h;split at h
   · split at h
     · cases h;exact mem1 rfl
     · cases h
   · cases h
 | extract i=>
   simp only [Zai] at h;unfold ZdT at h;split at h
   · rename_i xs
     split at h
     · rename_i x hx
       cases h
       refine mem1 ?_
       have:=hd (.tup xs) Zs
       simp only [D.ment,List.any_eq_false] at this
       have:=this x (YA hx)
       simpa [D.ment] using this
     · cases h
   · cases h
 | makeFunc f first=>
   simp only [Zai] at h;unfold Zd7 at h;split at h
   · rename_i rs hrs
     cases h
     refine mem1 ?_
     have:=Zh7 hrs hd
     simp only [D.ment,A.ment,A.cells,C.ment,List.any_cons,List.any_nil,Bool.or_false,Bool.or_eq_false_iff,List.any_eq_false]
     refine ⟨fun r hr=>?_,fun r hr=>?_⟩
     · simpa using this r (List.mem_of_mem_take hr)
     · simpa using this r (List.mem_of_mem_drop hr)
   · cases h
 | makeSlice s=>
   simp only [Zai] at h;unfold ZeQ at h;split at h
   · split at h
     · cases h;exact mem1 rfl
     · cases h
   · cases h
 | makeSliceZ s z=>
   simp only [Zai] at h;unfold ZdI at h;split at h
   · split at h
     · cases h;exact mem1 rfl
     · cases h
   · cases h
 | sliceU s=>
   simp only [Zai] at h;unfold Zjf at h;split at h
   · split at h
     · cases h;exact mem1 rfl
     · cases h
   · cases h
 | appendU s=>
   simp only [Zai] at h;unfold Zhj at h;split at h
   · split at h
     · split at h
       · cases h;exact mem1 rfl
       · cases h
     · cases h
   · cases h
 | makeMap κ'=>
   simp only [Zai] at h;unfold ZhC at h;split at h
   · cases h
     refine mem1 ?_
     simp only [D.ment,A.ment,A.cells,C.ment,List.any_cons,List.any_nil,Bool.or_false,Bool.true_and,beq_eq_false_iff_ne,ne_eq]
     intro hh;subst hh;exact hcr (List.mem_singleton.2 rfl)
   · cases h
 | lookup kk z=>
   simp only [Zai] at h;unfold ZiH at h;split at h
   · have hm:=hd _ (Yk _ (Yk _ Yr))
     split at h
     · split at h
       · cases h;exact mem2 rfl hm
       · cases h;exact mem2 rfl hm
       · cases h
     · cases h
   · cases h
 | update kk=>
   simp only [Zai] at h;unfold ZiD at h;split at h
   · have hm:=hd _ (Yk _ (Yk _ (Yk _ Yr)))
     split at h
     · split at h
       · cases h;exact mem1 hm
       · cases h;exact mem1 hm
       · cases h
     · cases h
   · cases h
 | makeMapX κ'=>
   simp only [Zai] at h;unfold ZfU at h;split at h
   · cases h
     refine mem2 ?_ rfl
     simp only [D.ment,A.ment,A.cells,C.ment,List.any_cons,List.any_nil,Bool.or_false,Bool.true_and,beq_eq_false_iff_ne,ne_eq]
     intro hh;subst hh;exact hcr (List.mem_singleton.2 rfl)
   · cases h
 | lookupX own ks z ok=>
   simp only [Zai] at h;unfold Zhi at h;split at h
   · split at h
     · split at h
       · split at h
         · cases h
           refine mem1 ?_
           have hz: ∀x:MV,x.a.ment κ=false:=fun x=>by
             cases x with
             | one x=>rfl
             | agg xs=>simp only [MV.a,A.ment,A.cells,List.any_map];exact List.any_eq_false.2 fun _ _=>by simp [C.ment]
           cases ok with
           | false=>exact hz _
           | true=>simp only [Zwy,D.ment,List.any_cons,List.any_nil,Bool.or_false];rw [hz];rfl
         · cases h
       · cases h
     · cases h
   · cases h
 | updateX own ks=>
   simp only [Zai] at h;unfold Zhr at h;split at h
   · have hm:=hd _ (Yk _ (Yk _ (Yk _ Yr)))
     split at h
     · split at h
       · split at h
         · split at h
           · rename_i m' hm'
             cases h
             refine mem1 ?_
             unfold ZoI at hm'
             split at hm'
             · cases hm';rfl
             · cases hm'
               exact ZdJ hm rfl
             · cases hm'
           · cases h
         · cases h
       · cases h
     · cases h
   · cases h
 | fail=>simp [Zai] at h
def SOp.restOK (s:SOp):Bool:=
 match s.kind with
 | .call _ pass own na=>Zm0 (s.ins.drop na) ((if pass then [.k OBJS] else [])++own.map .k) && own.all (fun κ=>s.takes.elem κ) && (!pass||s.takes.elem OBJS)
 | .callv pass own na=>Zm0 (s.ins.drop (na+1)) ((if pass then [.k OBJS] else [])++own.map .k) && own.all (fun κ=>s.takes.elem κ) && (!pass||s.takes.elem OBJS)
 | _=>true
def Zh2 {m:Option Nat} {own:List Nat} {κ:Nat} (hκ:κ∉own) {r r':R} (h:R.up m own r=some r'):(r'.own && r'.k==κ)=false:=by
 unfold R.up at h
 split at h
 · cases h
 · rename_i ho
   split at h
   · cases h;simp [ho]
   · cases hq:own[r.k-m.getD 0]? with
     | none=>rw [hq] at h;cases h
     | some q=>
       rw [hq] at h
       cases h
       simp only [Bool.true_and,beq_eq_false_iff_ne]
       rintro rfl
       exact hκ (YA hq)
def ZkO {φ:R->Option R} {p:R->Bool} (hp: ∀r r',φ r=some r'->p r'=false): ∀{l l':List R},l.mapM φ=some l'->l'.any p=false
 | [],l',h=>by simp at h;subst h;rfl
 | r::l,l',h=>by
   rw [List.mapM_cons] at h
   cases h1:φ r with
   | none=>rw [h1] at h;cases h
   | some x=>
     rw [h1] at h
     cases h2:l.mapM φ with
     | none=>rw [h2] at h;cases h
     | some y=>
       rw [h2] at h
       have:x::y=l':=by simpa using h
       subst this
       rw [List.any_cons,hp r x h1,ZkO hp h2];rfl
def ZlB {m:Option Nat} {own:List Nat} {κ:Nat} (hκ:κ∉own) {c c':C} (h:c.mapR (R.up m own)=some c'):c'.ment κ=false:=by
 cases c with
 | ref r=>
   simp only [C.mapR] at h
   cases h1:R.up m own r with
   | none=>rw [h1] at h;cases h
   | some q=>rw [h1] at h;cases h;exact Zh2 hκ h1
 | clo f p q=>
   simp only [C.mapR] at h
   split at h
   · rename_i x y hx hy
     cases h
     simp only [C.ment,ZkO (fun r r'=>Zh2 hκ) hx,ZkO (fun r r'=>Zh2 hκ) hy,Bool.or_false]
   · cases h
 | own r s n=>
   simp only [C.mapR] at h
   split at h
   · rename_i q h1;cases h;exact Zh2 hκ h1
   · cases h;rfl
 | mptr r=>
   simp only [C.mapR] at h
   split at h
   · rename_i q h1;cases h;exact Zh2 hκ h1
   · cases h;rfl
 | map r es=>
   simp only [C.mapR] at h
   split at h
   · rename_i q h1;cases h;exact Zh2 hκ h1
   · cases h;rfl
 | _=>cases h;rfl
def ZgM {m:Option Nat} {own:List Nat} {κ:Nat} (hκ:κ∉own) {cs cs':List C} (h:Zgf (R.up m own) cs=some cs'):cs'.any (C.ment κ)=false:=by
 rw [List.any_eq_false]
 intro c hc
 obtain ⟨i,hi,rfl⟩:=YE hc
 obtain ⟨y,_,hy⟩:=(Zdo h).2 i _ (Ya hi)
 rw [ZlB hκ hy];simp
def Ziy {m:Option Nat} {own:List Nat} {κ:Nat} (hκ:κ∉own) {x x':A} (h:x.mapR (R.up m own)=some x'):x'.ment κ=false:=by
 cases x with
 | one c=>
   simp only [A.mapR] at h
   cases h1:c.mapR (R.up m own) with
   | none=>rw [h1] at h;cases h
   | some q=>
     rw [h1] at h;cases h
     simp [A.ment,A.cells,ZlB hκ h1]
 | agg cs=>
   simp only [A.mapR] at h
   cases h1:Zgf (R.up m own) cs with
   | none=>rw [h1] at h;cases h
   | some q=>
     rw [h1] at h;cases h
     exact ZgM hκ h1
def Zgb {F:Zae} {f:Nat} {pass:Bool} {own:List Nat} {args:List A} {rest ds:List D} (h:Zb0 F f pass own args rest=some ds) {κ:Nat} (hκ:κ∉own): ∀d∈ds,d.ment κ=false:=by
 obtain ⟨os,bs,css,xs,os',rs,os'',_,_,_,_,_,hback⟩:=ZdM h
 obtain ⟨_,rs',os₂,hrs',hos₂,rfl⟩:=Zcz hback
 have hA: ∀x∈rs',x.ment κ=false:=fun x hx=>by
   obtain ⟨i,hi,rfl⟩:=YE hx
   obtain ⟨y,_,hy⟩:=(Zb4 hrs').2 i _ (Ya hi)
   exact Ziy hκ hy
 have hO: ∀cs∈os₂,cs.any (C.ment κ)=false:=fun cs hcs=>by
   obtain ⟨i,hi,rfl⟩:=YE hcs
   obtain ⟨y,_,hy⟩:=(Zde hos₂).2 i _ (Ya hi)
   exact ZgM hκ hy
 intro d hd
 rcases List.mem_cons.1 hd with rfl|hd
 · unfold resD
   split
   · rename_i x;exact hA x Zs
   · simp only [D.ment,List.any_eq_false]
     intro x hx;rw [hA x hx];simp
 · rcases List.mem_append.1 hd with hd|hd
   · cases pass with
     | false=>cases hd
     | true=>
       simp at hd;subst hd
       simp only [D.ment,List.any_eq_false]
       intro cs hcs;rw [hO cs (List.mem_of_mem_take hcs)];simp
   · obtain ⟨cs,hcs,rfl⟩:=List.mem_map.1 hd
     exact hO cs (List.mem_of_mem_drop hcs)
def ZjY {pass:Bool} {own:List Nat} {n k:Nat} {rs:List A} {os:List (List C)} {ds:List D} (hback:ZbX pass own n k rs os=some ds) {κ:Nat} (hκ:κ∉own): ∀d∈ds,d.ment κ=false:=by
 obtain ⟨_,rs',os₂,hrs',hos₂,rfl⟩:=Zcz hback
 have hA: ∀x∈rs',x.ment κ=false:=fun x hx=>by
   obtain ⟨i,hi,rfl⟩:=YE hx
   obtain ⟨y,_,hy⟩:=(Zb4 hrs').2 i _ (Ya hi)
   exact Ziy hκ hy
 have hO: ∀cs∈os₂,cs.any (C.ment κ)=false:=fun cs hcs=>by
   obtain ⟨i,hi,rfl⟩:=YE hcs
   obtain ⟨y,_,hy⟩:=(Zde hos₂).2 i _ (Ya hi)
   exact ZgM hκ hy
 intro d hd
 rcases List.mem_cons.1 hd with rfl|hd
 · unfold resD
   split
   · rename_i x;exact hA x Zs
   · simp only [D.ment,List.any_eq_false]
     intro x hx;rw [hA x hx];simp
 · rcases List.mem_append.1 hd with hd|hd
   · cases pass with
     | false=>cases hd
     | true=>
       simp at hd;subst hd
       simp only [D.ment,List.any_eq_false]
       intro cs hcs;rw [hO cs (List.mem_of_mem_take hcs)];simp
   · obtain ⟨cs,hcs,rfl⟩:=List.mem_map.1 hd
     exact hO cs (List.mem_of_mem_drop hcs)
def ZoE {F:Zae} {f:Nat} {κs:List Nat} {xs ds:List D} (h:Zai F (.callU f κs) xs=some ds) {κ:Nat} (hκ:κ∉κs): ∀d∈ds,d.ment κ=false:=by
 simp only [Zai] at h
 unfold ZfN at h
 split at h
 ·unfold Zku at h
  split at h
  ·split at h
   ·unfold ZmT at h
    split at h
    ·split at h
     ·rename_i rs _ _ rs' hrs'
      cases h
      have hA: ∀x∈rs',x.ment κ=false:=fun x hx=>by
       obtain ⟨i,hi,rfl⟩:=YE hx
       obtain ⟨y,_,hy⟩:=(Zb4 hrs').2 i _ (Ya hi)
       exact Ziy Zs hy
      intro d hd
      rcases List.mem_cons.1 hd with rfl|hd
      ·unfold resD
       split
       ·rename_i x;exact hA x Zs
       ·simp only [D.ment,List.any_eq_false]
        intro x hx;rw [hA x hx];simp
      ·obtain ⟨_,_,rfl⟩:=List.mem_map.1 hd
       rfl
     ·cases h
    ·exact ZjY h hκ
    ·cases h
   ·cases h
  ·cases h
 ·cases h
def Zjs: ∀{ks:List Nat} {ds:List D} {e e':Env},e.sets ks ds=some e'-> ∀k,(k∉ks/\e'.get k=e.get k)∨ ∃d∈ds,e'.get k=d
 | [],[],e,e',h,k=>by simp [Env.sets] at h;subst h;exact .inl ⟨by simp,rfl⟩
 | x::ks,d::ds,e,e',h,k=>by
   simp only [Env.sets] at h
   rcases Zjs h k with ⟨h1,h2⟩|⟨d',h1,h2⟩
   · by_cases hx:x=k
     · subst hx;rw [Env.get_set_same] at h2;exact .inr ⟨d,by simp,h2⟩
     · rw [Env.get_set_ne _ _ hx] at h2;exact .inl ⟨by simp [h1,Ne.symm hx],h2⟩
   · exact .inr ⟨d',Yk _ h1,h2⟩
 | [],_::_,_,_,h,_=>by simp [Env.sets] at h
 | _::_,[],_,_,h,_=>by simp [Env.sets] at h
def ZeE: ∀{ks:List Nat} {ds:List D} {e e':Env},e.sets ks ds=some e'-> ∀{k},k∉ks->e'.get k=e.get k
 | [],[],e,e',h,k,_=>by simp [Env.sets] at h;subst h;rfl
 | x::ks,d::ds,e,e',h,k,hk=>by
   simp only [Env.sets] at h
   rw [Yv,not_or] at hk
   rw [ZeE h hk.2,Env.get_set_ne _ _ (Ne.symm hk.1)]
 | [],_::_,_,_,h,_,_=>by simp [Env.sets] at h
 | _::_,[],_,_,h,_,_=>by simp [Env.sets] at h
def Zn2 {e:Env} {κ:Nat} (hno:Zf5 e κ) {s:SOp} (hq:s.quiet=true): ∀d∈s.ins.map (Zaw e s.takes),d.ment κ=false:=by
 intro d hd
 obtain ⟨y,hy,rfl⟩:=List.mem_map.1 hd
 simp only [SOp.quiet,Yb] at hq
 cases y with
 | k m=>
   simp only [Zaw]
   split
   · exact hno.2 m
   · rw [D.plain_ment];exact hno.2 m
 | c c=>
   have:=List.all_eq_true.1 hq.2 _ hy
   simp only [Zaw,D.ment,A.ment,A.cells,List.any_cons,List.any_nil,Bool.or_false]
   exact C.quiet_ment this κ
def ZqU {pass:Bool} {own:List Nat} {rest:List Arg} {takes:List Nat} {e:Env} {κ:Nat} (hno:Zf5 e κ) (hr:rest=(if pass then [.k OBJS] else [])++own.map .k) (ht:own.all (fun κ=>takes.elem κ)=true) (ho:(!pass||takes.elem OBJS)=true)
  {F:Zae} {f:Nat} {args:List A} {ds:List D} (h:Zb0 F f pass own args (rest.map (Zaw e takes))=some ds):κ∉own:=by
 obtain ⟨os,bs,css,xs,os',rs,os'',hsp,hbs,_⟩:=ZdM h
 have hrd:rest.map (Zaw e takes)=(if pass then [e.get OBJS] else [])++own.map e.get:=by
  rw [hr,YC]
  congr 1
  ·cases hps:pass with
   | false=>rfl
   | true=>rw [hps] at ho;simp at ho;simp [Zaw,ho]
  ·rw [YL]
   refine YD fun κ hκ=>?_
   have:=List.all_eq_true.1 ht κ hκ
   simp only [Function.comp,Zaw]
   rw [if_pos this]
 rw [hrd] at hsp
 obtain ⟨rfl,_,_⟩:=Zkc hsp
 intro hm
 obtain ⟨i,hi,hik⟩:=YE hm
 obtain ⟨hl,hg⟩:=Zef hbs
 rw [Yh] at hl
 have:=hg i _ (Ya Zo)
 rw [Yn,Ya hi,hik] at this
 simp only [YN,Ye,hno.1] at this
 cases this
def Zjl {F:Zae} {s:SOp} {e e':Env} {κ:Nat} (hno:Zf5 e κ) (h:doOp F s e=some e') (hq:s.quiet=true) (hr:s.restOK=true) (hcr:κ∉s.kind.creates) (hout:κ∉s.outs):Zf5 e' κ:=by
 unfold doOp at h
 split at h
 · cases h
 · rename_i ds hs
   have hm: ∀d∈ds,d.ment κ=false:=by
     have hargs:=Zn2 hno hq
     cases hk:s.kind with
     | call f pass own na=>
       rw [hk] at hs
       simp only [Zai,Zf1] at hs
       simp only [SOp.restOK,hk,Yb] at hr
       split at hs
       · rw [<-List.map_drop] at hs
         exact Zgb hs (ZqU hno (Zei hr.1.1) hr.1.2 hr.2 hs)
       · cases hs
     | callv pass own na=>
       rw [hk] at hs
       simp only [Zai] at hs
       simp only [SOp.restOK,hk,Yb] at hr
       unfold ZeM at hs
       split at hs
       · rename_i f first caps xs heq
         split at hs
         · have hd:xs.drop na=(s.ins.drop (na+1)).map (Zaw e s.takes):=by
             rw [List.map_drop,heq];rfl
           rw [hd] at hs
           exact Zgb hs (ZqU hno (Zei hr.1.1) hr.1.2 hr.2 hs)
         · cases hs
       · cases hs
     | callU f κs=>
       rw [hk] at hs hcr
       exact ZoE hs hcr
     | _=>
       refine Zn5 hs (by rw [hk];rfl) ?_ hcr hargs
       simp only [SOp.quiet,Yb] at hq
       exact hq.1
   have key: ∀k,(Zag e s.takes).get k=e.get k∨(Zag e s.takes).get k=(e.get k).plain:=fun k=>(ZeP s.takes e k).imp id (·.2)
   refine ⟨?_,fun k=>?_⟩
   · rw [ZeE h hout]
     rcases key κ with h2|h2
     · rw [h2];exact hno.1
     · rw [h2,hno.1];rfl
   · rcases Zjs h k with ⟨_,h1⟩|⟨d,h1,h2⟩
     · rw [h1]
       rcases key k with h2|h2
       · rw [h2];exact hno.2 k
       · rw [h2,D.plain_ment];exact hno.2 k
     · rw [h2];exact hm d h1
end Go.Am
end
section
namespace Go.Am
variable [WI]
variable {Pg:Program} {F:Zae}
def Same (e e':Env):Prop:= ∀k,e.get k=e'.get k
def Same.refl (e:Env):Same e e:=fun _=>rfl
def Same.symm {e e':Env} (h:Same e e'):Same e' e:=fun k=>(h k).symm
def Same.trans {e e' e'':Env} (h:Same e e') (h':Same e' e''):Same e e'':=fun k=>(h k).trans (h' k)
def Zn0:List Arg->List Nat
 | []=>[]
 | .k n::r=>n::Zn0 r
 | .c _::r=>Zn0 r
def Zma:Option (Nat×Bool)->List Nat
 | some (g,_)=>[g]
 | none=>[]
def SOp.reads (s:SOp):List Nat:=Zma s.guard++(Zn0 s.ins++s.takes)
def SOp.writes (s:SOp):List Nat:=s.takes++s.outs
def Zne (xs ys:List Nat):Bool:=xs.all fun x=> !ys.elem x
def ZcY {xs ys:List Nat} (h:Zne xs ys=true) {k:Nat} (hx:k∈xs):k∉ys:=by
 have:=List.all_eq_true.1 h k hx
 simpa using this
def SOp.indep (s t:SOp):Bool:=Zne s.writes t.reads && Zne t.writes s.reads && Zne s.writes t.writes
def Zo2 {l:List Arg} {n:Nat} (h:Arg.k n∈l):n∈Zn0 l:=by
 induction l with
 | nil=>cases h
 | cons y r ih=>
   rcases List.mem_cons.1 h with rfl|h'
   · exact Yr
   · cases y with
     | k m=>exact Yk _ (ih h')
     | c c=>exact ih h'
def Znw {e u₀:Env} {ins:List Arg} {takes:List Nat} (h: ∀k∈Zn0 ins,e.get k=u₀.get k):ins.map (Zaw e takes)=ins.map (Zaw u₀ takes):=by
 refine YD fun y hy=>?_
 cases y with
 | k n=>simp only [Zaw,h n (Zo2 hy)]
 | c c=>rfl
def Ze1: ∀(ks:List Nat) {e u₀:Env} {k:Nat},e.get k=u₀.get k->(Zag e ks).get k=(Zag u₀ ks).get k
 | [],_,_,_,h=>h
 | x::ks,e,u₀,k,h=>by
   simp only [Zag]
   refine Ze1 ks ?_
   by_cases hx:x=k
   · subst hx;rw [Env.get_set_same,Env.get_set_same,h]
   · rw [Env.get_set_ne _ _ hx,Env.get_set_ne _ _ hx,h]
def Zj3: ∀{ks:List Nat} {ds:List D} {e u₀ e':Env},e.sets ks ds=some e'-> ∃u',u₀.sets ks ds=some u'/\ ∀k,e.get k=u₀.get k->e'.get k=u'.get k
 | [],[],e,u₀,e',h=>by simp [Env.sets] at h;subst h;exact ⟨u₀,rfl,fun _ h=>h⟩
 | x::ks,d::ds,e,u₀,e',h=>by
   simp only [Env.sets] at h
   obtain ⟨u',h1,h2⟩:=Zj3 (u₀:=u₀.set x d) h
   refine ⟨u',h1,fun k hk=>h2 k ?_⟩
   by_cases hx:x=k
   · subst hx;rw [Env.get_set_same,Env.get_set_same]
   · rw [Env.get_set_ne _ _ hx,Env.get_set_ne _ _ hx,hk]
 | [],_::_,_,_,_,h=>by simp [Env.sets] at h
 | _::_,[],_,_,_,h=>by simp [Env.sets] at h
def Zka {s:SOp} {e u₀ e':Env} (hr: ∀k∈s.reads,e.get k=u₀.get k) (h:doOp F s e=some e'): ∃u',doOp F s u₀=some u'/\ ∀k,e.get k=u₀.get k->e'.get k=u'.get k:=by
 have ha:=Znw (takes:=s.takes) (fun k hk=>hr k (List.mem_append_right _ (List.mem_append_left _ hk)))
 unfold doOp at h⊢
 rw [ha] at h
 split at h
 ·cases h
 ·rename_i ds hs
  obtain ⟨u',h1,h2⟩:=Zj3 (u₀:=Zag u₀ s.takes) h
  exact ⟨u',h1,fun k hk=>h2 k (Ze1 _ hk)⟩
def Zhs {s:SOp} {e u₀:Env} {k:Nat} (h:e.get k=u₀.get k):(Zb7 s e).get k=(Zb7 s u₀).get k:=by
 unfold Zb7
 split
 ·rename_i x _ _ _
  by_cases hx:x=k
  ·subst hx;rw [Env.get_set_same,Env.get_set_same]
  ·rw [Env.get_set_ne _ _ hx,Env.get_set_ne _ _ hx,h]
 ·exact h
def ZgQ {s:SOp} {e u₀ e':Env} (hr: ∀k∈s.reads,e.get k=u₀.get k) (h:Zar F s e=some e'): ∃u',Zar F s u₀=some u'/\ ∀k,e.get k=u₀.get k->e'.get k=u'.get k:=by
 unfold Zar at h⊢
 split at h
 ·exact Zka hr h
 ·rename_i gk want hg
  have hgk:e.get gk=u₀.get gk:=hr gk (by simp [SOp.reads,hg,Zma])
  rw [hgk] at h
  split at h
  ·split at h
   ·rename_i hb;rw [if_pos hb];exact Zka hr h
   ·rename_i hb;rw [if_neg hb];cases h;exact ⟨_,rfl,fun k hk=>Zhs hk⟩
  ·cases h;exact ⟨_,rfl,fun k hk=>Zhs hk⟩
  ·cases h
def Zkb {s:SOp} {e e':Env} (h:doOp F s e=some e') {k:Nat} (hk:k∉s.writes):e'.get k=e.get k:=by
 unfold doOp at h
 split at h
 ·cases h
 ·simp only [SOp.writes,Ys,not_or] at hk
  rw [ZeE h hk.2,Zcu hk.1]
def ZgS {s:SOp} {e:Env} {k:Nat} (hk:k∉s.writes):(Zb7 s e).get k=e.get k:=by
 unfold Zb7
 split
 ·rename_i x _ _ ho
  refine Env.get_set_ne _ _ fun hh=>hk ?_
  simp [SOp.writes,ho,hh]
 ·rfl
def Zc5 {s:SOp} {e e':Env} (h:Zar F s e=some e') {k:Nat} (hk:k∉s.writes):e'.get k=e.get k:=by
 unfold Zar at h
 split at h
 ·exact Zkb h hk
 ·split at h
  ·split at h
   ·exact Zkb h hk
   ·cases h;exact ZgS hk
  ·cases h;exact ZgS hk
  ·cases h
def Zqd {s t:SOp} (hi:s.indep t=true) {e e1 e2:Env} (h1:Zar F s e=some e1) (h2:Zar F t e1=some e2):
  ∃e1' e2',Zar F t e=some e1'/\Zar F s e1'=some e2'/\Same e2 e2':=by
 simp only [SOp.indep,Yb] at hi
 obtain ⟨⟨i1,i2⟩,i3⟩:=hi
 have hst: ∀k∈t.reads,e1.get k=e.get k:=fun k hk=>Zc5 h1 fun hw=>ZcY i1 hw hk
 obtain ⟨e1',q1,q2⟩:=ZgQ hst h2
 have hts: ∀k∈s.reads,e.get k=e1'.get k:=fun k hk=>(Zc5 q1 fun hw=>ZcY i2 hw hk).symm
 obtain ⟨e2',r1,r2⟩:=ZgQ hts h1
 refine ⟨e1',e2',q1,r1,fun k=>?_⟩
 by_cases hk:k∈s.writes
 ·have hkt:=ZcY i3 hk
  rw [Zc5 h2 hkt]
  exact r2 k (Zc5 q1 hkt).symm
 ·rw [Zc5 r1 hk]
  exact q2 k (Zc5 h1 hk)
def Zlt: ∀{l:List SOp} {e u₀ e':Env},Same e u₀->Zbq F l e=some e'-> ∃u',Zbq F l u₀=some u'/\Same e' u'
 | [],e,u₀,e',hs,h=>by simp [Zbq] at h;subst h;exact ⟨u₀,rfl,hs⟩
 | s::l,e,u₀,e',hs,h=>by
   simp only [Zbq] at h⊢
   split at h
   · rename_i e1 h1
     obtain ⟨u₁,q1,q2⟩:=ZgQ (fun k _=>hs k) h1
     rw [q1]
     exact Zlt (fun k=>q2 k (hs k)) h
   · cases h
def ZlM: ∀{pre:List SOp} {s:SOp} {post:List SOp} {e ef:Env},(∀p∈pre,p.indep s=true)->Zbq F (pre++s::post) e=some ef->
   ∃e1 ef',Zar F s e=some e1/\Zbq F (pre++post) e1=some ef'/\Same ef ef'
 | [],s,post,e,ef,_,h=>by
   simp only [YP,Zbq] at h
   split at h
   · rename_i e1 h1;exact ⟨e1,ef,h1,h,.refl _⟩
   · cases h
 | p::pre,s,post,e,ef,hp,h=>by
   simp only [List.cons_append,Zbq] at h
   split at h
   · rename_i e1 h1
     obtain ⟨e2,ef',q1,q2,q3⟩:=ZlM (fun p hp'=>hp p (Yk _ hp')) h
     obtain ⟨e1',e2',r1,r2,r3⟩:=Zqd (hp p Yr) h1 q1
     obtain ⟨ef'',t1,t2⟩:=Zlt r3 q2
     refine ⟨e1',ef'',r1,?_,q3.trans t2⟩
     simp only [List.cons_append,Zbq,r2]
     exact t1
   · cases h
def rem (L:Nat->Bool):Nat->List SOp->List SOp
 | _,[]=>[]
 | i,s::ss=>if L i then rem L (i+1) ss else s::rem L (i+1) ss
def Zp8 {L L':Nat->Bool} {j:Nat} {s:SOp} (hL': ∀i,L' i=(L i||i==j)) (hj:L j=false): ∀(i:Nat) (ss:List SOp),i<=j->ss[j-i]? =some s->
   ∃pre post,rem L i ss=pre++s::post/\rem L' i ss=pre++post/\ ∀p∈pre,∃m,i<=m/\m<j/\L m=false/\ss[m-i]? =some p:=by
 intro i ss
 induction ss generalizing i with
 | nil=>intro _ h;simp at h
 | cons x ss ih=>
   intro hi hs
   rcases Nat.eq_or_lt_of_le hi with rfl|hlt
   · simp at hs
     subst hs
     refine ⟨[],rem L (i+1) ss,by simp [rem,hj],?_,by simp⟩
     have hir: ∀(m:Nat) (l:List SOp),i<m->rem L' m l=rem L m l:=by
       intro m l
       induction l generalizing m with
       | nil=>intro _;rfl
       | cons y l ih'=>
         intro hm
         have:L' m=L m:=by rw [hL'];simp;omega
         simp only [rem,this,ih' (m+1) Zo]
     simp only [rem,hL',beq_self_eq_true,Bool.or_true,if_true,YP]
     exact hir _ _ Zo
   · have hs':ss[j-(i+1)]? =some s:=by
       rw [show j-i=(j-(i+1))+1 by omega] at hs
       simpa using hs
     obtain ⟨pre,post,h1,h2,h3⟩:=ih (i+1) hlt hs'
     have hLi:L' i=L i:=by rw [hL'];simp;omega
     have hsh: ∀p∈pre,∃m,i<=m/\m<j/\L m=false/\(x::ss)[m-i]? =some p:=fun p hp=>by
       obtain ⟨m,m1,m2,m3,m4⟩:=h3 p hp
       refine ⟨m,by omega,m2,m3,?_⟩
       rw [show m-i=(m-(i+1))+1 by omega]
       simpa using m4
     cases hc:L i with
     | true=>exact ⟨pre,post,by simp [rem,hc,h1],by simp [rem,hLi,hc,h2],hsh⟩
     | false=>
       refine ⟨x::pre,post,by simp [rem,hc,h1],by simp [rem,hLi,hc,h2],fun p hp=>?_⟩
       rcases List.mem_cons.1 hp with rfl|hp
       · exact ⟨i,Yc _,hlt,hc,by simp⟩
       · exact hsh p hp
def Zq1 {L:Nat->Bool}: ∀(i:Nat) (ss:List SOp),(∀m,i<=m->m<i+ss.length->L m=true)->rem L i ss=[]
 | _,[],_=>rfl
 | i,s::ss,h=>by
   simp only [rem,h i (Yc _) Zs,if_true]
   exact Zq1 (i+1) ss fun m h1 h2=>h m Zo Ze
def Zlg {L:Nat->Bool}: ∀(i:Nat) (ss:List SOp),(∀m,i<=m->m<i+ss.length->L m=false)->rem L i ss=ss
 | _,[],_=>rfl
 | i,s::ss,h=>by
   simp only [rem,h i (Yc _) Zs,Yw,if_false]
   rw [Zlg (i+1) ss fun m h1 h2=>h m Zo Ze]
end Go.Am
end
