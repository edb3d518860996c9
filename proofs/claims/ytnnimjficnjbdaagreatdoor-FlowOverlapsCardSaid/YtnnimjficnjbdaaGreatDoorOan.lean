/- Part. -/
import Derived.Test.YtnnimjficnjbdaaGreatDoorOam
import Derived.MapKept
import Derived.Carry
import Derived.Laws.StructEq
set_option maxRecDepth 999999
set_option maxHeartbeats 0
set_option linter.all false
section
namespace Go.Am
variable [WI]
variable {Pg:Program}
open Go.MapKept Go.RowKit
def ZkI (d:TypeDesc) (kk:Nat):Bool:=
 match d with
 | .string=>kk==0
 | .int _=>kk==1
 | .bool=>kk==2
 | _=>false
def Zqy (Pg:Program) (t:TypeId) (kk:Nat):Bool:=
 match Pg.underlying t with
 | some (.map key _)=>(match Pg.underlying key with
   | some d=>ZkI d kk
   | none=>false)
 | _=>false
theorem ZkK {t kk:Nat} (h:Zqy Pg t kk=true): ∃key el d,Pg.underlying t=some (.map key el)/\Pg.underlying key=some d/\ZkI d kk=true:=by
 unfold Zqy at h
 split at h
 ·rename_i key el h1
  split at h
  ·rename_i d h2;exact ⟨key,el,d,h1,h2,h⟩
  ·cases h
 ·cases h
theorem ZsC {a b:ByteArray} (h:ZbJ a=ZbJ b):a=b:=by
 obtain ⟨a⟩:=a
 obtain ⟨b⟩:=b
 unfold ZbJ at h
 have:=(List.map_inj_right (fun x y h=>UInt8.toNat_inj.1 h)).1 h
 have e:a=b:=Array.toList_inj.1 this
 subst e;rfl
theorem Zl7 {d:TypeDesc} {u v:Value} (h:Instr.sameNow d u v=some true) (n:Nat):Instr.sameBits n v u=true:=by
 cases d<;>cases u<;>cases v<;>simp_all [Instr.sameNow,Instr.sameBits,bytes_beq]
theorem Zmo {pr:Nat->Nat} {w:World} {d:TypeDesc} {u v:Value} {k k':P} {b:Bool} (hd:ZkI d (ZuN k)=true) (hu:RepP pr w u k) (hv:RepP pr w v k') (h:peqK k k'=some b):Instr.sameNow d u v=some b:=by
 cases hu with
 | int kk n=>
   cases hv with
   | int kk' n'=>
     simp only [peqK] at h
     split at h
     · rename_i e
       cases d<;>simp [ZkI,ZuN] at hd
       simp only [Instr.sameNow,e,if_true]
       exact h
     · cases h
   | _=>simp [peqK] at h
 | bool c=>
   cases hv with
   | bool c'=>cases d<;>simp [ZkI,ZuN] at hd;simpa [peqK,Instr.sameNow] using h
   | _=>simp [peqK] at h
 | str bs t ht=>
   cases hv with
   | str bs' t' ht'=>
     cases d<;>simp [ZkI,ZuN] at hd
     simp only [peqK,Option.some.injEq] at h
     subst ht;subst ht'
     rw [ZoX] at h
     simp only [Instr.sameNow,Option.some.injEq]
     rw [<-h]
     rw [Bool.eq_iff_iff,bytes_beq]
     constructor
     · rintro rfl;simp
     · intro hh
       have hh:bs.toList=bs'.toList:=by simpa using hh
       exact ZsC (by rw [ZbU,ZbU,hh])
   | _=>simp [peqK] at h
 | nils=>simp [peqK] at h
 | sl=>simp [peqK] at h
theorem ZfM {pr:Nat->Nat} {w:World} {d:TypeDesc} {u:Value} {k:P} (hd:ZkI d (ZuN k)=true) (hu:RepP pr w u k): ∀(es:List (P×P)) (mes:List MapEntry) (i:Nat) (r:Option (Nat×P)),mes.length=es.length->
   (∀(j:Nat) k' x,es[j]? =some (k',x)-> ∃e,mes[j]? =some e/\RepP pr w e.key k'/\RepP pr w e.val x)->Zxz es k i=some r->
   match r with
   | none=>Instr.findNow d u mes i=some none
   | some (j,x)=> ∃e,i<=j/\mes[j-i]? =some e/\Instr.findNow d u mes i=some (some (j,e.val))/\RepP pr w e.val x/\Instr.sameNow d u e.key=some true
 | [],[],i,r,_,_,h=>by simp only [Zxz,Option.some.injEq] at h;subst h;rfl
 | (k',x)::es,m::mes,i,r,hl,hr,h=>by
   obtain ⟨e,he,h1,h2⟩:=hr 0 k' x rfl
   simp only [List.getElem?_cons_zero,Option.some.injEq] at he
   subst he
   unfold Zxz at h
   split at h
   · rename_i hp
     simp only [Option.some.injEq] at h
     subst h
     have hs:=Zmo hd hu h1 hp
     exact ⟨m,Nat.le_refl _,by simp,by simp [Instr.findNow,hs],h2,hs⟩
   · rename_i hp
     have hs:=Zmo hd hu h1 hp
     have ih:=ZfM hd hu es mes (i+1) r (by simpa using hl) (fun j k' x hj=>by simpa using hr (j+1) k' x (by simpa using hj)) h
     cases r with
     | none=>simp only [Instr.findNow,hs];exact ih
     | some q=>
       obtain ⟨j,x'⟩:=q
       obtain ⟨e,g1,g2,g3,g4,g5⟩:=ih
       refine ⟨e,by omega,?_,by simp only [Instr.findNow,hs];exact g3,g4,g5⟩
       rw [show j-i=(j-(i+1))+1 by omega]
       simpa using g2
   · cases h
 | [],_::_,_,_,hl,_,_=>by simp at hl
 | _::_,[],_,_,hl,_,_=>by simp at hl
theorem ZgX {P:Program} {w:World} {kt:TypeId} {d:TypeDesc} {k:Value} {kk:Nat} (hd:P.underlying kt=some d) (hk:ZkI d kk=true) (e:Bool) (n:Nat):(Instr.checkKey e (n+1) kt k).run P w= .ok () w:=by
 unfold Instr.checkKey
 simp only [Sem.run_bind,run_underlying hd,Result.andThen]
 cases d<;>cases k<;>simp_all [ZkI]
def ZsQ (Pg:Program) (t:TypeId) (z:P):Bool:=
 match Pg.underlying t with
 | some (.map _ el)=>(match Pg.info? el with
   | some i=>(match i.zero with
     | some v=>ZfU v (.p z)
     | none=>false)
   | none=>false)
 | _=>false
theorem ZpX {t key el:TypeId} {z:P} (h:ZsQ Pg t z=true) (u1:Pg.underlying t=some (.map key el)): ∃i v,Pg.info? el=some i/\i.zero=some v/\ZfU v (.p z)=true:=by
 simp only [ZsQ,u1] at h
 split at h
 ·rename_i i hi
  split at h
  ·rename_i v hv;exact ⟨i,v,hi,hv,h⟩
  ·cases h
 ·cases h
section each
variable {F:ZaQ} {g:G} {e e':Env} {a:Act} {w:World}
def ZnA (κ:Nat) (o:Oper) (s:SOp) (nt:Nat):Bool:=
 Zie o s nt && Nat.ble BOX κ && match o.op,s.ins with
 | .makeMap _ none,[]=>true
 | _,_=>false
theorem ZsY (h:St g e a w) {o:Oper} {s:SOp} {κ:Nat} (hk:s.kind= .makeMap κ) (ho:ZnA κ o s g.nt=true) (hno:ZlQ e κ) (hd:doOp F s e=some e'):OpOut Pg o a w g e':=by
 unfold ZnA at ho
 simp only [Bool.and_eq_true] at ho
 obtain ⟨d,h1,h2,h3,hlt⟩:=Ziq ho.1.1
 obtain ⟨x,hx,rfl⟩:=Zk8 h3 h2 hd
 have hκ:=Nat.le_of_ble_eq_true ho.1.2
 have ho2:=ho.2
 split at ho2
 ·rename_i t hop hins
  rw [hk,hins] at hx
  simp only [List.map_nil,ZaI,Ziu,Option.some.injEq,List.cons.injEq,and_true] at hx
  subst hx
  obtain ⟨d,rfl⟩: ∃d₀:Nat,d₀=d:=⟨d,rfl⟩
  have hdO:d<OBJS:=Nat.lt_of_lt_of_le hlt h.nt
  have hds:d<a.tmps.size:=Nat.lt_of_lt_of_le hlt h.sz
  let g':G:={g.lay w.heap.size 0 (d,0,0) with β:=fun k=>if k=κ then w.heap.size else g.β k}
  let w':World:=w.alloc (.map #[] 0)
  have hheap:w'.heap=w.heap.push (.map #[] 0):=rfl
  have hold: ∀b,b<w.heap.size->w'.heap[b]? =w.heap[b]? :=fun b hb=>by rw [hheap,Array.getElem?_push];simp [Nat.ne_of_lt hb]
  have hnew:w'.heap[w.heap.size]? =some (.map #[] 0):=by rw [hheap];simp
  have hsize:w'.heap.size=w.heap.size+1:=by rw [hheap];simp
  have hext:Ext g.T g.pr g.ow w w' g'.pr g'.ow:=by
   refine ⟨rfl,rfl,rfl,by rw [hsize];omega,fun b o' hb=>⟨o',by rw [hold b (ZaB hb)];exact hb,SameObj.refl _ _⟩,fun b hb=>?_,fun b hb ho _=>?_,fun b hb _ _=>hold _ hb⟩
   ·simp [g',G.lay,Nat.ne_of_lt hb]
   ·simp [g',G.lay,Nat.ne_of_lt hb,ho]
  have hbig: ∀κ,κ∈[d]-> ¬BOX<=κ:=fun κ hm hb=>by have:=Zau;simp at hm;omega
  refine ⟨.value (.map (some w.heap.size)),.map (some w.heap.size),w',g',?_,.inl rfl,?_,hext,rfl,rfl,rfl⟩
  ·simp only [execOp,hop,Option.map_none]
   rw [Zaw,run_makeMap]
   rfl
  ·rw [h1]
   refine h.gen [d] (fun b=>b<w.heap.size) hext (fun b hb=>?_) rfl rfl rfl (by rw [Zb6];exact h.df) Zd6 (fun k hk=>Env.get_set_ne _ _ (by simp at hk;omega)) (fun k hk _=>Zbb (by simpa using hk))
    (fun k hk c i b hb=>?_) (fun κ'=>?_) (fun b hb=>⟨hold b hb,by simp [g',G.lay,Nat.ne_of_lt hb],by simp [g',G.lay,Nat.ne_of_lt hb]⟩) (fun κ _ hκ hl=>(Zb7 h hκ hl).1) (fun _ os i ho hi=>(Ze2 h ho hi).1)
    (fun k hk=>?_) (fun κ hm hκ=>absurd hκ (hbig κ hm)) (fun hm=>by simp at hm;omega) (fun κ hm hκ=>absurd hκ (hbig κ hm))
   ·change w'.heap.size<=b at hb
    rw [hsize] at hb
    have hne:b≠w.heap.size:=by omega
    simp [g',G.lay,hne,h.fr b Zo]
   ·have hne:b≠w.heap.size:=fun hh=>by rw [hh,(h.fr _ (Nat.le_refl _)).2] at hb;cases hb
    refine ⟨by simp [g',G.lay,hne,hb],by simp [g',G.lay,hne],hold b ?_⟩
    rcases Nat.lt_or_ge b w.heap.size with hh|hh
    ·exact hh
    ·rw [(h.fr b hh).2] at hb;cases hb
   ·by_cases hh:κ'=κ
    ·subst hh;exact .inr ⟨hno.1,fun k _=>hno.2 k⟩
    ·exact .inl (by simp [g',G.lay,hh])
   ·simp at hk;subst hk
    refine .tmp hdO ?_
    rw [Env.get_set_same,Zbe hds]
    have hb:R.blk g' ⟨true,κ,0⟩=w.heap.size:=by simp [R.blk,g']
    refine ⟨#[],0,by rw [hb],?_,?_,?_,?_,rfl,fun i k x hi=>by simp at hi⟩
    ·rw [hb];simp [g',G.lay]
    ·rw [hb];simp [g',G.lay]
    ·rw [hb];exact h.tf _ (Nat.le_refl _)
    ·rw [hb];exact hnew
 ·cases ho2
def Zo3 (Pg:Program) (kk:Nat) (z:P) (o:Oper) (s:SOp) (nt:Nat):Bool:=
 match o.op,o.dst,s.ins,s.takes,s.outs with
 | .lookup t (.tmp t') ix false,some d,[.k n,y,.k m],[m'],[d',m'']=>t'==n && m'==m && m''==m && d==d' && Nat.blt d nt && Nat.blt n OBJS && Nat.blt m OBJS && n !=m && m !=d && Zcl ix y && Arg.isNot y m && Zqy Pg t kk && ZsQ Pg t z
 | _,_,_,_,_=>false
theorem ZqM {e:Env} {n m:Nat} (h:n≠m):Zbl e [m] (.k n)=(e.get n).plain:=by
 simp [Zbl,h]
theorem plain_mptr {d:D} {r:R} (h:d.plain= .a (.one (.mptr r))):d= .a (.one (.mptr r))∨ ∃es,d= .a (.one (.map r es)):=by
 cases d with
 | a x=>
   cases x with
   | one c=>
     cases c<;>simp [D.plain,A.plain,C.plain] at h
     · subst h;exact .inr ⟨_,rfl⟩
     · subst h;exact .inl rfl
   | agg cs=>simp [D.plain,A.plain] at h
 | _=>simp [D.plain] at h
theorem Zr2 (h:St g e a w) {n:Nat} {r:R} (hn:n<OBJS) (hp:(e.get n).plain= .a (.one (.mptr r))):a.tmps.getD n undef= .map (some (r.blk g)):=by
 have hr:=(h.key n).tm hn
 rcases plain_mptr hp with q|⟨es,q⟩
 ·rw [q] at hr;exact hr
 ·rw [q] at hr;obtain ⟨_,_,hv,_⟩:=hr;exact hv
theorem ZtP (h:St g e a w) {o:Oper} {s:SOp} {kk:Nat} {z:P} (hk:s.kind= .lookup kk z) (ho:Zo3 Pg kk z o s g.nt=true) (hd:doOp F s e=some e'):OpOut Pg o a w g e':=by
 unfold Zo3 at ho
 split at ho
 ·rename_i t t' ix d n y m m' d' m'' hop hdst hins htk hout
  simp only [Bool.and_eq_true,beq_iff_eq,Nat.blt_eq,bne_iff_ne] at ho
  obtain ⟨⟨⟨⟨⟨⟨⟨⟨⟨⟨⟨⟨rfl,rfl⟩,rfl⟩,rfl⟩,hlt⟩,hn⟩,hm⟩,hnm⟩,hne⟩,o1⟩,o2⟩,o3⟩,o4⟩:=ho
  obtain ⟨d,rfl⟩: ∃d₀:Nat,d₀=d:=⟨d,rfl⟩
  obtain ⟨m'',rfl⟩: ∃d₀:Nat,d₀=m'':=⟨m'',rfl⟩
  obtain ⟨key,el,dk,u1,u2,u3⟩:=ZkK o3
  obtain ⟨inf,zv,z1,z2,z3⟩:=ZpX o4 u1
  unfold doOp at hd
  rw [hk,hins,htk,hout] at hd
  have e1:Zbl e [m''] (.k m'')=e.get m'':=by simp [Zbl]
  simp only [List.map_cons,List.map_nil,ZaI,e1,Zkj o2,ZqM hnm] at hd
  unfold Zkv at hd
  split at hd
  ·cases hd
  ·rename_i ds heq
   split at heq
   ·rename_i r k r' es heq2
    simp only [List.cons.injEq,and_true] at heq2
    obtain ⟨q0,q2,q1⟩:=heq2
    have hev:Act.eval a (.tmp _)= .map (some (r.blk g)):=Zr2 h hn q0
    have hrep:=(h.key m'').tm hm
    rw [q1] at hrep
    obtain ⟨mes,clock,hv',hpr,how,hTb,hb,hsz,hes⟩:=hrep
    have hkr:RepP g.pr w (a.eval ix) k:=by
     have:=ZbL h o1 0
     rw [q2] at this
     exact this
    have hdO:d<OBJS:=Nat.lt_of_lt_of_le hlt h.nt
    have hds:d<a.tmps.size:=Nat.lt_of_lt_of_le hlt h.sz
    have fin: ∀(x:P) (v:Value),RepP g.pr w v x->(execOp a.eval o).run Pg w= .ok (.value v) w->e'=(((e.set m'' (e.get m'').plain).set d (one x)).set m'' (.a (.one (.map r' es))))->OpOut Pg o a w g e':=fun x v hx hr he=>by
     refine ⟨.value v,v,w,g,hr,.inl rfl,?_,Ext.refl _ _ _ _,rfl,rfl,rfl⟩
     rw [hdst]
     have hbig: ∀κ,κ∈[d]-> ¬BOX<=κ:=fun κ hm hb=>by have:=Zau;simp at hm;omega
     refine h.gen [d] (fun _=>True) (Ext.refl _ _ _ _) h.fr rfl rfl rfl (by rw [Zb6];exact h.df) Zd6 (fun k hk=>?_) (fun k hk _=>Zbb (by simpa using hk)) (fun _ _ _ _ b hb=>⟨hb,rfl,rfl⟩) (fun _=> .inl rfl) (fun _ _=>⟨rfl,rfl,rfl⟩)
      (fun _ _ _ _=>trivial) (fun _ _ _ _ _=>trivial) (fun k hk=>?_) (fun κ hm hκ=>absurd hκ (hbig κ hm)) (fun hm=>by simp at hm;omega) (fun κ hm hκ=>absurd hκ (hbig κ hm))
     ·simp at hk
      rw [he]
      by_cases hkn:k=m''
      ·subst hkn;rw [Env.get_set_same,q1]
      ·rw [Env.get_set_ne _ _ (Ne.symm hkn),Env.get_set_ne _ _ (Ne.symm hk),Env.get_set_ne _ _ (Ne.symm hkn)]
     ·simp at hk;subst hk
      refine .tmp hdO ?_
      rw [he,Env.get_set_ne _ _ hne,Env.get_set_same,Zbe hds]
      exact hx
    split at heq
    ·rename_i hpk
     obtain ⟨rfl,hpk⟩:=hpk
     have hd2:ZkI dk (ZuN k)=true:=by rw [hpk];exact u3
     have hrun: ∀q,Instr.findNow dk (a.eval ix) mes.toList 0=some q->(execOp a.eval o).run Pg w= .ok (.value (match q with|some (_,v)=>v|none=>zv)) w:=fun q hr=>by
      simp only [execOp,hop,hev]
      rw [Zaw]
      unfold Instr.lookup
      simp only [Sem.run_bind,run_underlying u1,Result.andThen_ok,Go.MapKept.run_getObj_map hb,Sem.run_pure,ZgX u2 u3,run_findKey u2 hr]
      cases q with
      | none=>simp [Zcs z1 z2]
      | some q=>simp
     split at heq
     ·rename_i j x hf
      have hfn:=ZfM hd2 hkr es mes.toList 0 _ (by simpa using hsz) (fun j k' x hj=>by simpa using hes j k' x hj) hf
      obtain ⟨en,_,g2,g3,g4,_⟩:=hfn
      simp only [Option.some.injEq] at heq
      subst heq
      simp only [ZaA,Env.sets,Option.some.injEq] at hd
      exact fin x en.val g4 (hrun _ g3) hd.symm
     ·rename_i hf
      have hfn:=ZfM hd2 hkr es mes.toList 0 _ (by simpa using hsz) (fun j k' x hj=>by simpa using hes j k' x hj) hf
      simp only [Option.some.injEq] at heq
      subst heq
      simp only [ZaA,Env.sets,Option.some.injEq] at hd
      have hz:=Zds z3 g w (0,0,0)
      exact fin z zv hz (hrun _ hfn) hd.symm
     ·cases heq
    ·cases heq
   ·cases heq
 ·cases ho
def Zpg (Pg:Program) (kk:Nat) (o:Oper) (s:SOp):Bool:=
 match o.op,o.dst,s.ins,s.takes,s.outs with
 | .mapUpdate t (.tmp t') kx vx,none,[.k n,y1,y2,.k m],[m'],[m'']=>t'==n && m'==m && m''==m && Nat.blt n OBJS && Nat.blt m OBJS && n !=m && Zcl kx y1 && Zcl vx y2 && Arg.isNot y1 m && Arg.isNot y2 m && Zqy Pg t kk
 | _,_,_,_,_=>false
theorem Zug (h:St g e a w) {o:Oper} {s:SOp} {kk:Nat} (hk:s.kind= .update kk) (ho:Zpg Pg kk o s=true) (hd:doOp F s e=some e'):OpOut Pg o a w g e':=by
 unfold Zpg at ho
 split at ho
 ·rename_i t t' kx vx n y1 y2 m m' m'' hop hdst hins htk hout
  simp only [Bool.and_eq_true,beq_iff_eq,Nat.blt_eq,bne_iff_ne] at ho
  obtain ⟨⟨⟨⟨⟨⟨⟨⟨⟨⟨rfl,rfl⟩,rfl⟩,hn⟩,hm⟩,hnm⟩,o1⟩,o2⟩,o3⟩,o4⟩,o5⟩:=ho
  obtain ⟨m'',rfl⟩: ∃d₀:Nat,d₀=m'':=⟨m'',rfl⟩
  obtain ⟨key,el,dk,u1,u2,u3⟩:=ZkK o5
  unfold doOp at hd
  rw [hk,hins,htk,hout] at hd
  have e1:Zbl e [m''] (.k m'')=e.get m'':=by simp [Zbl]
  simp only [List.map_cons,List.map_nil,ZaI,e1,Zkj o3,Zkj o4,ZqM hnm] at hd
  unfold Zkh at hd
  split at hd
  ·cases hd
  ·rename_i ds heq
   split at heq
   ·rename_i r k x r' es heq2
    simp only [List.cons.injEq,and_true] at heq2
    obtain ⟨q0,q2,q3,q1⟩:=heq2
    have hev:Act.eval a (.tmp _)= .map (some (r.blk g)):=Zr2 h hn q0
    have hrep:=(h.key m'').tm hm
    rw [q1] at hrep
    obtain ⟨mes,clock,hv',hpr,how,hTb,hb,hsz,hes⟩:=hrep
    have hkr:RepP g.pr w (a.eval kx) k:=by
     have:=ZbL h o1 0
     rw [q2] at this
     exact this
    have hxr:RepP g.pr w (a.eval vx) x:=by
     have:=ZbL h o2 0
     rw [q3] at this
     exact this
    split at heq
    ·rename_i hpk
     obtain ⟨rfl,hpk⟩:=hpk
     obtain ⟨b,hbe⟩: ∃b,b=r.blk g:=⟨_,rfl⟩
     rw [<-hbe] at hev hv' hpr how hTb hb
     have hblt:=ZaB hb
     have fin: ∀(es':List (P×P)) (mes':Array MapEntry) (clock':Nat),mes'.size=es'.length->
       (∀(i:Nat) k' x',es'[i]? =some (k',x')-> ∃e,mes'[i]? =some e/\RepP g.pr w e.key k'/\RepP g.pr w e.val x')->
       (execOp a.eval o).run Pg w= .ok .skip {w with heap:=w.heap.setIfInBounds b (.map mes' clock')}->e'=((e.set m'' (e.get m'').plain).set m'' (.a (.one (.map r es'))))->OpOut Pg o a w g e':=fun es' mes' clock' hsz' hes' hr he=>by
      let w':World:={w with heap:=w.heap.setIfInBounds b (.map mes' clock')}
      obtain ⟨hw1,hw2⟩:=heap_set (o':=Obj.map mes' clock') hb
      have hext:Ext g.T g.pr g.ow w w' g.pr g.ow:=by
       refine ⟨rfl,rfl,rfl,by simp [w'],fun b' o' ho'=>?_,fun _ _=>Nat.le_refl _,fun _ _ h _=>⟨rfl,h⟩,fun b' _ ho' _=>hw2 b' (fun hh=>by rw [hh,how] at ho';cases ho')⟩
       by_cases hbb:b'=b
       ·subst hbb
        rw [hb] at ho';cases ho'
        exact ⟨_,hw1,_,_,rfl⟩
       ·exact ⟨o',(hw2 b' hbb).trans ho',SameObj.refl _ _⟩
      have hbig: ∀κ,κ∈[m'']-> ¬BOX<=κ:=fun κ hm hb=>by have:=Zau;simp at hm;omega
      refine ⟨.skip,undef,w',g,hr,.inr ⟨rfl,rfl⟩,?_,hext,rfl,rfl,rfl⟩
      rw [hdst]
      refine h.gen [m''] (fun b'=>b'≠b) hext (fun b' hb'=>h.fr b' (by simpa [w'] using hb')) rfl rfl rfl h.df rfl (fun k hk=>?_) (fun _ _ _=>rfl) (fun k hk c i b' hb'=>?_) (fun _=> .inl rfl) (fun b' hb'=>⟨hw2 b' hb',rfl,rfl⟩)
       (fun κ _ hκ hl hh=>?_) (fun _ os i ho' hi hh=>?_) (fun k hk=>?_) (fun κ hm hκ=>absurd hκ (hbig κ hm)) (fun hm=>by simp at hm;omega) (fun κ hm hκ=>absurd hκ (hbig κ hm))
      ·simp at hk
       rw [he,Env.get_set_ne _ _ (Ne.symm hk),Env.get_set_ne _ _ (Ne.symm hk)]
      ·simp at hk
       refine ⟨hb',rfl,hw2 b' fun hh=>?_⟩
       rw [hh,how] at hb'
       simp only [Option.some.injEq,Prod.mk.injEq] at hb'
       exact hk hb'.1.symm
      ·have:=(Zb7 h hκ hl).2.2
       rw [hh,how] at this;cases this
      ·have:=(Ze2 h ho' hi).2.2
       rw [hh,how] at this;cases this
      ·simp at hk;subst hk
       refine .tmp hm ?_
       rw [he,Env.get_set_same]
       show RepC g w' (k,0,0) (a.tmps.getD k undef) (.map r es')
       rw [hv']
       refine ⟨mes',clock',by rw [<-hbe],by rw [<-hbe];exact hpr,by rw [<-hbe];exact how,by rw [<-hbe];exact hTb,by rw [<-hbe];exact hw1,hsz',fun i k' x' hi=>?_⟩
       obtain ⟨e,h1,h2,h3⟩:=hes' i k' x' hi
       exact ⟨e,h1,h2.mono hext.keeps (fun _=>Nat.le_refl _),h3.mono hext.keeps (fun _=>Nat.le_refl _)⟩
     have hd2:ZkI dk (ZuN k)=true:=by rw [hpk];exact u3
     split at heq
     ·rename_i j x0 hf
      have hfn:=ZfM hd2 hkr es mes.toList 0 _ (by simpa using hsz) (fun j k' x hj=>by simpa using hes j k' x hj) hf
      obtain ⟨en,_,g2,g3,_,g5⟩:=hfn
      simp only [Nat.sub_zero,Array.getElem?_toList] at g2
      simp only [Option.some.injEq] at heq
      subst heq
      simp only [ZaA,Env.sets,Option.some.injEq] at hd
      have hkeep:(Instr.keyThatStays en.key (a.eval kx)).run Pg w= .ok (a.eval kx) w:=by
       have:Instr.sameBits 10000 en.key (a.eval kx)=true:=Zl7 g5 _
       simp [Instr.keyThatStays,this]
      refine fin _ (mes.modify j fun e=>{e with key:=a.eval kx,val:=a.eval vx}) clock (by simp [hsz]) (fun i k' x' hi=>?_) ?_ hd.symm
      ·rw [List.getElem?_set] at hi
       have hjl:j<mes.size:=by
        rcases Nat.lt_or_ge j mes.size with hh|hh
        ·exact hh
        ·rw [Array.getElem?_eq_none hh] at g2;cases g2
       by_cases hij:j=i
       ·subst hij
        simp only [if_true] at hi
        split at hi
        ·simp only [Option.some.injEq,Prod.mk.injEq] at hi
         obtain ⟨rfl,rfl⟩:=hi
         exact ⟨{en with key:=a.eval kx,val:=a.eval vx},by rw [Array.getElem?_modify,if_pos rfl,g2];rfl,hkr,hxr⟩
        ·cases hi
       ·rw [if_neg hij] at hi
        obtain ⟨e,h1,h2⟩:=hes i k' x' hi
        exact ⟨e,by rw [Array.getElem?_modify,if_neg hij];exact h1,h2⟩
      ·simp only [execOp,hop,hev,Instr.mapUpdate,Sem.run_bind,run_underlying u1,Result.andThen_ok,Go.MapKept.run_getObj_map hb,ZgX u2 u3,run_findKey u2 g3,g2,Option.map_some,Option.getD_some,hkeep,run_setObj_map _ hb,Sem.run_pure]
     ·rename_i hf
      have hfn:=ZfM hd2 hkr es mes.toList 0 _ (by simpa using hsz) (fun j k' x hj=>by simpa using hes j k' x hj) hf
      simp only [Option.some.injEq] at heq
      subst heq
      simp only [ZaA,Env.sets,Option.some.injEq] at hd
      refine fin _ (mes.push {key:=a.eval kx,val:=a.eval vx,born:=clock}) (clock+1) (by simp [hsz]) (fun i k' x' hi=>?_) ?_ hd.symm
      ·rcases Nat.lt_trichotomy i es.length with hh|hh|hh
       ·rw [List.getElem?_append_left hh] at hi
        obtain ⟨e,h1,h2⟩:=hes i k' x' hi
        exact ⟨e,by rw [Array.getElem?_push,if_neg Zo];exact h1,h2⟩
       ·subst hh
        rw [List.getElem?_append_right (Nat.le_refl _),Nat.sub_self] at hi
        simp only [List.getElem?_cons_zero,Option.some.injEq,Prod.mk.injEq] at hi
        obtain ⟨rfl,rfl⟩:=hi
        exact ⟨_,by rw [Array.getElem?_push,if_pos hsz.symm],hkr,hxr⟩
       ·rw [List.getElem?_eq_none Ze] at hi;cases hi
      ·simp only [execOp,hop,hev,Instr.mapUpdate,Sem.run_bind,run_underlying u1,Result.andThen_ok,Go.MapKept.run_getObj_map hb,ZgX u2 u3,run_findKey u2 hfn,run_setObj_map _ hb,Sem.run_pure]
     ·cases heq
    ·cases heq
   ·cases heq
 ·cases ho
end each
end Go.Am
end
section
namespace Go.Am
variable [WI]
variable {Pg:Program}
open Go.MapKept Go.RowKit
def okKF (Pg:Program):List Field→List Nat→Nat→Bool
  | [],[],_=>true
  | f :: r, k :: ks, i => f.name != "_" && f.offset == i && (match Pg.underlying f.type with
    | some d=>ZkI d k
    | none=>false) && okKF Pg r ks (i+1)
  | _,_,_=>false
def ZHE (Pg:Program) (t:TypeId):MK->Bool
 | .one k=>match Pg.underlying t with
   | some d=>ZkI d k
   | none=>false
 | .agg ks=>match Pg.underlying t with
   | some (.struct fs)=> !Pg.stoodInHeld t && okKF Pg fs.toList ks 0
   | _=>false
theorem ZME {t:TypeId} {ks:MK} (h:ZHE Pg t ks=true): ∃d,Pg.underlying t=some d:=by
 cases ks with
 | one k=>
   simp only [ZHE] at h
   split at h
   · exact ⟨_,by assumption⟩
   · cases h
 | agg ks=>
   simp only [ZHE] at h
   split at h
   · exact ⟨_,by assumption⟩
   · cases h
theorem ZHb {t:TypeId} {d:TypeDesc} (ht:Pg.underlying t=some d) {u v:Value} {b:Bool} (hs:Instr.sameNow d u v=some b) (n:Nat) (w:World):(Op.equalIn (n+1) t u v).run Pg w= .ok b w:=by
 cases d<;>simp only [Instr.sameNow] at hs<;>try cases hs
 ·cases u<;>cases v<;>simp only [Option.some.injEq] at hs<;>first|cases hs|skip
  exact run_equalIn_bool' w n t _ _ ht
 ·cases u<;>cases v<;>simp only at hs<;>first|cases hs|skip
  split at hs
  ·rename_i e;subst e;cases hs;exact run_equalIn_int w n t _ _ _ _ ht
  ·cases hs
 ·cases u<;>cases v<;>simp only [Option.some.injEq] at hs<;>first|cases hs|skip
  refine Eq.trans (run_equalIn_string (P:=Pg) w n t _ _ ht) (congrArg (Result.ok · w) ?_)
  exact (Bool.eq_iff_iff.2 ((bytes_beq _ _).trans ⟨fun h=>by rw [h];simp,fun h=>ZsC (by rw [ZbU,ZbU,beq_iff_eq.1 h])⟩)).symm
theorem ZIe {t:TypeId} {d:TypeDesc} (ht:Pg.underlying t=some d) {k:Value} {w:World}: ∀(ms:List MapEntry) (i:Nat) {q r:Option (Nat×Value)},Instr.findNow d k ms i=some q->(Instr.findAsking t k ms i).run Pg w= .ok r w->q=r
 | [],i,q,r,h1,h2=>by
   simp only [Instr.findNow,Option.some.injEq] at h1
   simp only [Instr.findAsking,Sem.run_pure,Result.ok.injEq] at h2
   rw [<-h1,<-h2.1]
 | m::ms,i,q,r,h1,h2=>by
   simp only [Instr.findNow] at h1
   simp only [Instr.findAsking,Op.equal] at h2
   split at h1
   · rename_i hs
     rw [Sem.run_bind,show Op.maxDepth=9999+1 from rfl,ZHb ht hs,Result.andThen_ok] at h2
     simp only [if_true,Sem.run_pure,Result.ok.injEq] at h2
     simp only [Option.some.injEq] at h1
     rw [<-h1,<-h2.1]
   · rename_i hs
     rw [Sem.run_bind,show Op.maxDepth=9999+1 from rfl,ZHb ht hs,Result.andThen_ok] at h2
     exact ZIe ht ms (i+1) h1 (by simpa using h2)
   · cases h1
theorem part_one {t:TypeId} {d:TypeDesc} {k:Nat} (ht:Pg.underlying t=some d) (hd:ZkI d k=true) {vs:Array Value} {i:Nat} {u:Value} (hu:vs[i]? =some u) (w:World):(part t vs i).run Pg w= .ok u w:=by
 have hag:(Go.isAgg t).run Pg w= .ok false w:=by
  simp only [Go.isAgg,Sem.run_bind,run_underlying ht,Result.andThen_ok]
  cases d<;>first|rfl|(simp [ZkI] at hd)
 unfold part
 rw [Sem.run_bind,hag,Result.andThen_ok]
 simp [hu]
theorem ZIT {pr:Nat->Nat} {w w':World} (n:Nat) {us vs:Array Value}: ∀{fs:List Field} {xs ys:List P} {i:Nat} {b:Bool},okKF Pg fs (xs.map ZuN) i=true->
   (∀(j:Nat) x,xs[j]? =some x-> ∃u,us[i+j]? =some u/\RepP pr w u x)->(∀(j:Nat) y,ys[j]? =some y-> ∃v,vs[i+j]? =some v/\RepP pr w v y)->ZM9 xs ys=some b->(Op.eqFields (n+1) us vs fs).run Pg w'= .ok b w'
 | [],[],[],i,b,_,_,_,h=>by simp only [ZM9,Option.some.injEq] at h;subst h;rfl
 | f::fs,x::xs,y::ys,i,b,hk,hx,hy,h=>by
   simp only [List.map_cons,okKF,Bool.and_eq_true,bne_iff_ne,beq_iff_eq] at hk
   obtain ⟨⟨⟨k1,k2⟩,k3⟩,k4⟩:=hk
   obtain ⟨u,u1,u2⟩:=hx 0 x rfl
   obtain ⟨v,v1,v2⟩:=hy 0 y rfl
   cases hd:Pg.underlying f.type with
   | none=>rw [hd] at k3;cases k3
   | some d=>
   rw [hd] at k3
   simp only at k3
   simp only [Op.eqFields]
   rw [if_pos k1,Sem.run_bind,k2,part_one hd k3 (by simpa using u1),Result.andThen_ok,Sem.run_bind,part_one hd k3 (by simpa using v1),Result.andThen_ok]
   unfold ZM9 at h
   split at h
   · rename_i he
     rw [Sem.run_bind,ZHb hd (Zmo k3 u2 v2 he),Result.andThen_ok]
     simp only [Bool.not_true,Bool.false_eq_true,if_false]
     exact ZIT n k4 (fun j x hj=>by have:=hx (j+1) x (by simpa using hj);rwa [show i+(j+1)=i+1+j by omega] at this) (fun j x hj=>by have:=hy (j+1) x (by simpa using hj);rwa [show i+(j+1)=i+1+j by omega] at this) h
   · rename_i he
     rw [Sem.run_bind,ZHb hd (Zmo k3 u2 v2 he),Result.andThen_ok]
     simp only [Option.some.injEq] at h
     subst h
     rfl
   · cases h
 | [],_::_,_,_,_,h,_,_,_=>by simp [okKF] at h
 | _::_,[],_,_,_,h,_,_,_=>by simp [okKF] at h
 | [],[],_::_,_,_,_,_,_,h=>by simp [ZM9] at h
 | _::_,_::_,[],_,_,_,_,_,h=>by simp [ZM9] at h
theorem ZMY {pr:Nat->Nat} {w:World} {vs:Array Value} {xs:List P} (hl:vs.size=xs.length) (h: ∀(i:Nat) u x,vs[i]? =some u->xs[i]? =some x->RepP pr w u x): ∀(j:Nat) x,xs[j]? =some x-> ∃u,vs[0+j]? =some u/\RepP pr w u x:=fun j x hx=>by
 have hj:=Zaq hx
 exact ⟨vs[j]'(by omega),by simp,h j _ x (Array.getElem?_eq_getElem Zo) hx⟩
theorem ZPx {pr:Nat->Nat} {w w':World} {t:TypeId} {k k':MV} {u v:Value} {b:Bool} (ht:ZHE Pg t k.kind=true) (hu:RepMV pr w u k) (hv:RepMV pr w v k') (h:peqV k k'=some b):(Op.equal t u v).run Pg w'= .ok b w':=by
 unfold Op.equal
 rw [show Op.maxDepth=9999+1 from rfl]
 cases k with
 | one x=>
   cases k' with
   | one y=>
     simp only [MV.kind,ZHE] at ht
     split at ht
     · rename_i d hd
       exact ZHb hd (Zmo ht hu hv h) _ _
     · cases ht
   | agg ys=>simp [peqV] at h
 | agg xs=>
   cases k' with
   | one y=>simp [peqV] at h
   | agg ys=>
     obtain ⟨us,rfl,u1,u2⟩:=hu
     obtain ⟨vs,rfl,v1,v2⟩:=hv
     simp only [MV.kind,ZHE] at ht
     split at ht
     · rename_i fs hd
       simp only [Bool.and_eq_true,Bool.not_eq_true'] at ht
       have hf:Pg.fieldsOf t=fs:=by unfold Program.fieldsOf;rw [hd]
       rw [run_equalIn_agg w' 9999 t _ _ (by rw [hf];exact hd) ht.1,hf]
       exact ZIT 9998 ht.2 (ZMY u1 u2) (ZMY v1 v2) h
     · cases ht
theorem ZPZ {pr:Nat→Nat} {w w':World} (em:Bool) (n:Nat) {us:Array Value}: ∀{fs:List Field} {xs:List P} {i:Nat},okKF Pg fs (xs.map ZuN) i=true→(∀(j:Nat) x,xs[j]? =some x→ ∃u,us[i+j]? =some u∧RepP pr w u x)→
    (forIn fs PUnit.unit fun f _=>do
      if f.name ≠ "_" then Instr.checkKey em (n + 1) f.type (← part f.type us f.offset)
      pure (ForInStep.yield PUnit.unit):Sem PUnit).run Pg w'= .ok () w'
  | [],_,_,_,_=>by simp
  | f::fs,x::xs,i,hk,hx=>by
    simp only [List.map_cons,okKF,Bool.and_eq_true,bne_iff_ne,beq_iff_eq] at hk
    obtain ⟨⟨⟨k1,k2⟩,k3⟩,k4⟩:=hk
    obtain ⟨u,u1,u2⟩:=hx 0 x rfl
    cases hd:Pg.underlying f.type with
    | none=>rw [hd] at k3;cases k3
    | some d=>
    rw [hd] at k3
    simp only at k3
    simp only [List.forIn_cons,Sem.run_bind,k1,ne_eq,not_false_eq_true,if_true,Result.andThen_ok,k2,part_one hd k3 (by simpa using u1),ZgX hd k3,Sem.run_pure]
    exact ZPZ em n k4 fun j x hj=>by have:=hx (j+1) x (by simpa using hj);rwa [show i+(j+1)=i+1+j by omega] at this
  | _::_,[],_,h,_=>by simp [okKF] at h
theorem ZKT {pr:Nat->Nat} {w w':World} {t:TypeId} {k:MV} {u:Value} (ht:ZHE Pg t k.kind=true) (hu:RepMV pr w u k) (em:Bool):(Instr.checkKey em 10000 t u).run Pg w'= .ok () w':=by
 cases k with
 | one x=>
   simp only [MV.kind,ZHE] at ht
   split at ht
   · rename_i d hd;exact ZgX hd ht em 9999
   · cases ht
 | agg xs=>
   obtain ⟨us,rfl,u1,u2⟩:=hu
   simp only [MV.kind,ZHE] at ht
   split at ht
   · rename_i fs hd
     simp only [Bool.and_eq_true,Bool.not_eq_true'] at ht
     rw [show (10000:Nat)=9998+1+1 from rfl,Instr.checkKey]
     simp only [Sem.run_bind,run_underlying hd,Result.andThen_ok]
     rw [<-Array.forIn_toList]
     have:=ZPZ (w':=w') em 9998 ht.2 (ZMY u1 u2)
     simp at this⊢
     rw [this]
     rfl
   · cases ht
theorem ZRv {pr:Nat->Nat} {w w':World} {t:TypeId} {k:MV} {u:Value} (ht:ZHE Pg t k.kind=true) (hu:RepMV pr w u k): ∀(es:List (MV×MV)) (ms:List MapEntry) (i:Nat) {r:Option (Nat×MV)},ms.length=es.length->
   (∀(j:Nat) k' x,es[j]? =some (k',x)-> ∃e,ms[j]? =some e/\RepMV pr w e.key k'/\RepMV pr w e.val x)->ZLf es k i=some r->
   ∃r',(Instr.findAsking t u ms i).run Pg w'= .ok r' w'/\match r with
     | none=>r'=none
     | some (j,x)=> ∃e k',i<=j/\ms[j-i]? =some e/\es[j-i]? =some (k',x)/\r'=some (j,e.val)/\peqV k k'=some true
 | [],[],i,r,_,_,hf=>by
   simp only [ZLf,Option.some.injEq] at hf;subst hf
   exact ⟨none,by simp [Instr.findAsking],rfl⟩
 | (k',x)::es,m::ms,i,r,hl,hr,hf=>by
   obtain ⟨e,h0,h1,h2⟩:=hr 0 k' x rfl
   simp only [List.getElem?_cons_zero,Option.some.injEq] at h0
   subst h0
   simp only [ZLf] at hf
   split at hf
   · rename_i he
     simp only [Option.some.injEq] at hf;subst hf
     have hq:=ZPx (w':=w') ht hu h1 he
     exact ⟨some (i,m.val),by simp [Instr.findAsking,hq],m,k',Nat.le_refl _,by simp,by simp,rfl,he⟩
   · rename_i he
     have hq:=ZPx (w':=w') ht hu h1 he
     obtain ⟨r',q1,q2⟩:=ZRv ht hu es ms (i+1) (by simpa using hl) (fun j k' x hj=>by simpa using hr (j+1) k' x (by simpa using hj)) hf
     refine ⟨r',by simp only [Instr.findAsking];rw [Sem.run_bind,hq,Result.andThen_ok];simpa using q1,?_⟩
     cases r with
     | none=>exact q2
     | some jx=>
       obtain ⟨j,x⟩:=jx
       obtain ⟨e',k',z1,z2,z3,z4,z5⟩:=q2
       have hj:j-i=(j-(i+1))+1:=by omega
       exact ⟨e',k',by omega,by rw [hj];simpa using z2,by rw [hj];simpa using z3,z4,z5⟩
   · cases hf
 | [],_::_,_,_,hl,_,_=>by simp at hl
 | _::_,[],_,_,hl,_,_=>by simp at hl
theorem ZJN {pr:Nat->Nat} {w w':World} {t:TypeId} {k:MV} {u:Value} (ht:ZHE Pg t k.kind=true) (hu:RepMV pr w u k) {es:List (MV×MV)} {ms:List MapEntry} {r:Option (Nat×MV)} (hl:ms.length=es.length)
   (hr: ∀(j:Nat) k' x,es[j]? =some (k',x)-> ∃e,ms[j]? =some e/\RepMV pr w e.key k'/\RepMV pr w e.val x) (hf:ZLf es k 0=some r):
   ∃r',(Instr.findKey t u ms).run Pg w'= .ok r' w'/\match r with
     | none=>r'=none
     | some (j,x)=> ∃e k',ms[j]? =some e/\es[j]? =some (k',x)/\r'=some (j,e.val)/\peqV k k'=some true:=by
 obtain ⟨d,hd⟩:=ZME ht
 obtain ⟨r',q1,q2⟩:=ZRv (w':=w') ht hu es ms 0 hl hr hf
 refine ⟨r',?_,?_⟩
 · unfold Instr.findKey
   rw [Sem.run_bind,run_underlying hd,Result.andThen_ok]
   split
   · rename_i q hq
     rw [ZIe hd _ _ hq q1];simp
   · exact q1
 · cases r with
   | none=>exact q2
   | some jx=>
     obtain ⟨j,x⟩:=jx
     obtain ⟨e,k',_,z2,z3,z4,z5⟩:=q2
     exact ⟨e,k',by simpa using z2,by simpa using z3,z4,z5⟩
theorem ZMr {pr:Nat->Nat} {w:World} {u v:Value} {k k':P} (hu:RepP pr w u k) (hv:RepP pr w v k') (h:peqK k k'=some true) (n:Nat):Instr.sameBits n v u=true:=by
 have hd: ∃d,ZkI d (ZuN k)=true:=by
  cases k with
  | int kk=>exact ⟨.int kk,rfl⟩
  | bool=>exact ⟨.bool,rfl⟩
  | str=>exact ⟨.string,rfl⟩
  | sl=>simp [peqK] at h
 obtain ⟨d,hd⟩:=hd
 exact Zl7 (Zmo hd hu hv h) n
theorem ZOe {pr:Nat->Nat} {w:World} (n:Nat): ∀{xs ys:List P} {us vs:List Value},us.length=xs.length->vs.length=ys.length->(∀(i:Nat) u x,us[i]? =some u->xs[i]? =some x->RepP pr w u x)->(∀(i:Nat) u x,vs[i]? =some u->ys[i]? =some x->RepP pr w u x)->ZM9 xs ys=some true->
   vs.length=us.length/\(vs.zip us).all (fun (x,y)=>Instr.sameBits n x y)=true
 | [],[],[],[],_,_,_,_,_=>⟨rfl,rfl⟩
 | x::xs,y::ys,u::us,v::vs,h1,h2,h3,h4,h=>by
   unfold ZM9 at h
   split at h
   · rename_i he
     obtain ⟨q1,q2⟩:=ZOe n (us:=us) (vs:=vs) (by simpa using h1) (by simpa using h2) (fun i u x hu hx=>h3 (i+1) u x (by simpa using hu) (by simpa using hx)) (fun i u x hu hx=>h4 (i+1) u x (by simpa using hu) (by simpa using hx)) h
     refine ⟨by simp [q1],?_⟩
     simp only [List.zip_cons_cons,List.all_cons,Bool.and_eq_true]
     exact ⟨ZMr (h3 0 u x rfl rfl) (h4 0 v y rfl rfl) he n,q2⟩
   · cases h
   · cases h
 | [],_::_,_,_,_,_,_,_,h=>by simp [ZM9] at h
 | _::_,[],_,_,_,_,_,_,h=>by simp [ZM9] at h
 | [],[],_::_,_,h,_,_,_,_=>by simp at h
 | [],[],[],_::_,_,h,_,_,_=>by simp at h
 | _::_,_::_,[],_,h,_,_,_,_=>by simp at h
 | _::_,_::_,_::_,[],_,h,_,_,_=>by simp at h
theorem ZRO {pr:Nat->Nat} {w:World} {u v:Value} {k k':MV} (hu:RepMV pr w u k) (hv:RepMV pr w v k') (h:peqV k k'=some true) (n:Nat):Instr.sameBits (n+1) v u=true:=by
 cases k with
 | one x=>
   cases k' with
   | one y=>exact ZMr hu hv h _
   | agg ys=>simp [peqV] at h
 | agg xs=>
   cases k' with
   | one y=>simp [peqV] at h
   | agg ys=>
     obtain ⟨us,rfl,u1,u2⟩:=hu
     obtain ⟨vs,rfl,v1,v2⟩:=hv
     obtain ⟨q1,q2⟩:=ZOe n (us:=us.toList) (vs:=vs.toList) (by simpa using u1) (by simpa using v1) (fun i u x hu=>u2 i u x (by simpa using hu)) (fun i u x hu=>v2 i u x (by simpa using hu)) h
     simp only [Instr.sameBits,Bool.and_eq_true,beq_iff_eq]
     exact ⟨by simpa using q1,q2⟩
section each
variable {F:ZaQ} {g:G} {e e':Env} {a:Act} {w:World}
theorem ZNs {k:Nat} {v:Value} {x:A} {y:MV} (hr:RepD g w k v (.a x)) (hy:mvOf x=some y):RepMV g.pr w v y:=by
 cases x with
 | one c=>
   cases c<;>simp [mvOf,C.toP] at hy
   · subst hy;exact hr
   · subst hy;exact hr.1
 | agg cs=>
   simp only [mvOf,Option.map_eq_some_iff] at hy
   obtain ⟨xs,h1,rfl⟩:=hy
   obtain ⟨vs,rfl,hc⟩:=hr
   obtain ⟨q1,q2⟩:=Zo5 h1 hc
   exact ⟨vs,rfl,by rw [q1];simpa using hc.1,fun i u x hu hx=>q2 i u x (by simpa using hu) hx⟩
theorem mv_a {k:Nat} {v:Value} {x:MV} (h:RepMV g.pr w v x):RepA g w k 0 v x.a:=by
 cases x with
 | one x=>exact h
 | agg xs=>
   obtain ⟨vs,rfl,h1,h2⟩:=h
   refine ⟨vs,rfl,by simp [h1],fun i u x hu hx=>?_⟩
   rw [List.getElem?_map,Option.map_eq_some_iff] at hx
   obtain ⟨y,hy,rfl⟩:=hx
   exact h2 i u y (by simpa using hu) hy
theorem ZRP {k c:Nat} {v:Value} {x:MV} (h:RepMV g.pr w v x):RepA g w k c v x.a:=by
 cases x with
 | one x=>exact h
 | agg xs=>
   obtain ⟨vs,rfl,h1,h2⟩:=h
   refine ⟨vs,rfl,by simp [h1],fun i u x hu hx=>?_⟩
   rw [List.getElem?_map,Option.map_eq_some_iff] at hx
   obtain ⟨y,hy,rfl⟩:=hx
   exact h2 i u y (by simpa using hu) hy
def ZKt (Pg:Program) (t:TypeId) (ks:MK):Bool:=
 match Pg.underlying t with
 | some (.map key _)=>ZHE Pg key ks
 | _=>false
def ZLc (Pg:Program) (t:TypeId) (z:MV):Bool:=
 match Pg.underlying t with
 | some (.map _ el)=>(match Pg.info? el with
   | some i=>(match i.zero,z with
     | some v,.one x=>ZfU v (.p x)
     | some (.agg vs),.agg xs=>Zj0 vs.toList (xs.map .p)
     | _,_=>false)
   | none=>false)
 | _=>false
theorem ZI9 {t key el:TypeId} {z:MV} (h:ZLc Pg t z=true) (u1:Pg.underlying t=some (.map key el)): ∃i v,Pg.info? el=some i/\i.zero=some v/\ ∀pr w,RepMV pr w v z:=by
 simp only [ZLc,u1] at h
 split at h
 ·rename_i i hi
  refine ⟨i,?_⟩
  split at h
  ·rename_i v x hv
   exact ⟨v,hi,hv,fun pr w=>Zds h ⟨0,fun _=>False,pr,fun _=>none,id,id⟩ w (0,0,0)⟩
  ·rename_i vs xs hv
   refine ⟨_,hi,hv,fun pr w=>?_⟩
   obtain ⟨h1,h2⟩:=ZfH ⟨0,fun _=>False,pr,fun _=>none,id,id⟩ w 0 0 _ _ h
   refine ⟨vs,rfl,by simpa using h1,fun i u x hu hx=>h2 i u (.p x) (by simpa using hu) (by rw [List.getElem?_map,hx];rfl)⟩
  ·cases h
 ·cases h
theorem ZKF {cs:List C} {es:List (MV×MV)} (h:ZN5 cs=some es):cs=[.mapc es]:=by
 unfold ZN5 at h
 split at h
 ·cases h;rfl
 ·cases h
theorem ZIP (h:St g e a w) {own:Option Nat} {r:R} {es:List (MV×MV)} {d:D} (hκ: ∀κ,own=some κ->BOX<=κ) (hd:e.get (own.getD OBJS)=d) (hx:ZLq own r d=some es):MapO g w (r.blk g) es/\g.T (r.blk g):=by
 unfold ZLq at hx
 split at hx
 ·rename_i κ cs
  split at hx
  ·rename_i hc
   simp only [Bool.and_eq_true,beq_iff_eq] at hc
   have hcs:=ZKF hx
   subst hcs
   simp only [Option.getD_some] at hd
   have hb:=hκ κ rfl
   refine ⟨?_,?_⟩
   ·simp only [R.blk,hc.1,if_true,hc.2]
    exact ((h.key κ).bx hb _ hd).map
   ·simp only [R.blk,hc.1,if_true,hc.2]
    exact h.tb κ hb (by rw [hd];simp)
  ·cases hx
 ·rename_i os
  split at hx
  ·cases hx
  ·rename_i ho
   split at hx
   ·rename_i cs hcs
    have hce:=ZKF hx
    subst hce
    simp only [Option.getD_none] at hd
    simp only [R.blk,ho,if_false]
    exact ⟨((h.key OBJS).ob rfl os hd r.k _ hcs).map,h.to os r.k hd (Zaq hcs)⟩
   ·cases hx
 ·cases hx
def ZQ5 (own:Option Nat):Bool:=match own with
 | some κ=>Nat.ble BOX κ
 | none=>true
theorem ZKc {own:Option Nat} (h:ZQ5 own=true): ∀κ,own=some κ->BOX<=κ:=fun κ hk=>by
 subst hk;exact Nat.le_of_ble_eq_true h
def ZJP (Pg:Program) (own:Option Nat) (ks:MK) (z:MV) (ok:Bool) (o:Oper) (s:SOp) (nt:Nat):Bool:=
 Zie o s nt && match o.op,s.ins with
 | .lookup t m ix ok',[y,yk,.k κ']=>ok==ok' && Zcl m y && Zcl ix yk && κ'==own.getD OBJS && ZQ5 own && ZKt Pg t ks && ZLc Pg t z
 | _,_=>false
theorem ZLN {own:Option Nat} {r:R} {d:D} {es:List (MV×MV)} (h:ZLq own r d.plain=some es):d.plain=d:=by
 cases d with
 | a x=>
   cases x with
   | one c=>cases own<;>simp [D.plain,A.plain,ZLq] at h
   | agg cs=>
     cases own with
     | none=>simp [D.plain,A.plain,ZLq] at h
     | some κ=>
       simp only [D.plain,A.plain,ZLq] at h
       split at h
       · have:=ZKF h
         simp only [D.plain,A.plain,D.a.injEq,A.agg.injEq]
         cases cs with
         | nil=>rfl
         | cons c cs=>
           cases cs with
           | nil=>
             simp only [List.map_cons,List.map_nil,List.cons.injEq,and_true] at this⊢
             cases c<;>simp [C.plain] at this⊢
           | cons _ _=>simp at this
       · cases h
 | tup xs=>cases own<;>simp [D.plain,ZLq] at h
 | _=>rfl
theorem ZMD (h:St g e a w) {o:Oper} {s:SOp} {own:Option Nat} {ks:MK} {z:MV} {ok:Bool} (hk:s.kind= .lookupX own ks z ok) (ho:ZJP Pg own ks z ok o s g.nt=true) (hd:doOp F s e=some e'):OpOut Pg o a w g e':=by
 unfold ZJP at ho
 rw [Bool.and_eq_true] at ho
 refine Zer h ho.1 hd fun d hx=>?_
 have ho2:=ho.2
 rw [hk] at hx
 split at ho2
 · rename_i t m ix ok' y yk κ' hop hins
   simp only [Bool.and_eq_true,beq_iff_eq] at ho2
   obtain ⟨⟨⟨⟨⟨⟨rfl,o1⟩,o2⟩,rfl⟩,o3⟩,o4⟩,o5⟩:=ho2
   rw [hins] at hx
   simp only [List.map_cons,List.map_nil,ZaI] at hx
   unfold ZJh at hx
   split at hx
   · rename_i r x dm heq
     simp only [List.cons.injEq,and_true] at heq
     obtain ⟨q1,q2,q3⟩:=heq
     split at hx
     · rename_i es k hes hkx
       split at hx
       · rename_i hkk
         subst hkk
         split at hx
         · rename_i q hq
           simp only [Zx5,and_true] at hx
           subst hx
           have q3':(e.get (own.getD OBJS)).plain=dm:=by simpa [Zbl] using q3
           subst q3'
           have hpl:=ZLN hes
           rw [hpl] at hes
           obtain ⟨⟨mes,clock,hb,hsz,hent,_,_⟩,_⟩:=ZIP h (ZKc o3) rfl hes
           have hm:=ZbL h o1 0
           rw [q1] at hm
           have hm:a.eval m= .map (some (r.blk g)):=hm
           have hkr:=ZbL h o2 0
           rw [q2] at hkr
           have hkr:=ZNs hkr hkx
           unfold ZKt at o4
           split at o4
           · rename_i key el u1
             obtain ⟨inf,zv,z1,z2,z3⟩:=ZI9 o5 u1
             have hl:mes.toList.length=es.length:=by simpa using hsz
             have hent': ∀(j:Nat) k' x,es[j]? =some (k',x)-> ∃e,mes.toList[j]? =some e/\RepMV g.pr w e.key k'/\RepMV g.pr w e.val x:=fun j k' x hj=>by simpa using hent j k' x hj
             obtain ⟨r',f1,f2⟩:=ZJN (Pg:=Pg) (w':=w) o4 hkr hl hent' hq
             have hval: ∃v,(Instr.lookup t (a.eval m) (a.eval ix) ok).run Pg w= .ok (if ok then .tuple #[v,.bool q.isSome] else v) w/\RepMV g.pr w v (ZOz z q):=by
               cases q with
               | none=>
                 simp only at f2
                 subst f2
                 refine ⟨zv,?_,z3 _ _⟩
                 rw [hm]
                 unfold Instr.lookup
                 simp only [Sem.run_bind,run_underlying u1,Result.andThen_ok,Go.MapKept.run_getObj_map hb,Sem.run_pure,ZKT o4 hkr,f1,Zcs z1 z2]
                 rfl
               | some jx=>
                 obtain ⟨j,x⟩:=jx
                 simp only at f2
                 obtain ⟨en,k',g1,g2,rfl,g4⟩:=f2
                 obtain ⟨en',e1,e2,e3⟩:=hent' j k' x g2
                 rw [g1] at e1
                 cases e1
                 refine ⟨en.val,?_,e3⟩
                 rw [hm]
                 unfold Instr.lookup
                 simp only [Sem.run_bind,run_underlying u1,Result.andThen_ok,Go.MapKept.run_getObj_map hb,Sem.run_pure,ZKT o4 hkr,f1]
                 rfl
             obtain ⟨v,hrun,hrep⟩:=hval
             refine ⟨_,by simp only [execOp,hop];rw [Zaw,hrun,Result.andThen_ok],fun k=>?_⟩
             cases ok with
             | false=>exact mv_a hrep
             | true=>
               refine ⟨#[v,.bool q.isSome],rfl,rfl,fun j u x hu hx=>?_⟩
               match j with
               | 0=>simp at hu hx;subst hu hx;exact ZRP hrep
               | 1=>simp at hu hx;subst hu hx;exact RepP.bool _
               | j+2=>simp at hx
           · cases o4
         · cases hx
       · cases hx
     · cases hx
   · cases hx
 · cases ho2
end each
end Go.Am
end
section
namespace Go.Am
variable [WI]
variable {Pg:Program}
open Go.MapKept Go.RowKit
section each
variable {F:ZaQ} {g:G} {e e':Env} {a:Act} {w:World}
theorem St.newMap (h:St g e a w) {d κ:Nat} {x:C} (hx: ∀g w b,w.heap[b]? =some (.map #[] 0)->g.pr b=0->g.ow b=none->MapB g w b x) (hlt:d<g.nt) (hκ:BOX<=κ) (hno:ZlQ e κ):
  ∃g',St g' ((e.set d (.a (.one (.mptr ⟨true,κ,0⟩)))).set κ (.a (.agg [x]))) (a.put (some d) (.map (some w.heap.size))) (w.alloc (.map #[] 0))/\
   Ext g.T g.pr g.ow w (w.alloc (.map #[] 0)) g'.pr g'.ow/\g'.ω=g.ω/\g'.T=g.T/\g'.nt=g.nt:=by
 have hsame: ∀ℓ b,g.ow b=some ℓ->(w.alloc (Obj.map #[] 0)).heap[b]? =w.heap[b]? :=fun ℓ b hb=>heap_alloc_old w _ b (by
  rcases Nat.lt_or_ge b w.heap.size with hh|hh
  ·exact hh
  ·rw [(h.fr b hh).2] at hb;cases hb)
 have hdO:d<OBJS:=Nat.lt_of_lt_of_le hlt h.nt
 have hds:d<a.tmps.size:=Nat.lt_of_lt_of_le hlt h.sz
 have hne:d≠κ:=by have:=Zau;omega
 let g':G:={g with β:=fun k=>if k=κ then w.heap.size else g.β k}
 have hext:Ext g.T g.pr g.ow w (w.alloc (.map #[] 0)) g'.pr g'.ow:=Zuc _ _ _ _ _
 have hget: ∀k,((e.set d (.a (.one (.mptr ⟨true,κ,0⟩)))).set κ (.a (.agg [x]))).get k=if k=κ then .a (.agg [x]) else if k=d then .a (.one (.mptr ⟨true,κ,0⟩)) else e.get k:=fun k=>by
  rw [Env.get_set,Env.get_set]
  by_cases h1:κ=k
  ·subst h1;simp
  ·by_cases h2:d=k
   ·subst h2;simp [h1,hne]
   ·simp [h1,h2,Ne.symm h1,Ne.symm h2]
 refine ⟨g',?_,hext,rfl,rfl,rfl⟩
 refine h.gen [d,κ] (fun b=>b<w.heap.size) hext (fun b hb=>h.fr b (by simp at hb;omega)) rfl rfl rfl (by rw [Zb6];exact h.df) Zd6 (fun k hk=>?_) (fun k hk _=>?_) (fun k hk c i b hb=>⟨hb,rfl,hsame _ b hb⟩)
  (fun κ'=>?_) (fun b hb=>⟨heap_alloc_old w _ b hb,rfl,rfl⟩) (fun κ' _ hκ' hl=>(Zb7 h hκ' hl).1) (fun _ os i ho hi=>(Ze2 h ho hi).1) (fun k hk=>?_) (fun κ' hm hκb=>?_) (fun hm=>?_) (fun κ' hm hκb hl=>?_)
 ·simp at hk;rw [hget,if_neg hk.2,if_neg hk.1]
 ·simp at hk;exact Zbb hk.1
 ·by_cases hh:κ'=κ
  ·subst hh;exact .inr ⟨hno.1,fun k _=>hno.2 k⟩
  ·exact .inl (by simp [g',hh])
 ·simp at hk
  rcases hk with rfl|rfl
  ·refine .tmp hdO ?_
   rw [hget,if_neg hne,if_pos rfl,Zbe hds]
   show _=Value.map (some (R.blk g' _))
   simp [R.blk,g']
  ·refine .box hκ fun cs'' hcs=>?_
   rw [hget,if_pos rfl] at hcs
   cases hcs
   have hb:g'.β k=w.heap.size:=by simp [g']
   rw [hb]
   exact .inl ⟨x,rfl,hx _ _ _ (heap_alloc_new w _) (h.fr _ (Nat.le_refl _)).1 (h.fr _ (Nat.le_refl _)).2⟩
 ·simp at hm
  rcases hm with rfl|rfl
  ·have:=Zau;omega
  ·rw [hget,if_pos rfl];exact .inr ⟨_,rfl⟩
 ·simp at hm;have:=Zau;omega
 ·simp at hm
  rcases hm with rfl|rfl
  ·have:=Zau;omega
  ·refine .inr ⟨.inl (by simp [g']),fun κ'' hm' hκ'' _ _=>?_⟩
   simp at hm'
   rcases hm' with rfl|rfl
   ·have:=Zau;omega
   ·rfl
def ZIW (κ:Nat) (o:Oper) (s:SOp) (nt:Nat):Bool:=
 match o.op,o.dst,s.ins,s.outs,s.takes with
 | .makeMap _ none,some d,[],[d',κ'],[]=>κ'==κ && Nat.ble BOX κ && d==d' && Nat.blt d nt
 | _,_,_,_,_=>false
theorem ZLY (h:St g e a w) {o:Oper} {s:SOp} {κ:Nat} (hk:s.kind= .makeMapX κ) (ho:ZIW κ o s g.nt=true) (hno:ZlQ e κ) (hd:doOp F s e=some e'):OpOut Pg o a w g e':=by
 unfold ZIW at ho
 split at ho
 ·rename_i t d d' κ' hop hdst hins hout htk
  simp only [Bool.and_eq_true,beq_iff_eq,Nat.ble_eq,Nat.blt_eq] at ho
  obtain ⟨⟨⟨e1,hκ⟩,e2⟩,hlt⟩:=ho
  obtain ⟨d,rfl⟩: ∃d₀:Nat,d₀=d:=⟨d,rfl⟩
  rw [e1,<-e2] at hout
  obtain ⟨ds,hx,hs⟩:=Zqq htk hd
  rw [hk,hins] at hx
  simp only [List.map_nil,ZaI,ZIj,Option.some.injEq] at hx
  subst hx
  rw [hout] at hs
  simp only [Env.sets,Option.some.injEq] at hs
  subst hs
  obtain ⟨g',h1,h2,h3,h4,h5⟩:=h.newMap (x:= .mapc []) (fun g w b q1 q2 q3=>⟨#[],0,q1,rfl,fun i k x hi=>by simp at hi,q2,q3⟩) hlt hκ hno
  refine ⟨.value _,_,_,g',?_,.inl rfl,by rw [hdst];exact h1,h2,h3,h4,h5⟩
  simp only [execOp,hop,Option.map_none]
  rw [Zaw,run_makeMap]
  rfl
 ·cases ho
theorem St.setMap (h:St g e a w) {own:Option Nat} {r:R} {d d':D} {es es':List (MV×MV)} (hκ: ∀κ,own=some κ->BOX<=κ) (hd:e.get (own.getD OBJS)=d) (hx:ZLq own r d=some es) (hp:ZMO own r d es'=some d')
   {mes':Array MapEntry} (clock':Nat) (hsz:mes'.size=es'.length) (hent: ∀(i:Nat) k x,es'[i]? =some (k,x)-> ∃e,mes'[i]? =some e/\RepMV g.pr w e.key k/\RepMV g.pr w e.val x) (he: ∀k,e'.get k=if k=own.getD OBJS then d' else e.get k):
   St g e' a {w with heap:=w.heap.setIfInBounds (r.blk g) (.map mes' clock')}/\Ext g.T g.pr g.ow w {w with heap:=w.heap.setIfInBounds (r.blk g) (.map mes' clock')} g.pr g.ow:=by
 obtain ⟨⟨mes,clock,hb,_,_,hpr,how⟩,hT⟩:=ZIP h hκ hd hx
 generalize hbe:r.blk g=b at hb hpr how hT
 let w':World:={w with heap:=w.heap.setIfInBounds b (.map mes' clock')}
 obtain ⟨hw1,hw2⟩:=heap_set (o':=Obj.map mes' clock') hb
 have hext:Ext g.T g.pr g.ow w w' g.pr g.ow:=by
   refine ⟨rfl,rfl,rfl,by simp [w'],fun b' o' ho'=>?_,fun _ _=>Nat.le_refl _,fun _ _ h _=>⟨rfl,h⟩,fun b' _ ho' hnT=>hw2 b' (fun hh=>hnT (hh ▸ hT))⟩
   by_cases hbb:b'=b
   · subst hbb
     rw [hb] at ho';cases ho'
     exact ⟨_,hw1,_,_,rfl⟩
   · exact ⟨o',(hw2 b' hbb).trans ho',SameObj.refl _ _⟩
 have hnew:MapO g w' b es':=⟨mes',clock',hw1,hsz,fun i k x hi=>by
   obtain ⟨e,q1,q2,q3⟩:=hent i k x hi
   exact ⟨e,q1,q2.mono hext.keeps (fun _=>Nat.le_refl _),q3.mono hext.keeps (fun _=>Nat.le_refl _)⟩,hpr,how⟩
 refine ⟨?_,hext⟩
 have hob:=Zau
 cases own with
 | some κ=>
   have hκb:=hκ κ rfl
   simp only [Option.getD_some] at hd he
   unfold ZLq at hx
   split at hx
   · rename_i κ1 cs heq
     cases heq
     split at hx
     · rename_i hc
       simp only [Bool.and_eq_true,beq_iff_eq] at hc
       have hbk:b=g.β κ:=by rw [<-hbe];simp [R.blk,hc.1,hc.2]
       simp only [ZMO,Option.some.injEq] at hp
       subst hp
       have hlive:e.get κ≠ .undef:=by rw [hd];simp
       refine h.gen [κ] (fun b'=>b'≠b) hext (fun b' hb'=>h.fr b' (by simpa [w'] using hb')) rfl rfl rfl h.df rfl (fun k hk=>?_) (fun _ _ _=>rfl) (fun k hk c i b' hb'=>⟨hb',rfl,hw2 b' fun hh=>by rw [hh,how] at hb';cases hb'⟩) (fun _=> .inl rfl) (fun b' hb'=>⟨hw2 b' hb',rfl,rfl⟩)
         (fun κ' hk' hκ' hl hh=>?_) (fun _ os i ho' hi hh=>h.dbo κ os i hκb hlive ho' hi (hbk.symm.trans hh.symm)) (fun k hk=>?_) (fun κ' hm _=>?_) (fun hm=>by simp at hm;omega) (fun κ' hm _ _=>?_)
       · simp at hk;rw [he,if_neg hk]
       · simp at hk'
         exact hk' (h.db κ' κ hκ' hκb hl hlive (hh.trans hbk))
       · simp at hk;subst hk
         refine .box hκb fun cs' hcs'=>?_
         rw [he,if_pos rfl] at hcs'
         cases hcs'
         rw [<-hbk]
         exact .inl ⟨.mapc es',rfl,hnew⟩
       · simp at hm;subst hm;rw [he,if_pos rfl];exact .inr ⟨_,rfl⟩
       · simp at hm;subst hm;exact .inl ⟨hlive,rfl⟩
     · cases hx
   · rename_i heq;cases heq
   · cases hx
 | none=>
   simp only [Option.getD_none] at hd he
   cases d with
   | objs os=>
     have hx:(if r.own then none else match os[r.k]? with|some cs=>ZN5 cs|none=>none)=some es:=hx
     split at hx
     · cases hx
     · rename_i ho
       have hbk:b=g.ω r.k:=by rw [<-hbe];simp [R.blk,ho]
       split at hx
       · rename_i cs hcs
         have hkl:=Zaq hcs
         simp only [ZMO,Option.some.injEq] at hp
         subst hp
         refine h.gen [OBJS] (fun b'=>b'≠b) hext (fun b' hb'=>h.fr b' (by simpa [w'] using hb')) rfl rfl rfl h.df rfl (fun k hk=>?_) (fun _ _ _=>rfl) (fun k hk c i b' hb'=>⟨hb',rfl,hw2 b' fun hh=>by rw [hh,how] at hb';cases hb'⟩) (fun _=> .inl rfl) (fun b' hb'=>⟨hw2 b' hb',rfl,rfl⟩)
           (fun κ' hk' hκ' hl hh=>h.dbo κ' os r.k hκ' hl hd hkl (hh.trans hbk)) (fun hno=>absurd (List.mem_singleton.2 rfl) hno) (fun k hk=>?_) (fun κ' hm hκ'=>by simp at hm;omega) (fun _=>⟨os,os.set r.k [.mapc es'],hd,by rw [he,if_pos rfl],by simp⟩) (fun κ' hm hκ' _=>by simp at hm;omega)
         · simp at hk;rw [he,if_neg hk]
         · simp at hk;subst hk
           refine .obj fun os' hos i cs'' hi=>?_
           rw [he,if_pos rfl] at hos
           cases hos
           by_cases hik:i=r.k
           · subst hik
             rw [List.getElem?_set_self hkl] at hi
             cases hi
             rw [<-hbk]
             exact .inl ⟨.mapc es',rfl,hnew⟩
           · rw [List.getElem?_set_ne (Ne.symm hik)] at hi
             have hne:g.ω i≠b:=fun hh=>hik (h.dob os i r.k hd (Zaq hi) hkl (hh.trans hbk))
             exact ((h.key OBJS).ob rfl os hd i cs'' hi).mono hext (fun _=>Nat.le_refl _) (fun j b' hb'=>⟨hb',rfl,hw2 b' fun hh=>by rw [hh,how] at hb';cases hb'⟩) (fun _ h=>h) (fun _ _=>rfl) (hw2 _ hne) rfl rfl
       · cases hx
   | a x=>cases x<;>simp [ZLq] at hx
   | tup xs=>simp [ZLq] at hx
   | undef=>simp [ZLq] at hx
def ZJS (Pg:Program) (own:Option Nat) (ks:MK) (o:Oper) (s:SOp):Bool:=
 match o.op,o.dst,s.ins,s.takes,s.outs with
 | .mapUpdate t m kx vx,none,[y,y1,y2,.k κ'],[κ₂],[κ₃]=>Zcl m y && Zcl kx y1 && Zcl vx y2 && κ'==own.getD OBJS && κ₂==own.getD OBJS && κ₃==own.getD OBJS && ZQ5 own && ZKt Pg t ks
 | _,_,_,_,_=>false
theorem ZM1 {es:List (MV×MV)} {k x:MV} {q:Option (Nat×MV)} (i:Nat) (k' x':MV) (h:(putE es k x q)[i]? =some (k',x')):
   (k'=k/\x'=x/\(match q with|some (j,_)=>i=j/\i<es.length|none=>i=es.length))∨(es[i]? =some (k',x')/\(match q with|some (j,_)=>i≠j|none=>i<es.length)):=by
 cases q with
 | some jx=>
   obtain ⟨j,y⟩:=jx
   simp only [putE] at h
   rw [List.getElem?_set] at h
   by_cases hij:j=i
   · subst hij
     simp only [if_true] at h
     split at h
     · simp only [Option.some.injEq,Prod.mk.injEq] at h
       exact .inl ⟨h.1.symm,h.2.symm,rfl,by assumption⟩
     · cases h
   · rw [if_neg hij] at h
     exact .inr ⟨h,Ne.symm hij⟩
 | none=>
   simp only [putE] at h
   rcases Nat.lt_trichotomy i es.length with hh|hh|hh
   · rw [List.getElem?_append_left hh] at h
     exact .inr ⟨h,hh⟩
   · subst hh
     rw [List.getElem?_append_right (Nat.le_refl _),Nat.sub_self] at h
     simp only [List.getElem?_cons_zero,Option.some.injEq,Prod.mk.injEq] at h
     exact .inl ⟨h.1.symm,h.2.symm,rfl⟩
   · rw [List.getElem?_eq_none Ze] at h;cases h
theorem ZMl (h:St g e a w) {o:Oper} {s:SOp} {own:Option Nat} {ks:MK} (hk:s.kind= .updateX own ks) (ho:ZJS Pg own ks o s=true) (hd:doOp F s e=some e'):OpOut Pg o a w g e':=by
 unfold ZJS at ho
 split at ho
 · rename_i t m kx vx y y1 y2 κ' κ₂ κ₃ hop hdst hins htk hout
   simp only [Bool.and_eq_true,beq_iff_eq] at ho
   obtain ⟨⟨⟨⟨⟨⟨⟨o1,o2⟩,o3⟩,e1⟩,e2⟩,e3⟩,o4⟩,o5⟩:=ho
   rw [e1] at hins
   rw [e2] at htk
   rw [e3] at hout
   unfold doOp at hd
   rw [hk,hins,htk,hout] at hd
   have hbx:Zbl e [own.getD OBJS] (.k (own.getD OBJS))=e.get (own.getD OBJS):=by simp [Zbl]
   simp only [List.map_cons,List.map_nil,ZaI] at hd
   rw [hbx] at hd
   unfold ZJa at hd
   split at hd
   · cases hd
   · rename_i ds heq
     split at heq
     · rename_i r x z dm heq2
       simp only [List.cons.injEq,and_true] at heq2
       obtain ⟨q1,q2,q3,q4⟩:=heq2
       split at heq
       · rename_i es k v hes hkx hvx
         split at heq
         · rename_i hkk
           subst hkk
           split at heq
           · rename_i q hq
             split at heq
             · rename_i m' hm'
               simp only [Option.some.injEq] at heq
               subst heq
               simp only [ZaA,Env.sets,Option.some.injEq] at hd
               subst hd
               have hκ:=ZKc o4
               obtain ⟨⟨mes,clock,hb,hsz,hent,hpr,how⟩,hT⟩:=ZIP h hκ q4 hes
               have hm:=ZfR h o1 [own.getD OBJS]
               rw [q1] at hm
               have hm:a.eval m= .map (some (r.blk g)):=hm
               have hkr:=ZfR h o2 [own.getD OBJS]
               rw [q2] at hkr
               have hkr:=ZNs hkr hkx
               have hvr:=ZfR h o3 [own.getD OBJS]
               rw [q3] at hvr
               have hvr:=ZNs hvr hvx
               unfold ZKt at o5
               split at o5
               · rename_i key el u1
                 have hl:mes.toList.length=es.length:=by simpa using hsz
                 have hent': ∀(j:Nat) k' x,es[j]? =some (k',x)-> ∃e,mes.toList[j]? =some e/\RepMV g.pr w e.key k'/\RepMV g.pr w e.val x:=fun j k' x hj=>by simpa using hent j k' x hj
                 obtain ⟨r',f1,f2⟩:=ZJN (Pg:=Pg) (w':=w) o5 hkr hl hent' hq
                 have hget: ∀k',((e.set (own.getD OBJS) (e.get (own.getD OBJS)).plain).set (own.getD OBJS) m').get k'=if k'=own.getD OBJS then m' else e.get k':=fun k'=>by
                   rw [Env.get_set,Env.get_set]
                   by_cases h1:own.getD OBJS=k'
                   · simp [h1]
                   · simp [h1,Ne.symm h1]
                 have fin: ∀(mes':Array MapEntry) (clock':Nat),mes'.size=(putE es k v q).length->(∀(i:Nat) k' x',(putE es k v q)[i]? =some (k',x')-> ∃e,mes'[i]? =some e/\RepMV g.pr w e.key k'/\RepMV g.pr w e.val x')->
                     (execOp a.eval o).run Pg w= .ok .skip {w with heap:=w.heap.setIfInBounds (r.blk g) (.map mes' clock')}->OpOut Pg o a w g ((e.set (own.getD OBJS) (e.get (own.getD OBJS)).plain).set (own.getD OBJS) m'):=fun mes' clock' hs' he' hr=>by
                   obtain ⟨g1,g2⟩:=h.setMap hκ q4 hes hm' clock' hs' he' hget
                   exact ⟨.skip,undef,_,g,hr,.inr ⟨rfl,rfl⟩,by rw [hdst];exact g1,g2,rfl,rfl,rfl⟩
                 cases q with
                 | none=>
                   simp only at f2
                   subst f2
                   refine fin (mes.push {key:=a.eval kx,val:=a.eval vx,born:=clock}) (clock+1) (by simp [putE,hsz]) (fun i k' x' hi=>?_) ?_
                   · rcases ZM1 i k' x' hi with ⟨rfl,rfl,hi⟩|⟨h1,h2⟩
                     · simp only at hi
                       subst hi
                       exact ⟨_,by rw [Array.getElem?_push,if_pos hsz.symm],hkr,hvr⟩
                     · simp only at h2
                       obtain ⟨e,z1,z2⟩:=hent i k' x' h1
                       exact ⟨e,by rw [Array.getElem?_push,if_neg Zo];exact z1,z2⟩
                   · simp only [execOp,hop,hm,Instr.mapUpdate,Sem.run_bind,run_underlying u1,Result.andThen_ok,Go.MapKept.run_getObj_map hb,ZKT o5 hkr,f1,run_setObj_map _ hb,Sem.run_pure]
                 | some jx=>
                   obtain ⟨j,x0⟩:=jx
                   simp only at f2
                   obtain ⟨en,k0,g1,g2,rfl,g4⟩:=f2
                   have g1:mes[j]? =some en:=by simpa using g1
                   obtain ⟨en',z1,z2,z3⟩:=hent j k0 x0 g2
                   rw [g1] at z1
                   cases z1
                   have hkeep:(Instr.keyThatStays en.key (a.eval kx)).run Pg w= .ok (a.eval kx) w:=by
                     have:Instr.sameBits 10000 en.key (a.eval kx)=true:=ZRO hkr z2 g4 9999
                     simp [Instr.keyThatStays,this]
                   refine fin (mes.modify j fun e=>{e with key:=a.eval kx,val:=a.eval vx}) clock (by simp [putE,hsz]) (fun i k' x' hi=>?_) ?_
                   · rcases ZM1 i k' x' hi with ⟨rfl,rfl,hi,_⟩|⟨h1,h2⟩
                     · subst hi
                       exact ⟨{en with key:=a.eval kx,val:=a.eval vx},by rw [Array.getElem?_modify,if_pos rfl,g1];rfl,hkr,hvr⟩
                     · simp only at h2
                       obtain ⟨e,z1,z2⟩:=hent i k' x' h1
                       exact ⟨e,by rw [Array.getElem?_modify,if_neg (Ne.symm h2)];exact z1,z2⟩
                   · simp only [execOp,hop,hm,Instr.mapUpdate,Sem.run_bind,run_underlying u1,Result.andThen_ok,Go.MapKept.run_getObj_map hb,ZKT o5 hkr,f1,g1,Option.map_some,Option.getD_some,hkeep,run_setObj_map _ hb,Sem.run_pure]
               · cases o5
             · cases heq
           · cases heq
         · cases heq
       · cases heq
     · cases heq
 · cases ho
end each
end Go.Am
end
section
namespace Go.Am
variable [WI]
variable {Pg:Program}
open Go.MapKept Go.RowKit
theorem ZIG (n:Int) (v:MV): ∀es:List (Int×MV),(insE n v es).Perm ((n,v)::es)
 | []=> .refl _
 | e::r=>by
   unfold insE
   split
   · exact .refl _
   · exact ((ZIG n v r).cons e).trans (.swap ..)
theorem ZLe {n n':Int} (hn:n≠n') (v v':MV): ∀es:List (Int×MV),insE n v (insE n' v' es)=insE n' v' (insE n v es)
 | []=>by
   simp only [insE]
   by_cases h1:n<n'
   · have: ¬n'<n:=by omega
     simp [h1,this,insE]
   · have:n'<n:=by omega
     simp [h1,this,insE]
 | e::r=>by
   have ih:=ZLe hn v v' r
   by_cases h1:n<e.1<;>by_cases h2:n'<e.1
   · by_cases h3:n<n'
     · have: ¬n'<n:=by omega
       simp [insE,h1,h2,h3,this]
     · have:n'<n:=by omega
       simp [insE,h1,h2,h3,this]
   · have h3:n<n':=by omega
     have h4: ¬n'<n:=by omega
     simp [insE,h1,h2,h4]
   · have h3:n'<n:=by omega
     have h4: ¬n<n':=by omega
     simp [insE,h1,h2,h4]
   · simp [insE,h1,h2,ih]
theorem ZIg {n:Int} {x:MV}: ∀{l:List (Int×MV)},ZKE n l=some x->(n,x)∈l
 | [],h=>by cases h
 | e::r,h=>by
   unfold ZKE at h
   split at h
   · rename_i hn
     cases h
     subst hn
     exact List.mem_cons_self
   · exact List.mem_cons_of_mem _ (ZIg h)
theorem ZJ2 {n:Int} {x:MV}: ∀{l:List (Int×MV)},(l.map (·.1)).Nodup->(n,x)∈l->ZKE n l=some x
 | [],_,h=>by cases h
 | e::r,hd,h=>by
   simp only [List.map_cons,List.nodup_cons] at hd
   unfold ZKE
   rcases List.mem_cons.1 h with h|h
   · subst h;simp
   · split
     · rename_i hn
       exact absurd (List.mem_map_of_mem (f:=(·.1)) h) (by rw [<-hn] at hd;exact hd.1)
     · exact ZJ2 hd.2 h
theorem ZMd {n:Int} {l l':List (Int×MV)} (hp:l.Perm l') (hd:(l'.map (·.1)).Nodup):ZKE n l=ZKE n l':=by
 have hd':(l.map (·.1)).Nodup:=(hp.map _).nodup_iff.2 hd
 cases h:ZKE n l with
 | some x=>exact (ZJ2 hd (hp.mem_iff.1 (ZIg h))).symm
 | none=>
   cases h':ZKE n l' with
   | none=>rfl
   | some x=>rw [ZJ2 hd' (hp.mem_iff.2 (ZIg h'))] at h;cases h
def ZMb (es:List (Int×MV)):List (MV×MV):=es.map fun e=>(.one (.int .i64 e.1),e.2)
theorem ZJb {n:Int}: ∀{es:List (Int×MV)} {i:Nat},∃r,ZLf (ZMb es) (.one (.int .i64 n)) i=some r/\r.map (·.2)=ZKE n es
 | [],i=>⟨none,rfl,rfl⟩
 | e::r,i=>by
   by_cases h:n=e.1
   · subst h
     exact ⟨some (i,e.2),by simp [ZMb,ZLf,peqV,peqK],by simp [ZKE]⟩
   · obtain ⟨q,h1,h2⟩:=ZJb (n:=n) (es:=r) (i:=i+1)
     refine ⟨q,?_,by rw [h2];simp [ZKE,h]⟩
     simp only [ZMb] at h1
     have hb:(n==e.1)=false:=by simpa using h
     simp [ZMb,ZLf,peqV,peqK,hb,h1]
theorem plain_mapl {d:D} {es:List (Int×MV)} (h:d.plain= .a (.agg [.mapl es])):d= .a (.agg [.mapl es]):=by
 cases d with
 | a x=>
   cases x with
   | one c=>simp [D.plain,A.plain] at h
   | agg cs=>
     simp only [D.plain,A.plain,D.a.injEq,A.agg.injEq] at h⊢
     cases cs with
     | nil=>cases h
     | cons c r=>
       cases r with
       | cons _ _=>simp at h
       | nil=>
         simp only [List.map_cons,List.map_nil,List.cons.injEq,and_true] at h⊢
         cases c<;>simp [C.plain] at h⊢
         exact h
 | tup xs=>simp [D.plain] at h
 | _=>cases h
section each
variable {F:ZaQ} {g:G} {e e':Env} {a:Act} {w:World}
def ZJl (κ:Nat) (o:Oper) (s:SOp) (nt:Nat):Bool:=
 match o.op,o.dst,s.ins,s.outs,s.takes with
 | .makeMap _ none,some d,[],[d',κ'],[]=>κ'==κ && Nat.ble BOX κ && d==d' && Nat.blt d nt
 | _,_,_,_,_=>false
theorem ZLS (h:St g e a w) {o:Oper} {s:SOp} {κ:Nat} (hk:s.kind= .makeMapL κ) (ho:ZJl κ o s g.nt=true) (hno:ZlQ e κ) (hd:doOp F s e=some e'):OpOut Pg o a w g e':=by
 unfold ZJl at ho
 split at ho
 ·rename_i t d d' κ' hop hdst hins hout htk
  simp only [Bool.and_eq_true,beq_iff_eq,Nat.ble_eq,Nat.blt_eq] at ho
  obtain ⟨⟨⟨e1,hκ⟩,e2⟩,hlt⟩:=ho
  obtain ⟨d,rfl⟩: ∃d₀:Nat,d₀=d:=⟨d,rfl⟩
  rw [e1,<-e2] at hout
  obtain ⟨ds,hx,hs⟩:=Zqq htk hd
  rw [hk,hins] at hx
  simp only [List.map_nil,ZaI,ZIw,Option.some.injEq] at hx
  subst hx
  rw [hout] at hs
  simp only [Env.sets,Option.some.injEq] at hs
  subst hs
  obtain ⟨g',h1,h2,h3,h4,h5⟩:=h.newMap (x:= .mapl []) (fun g w b q1 q2 q3=>⟨#[],0,q1,⟨[],.refl _,List.nodup_nil,rfl,fun i k x hi=>by simp at hi⟩,q2,q3⟩) hlt hκ hno
  refine ⟨.value _,_,_,g',?_,.inl rfl,by rw [hdst];exact h1,h2,h3,h4,h5⟩
  simp only [execOp,hop,Option.map_none]
  rw [Zaw,run_makeMap]
  rfl
 ·cases ho
theorem ZKH (h:St g e a w) {κ:Nat} {es:List (Int×MV)} (hκ:BOX<=κ) (hd:e.get κ= .a (.agg [.mapl es])):MapL g w (g.β κ) es/\g.T (g.β κ):=
 ⟨((h.key κ).bx hκ _ hd).mapL,h.tb κ hκ (by rw [hd];simp)⟩
theorem St.setMapL (h:St g e a w) {κ:Nat} {es es':List (Int×MV)} (hκb:BOX<=κ) (hd:e.get κ= .a (.agg [.mapl es])) {mes':Array MapEntry} (clock':Nat)
  (hent: ∃es0:List (Int×MV),es0.Perm es'/\(es'.map (·.1)).Nodup/\mes'.size=es0.length/\ ∀(i:Nat) n x,es0[i]? =some (n,x)-> ∃e,mes'[i]? =some e/\RepP g.pr w e.key (.int .i64 n)/\RepMV g.pr w e.val x)
  (he: ∀k,e'.get k=if k=κ then .a (.agg [.mapl es']) else e.get k):
  St g e' a {w with heap:=w.heap.setIfInBounds (g.β κ) (.map mes' clock')}/\Ext g.T g.pr g.ow w {w with heap:=w.heap.setIfInBounds (g.β κ) (.map mes' clock')} g.pr g.ow:=by
 obtain ⟨⟨mes,clock,hb,_,hpr,how⟩,hT⟩:=ZKH h hκb hd
 generalize hbk:g.β κ=b at hb hpr how hT
 let w':World:={w with heap:=w.heap.setIfInBounds b (.map mes' clock')}
 obtain ⟨hw1,hw2⟩:=heap_set (o':=Obj.map mes' clock') hb
 have hext:Ext g.T g.pr g.ow w w' g.pr g.ow:=by
  refine ⟨rfl,rfl,rfl,by simp [w'],fun b' o' ho'=>?_,fun _ _=>Nat.le_refl _,fun _ _ h _=>⟨rfl,h⟩,fun b' _ ho' hnT=>hw2 b' (fun hh=>hnT (hh ▸ hT))⟩
  by_cases hbb:b'=b
  ·subst hbb
   rw [hb] at ho';cases ho'
   exact ⟨_,hw1,_,_,rfl⟩
  ·exact ⟨o',(hw2 b' hbb).trans ho',SameObj.refl _ _⟩
 have hnew:MapL g w' b es':=by
  obtain ⟨es0,p1,p2,p3,p4⟩:=hent
  exact ⟨mes',clock',hw1,⟨es0,p1,p2,p3,fun i k x hi=>by
   obtain ⟨e,q1,q2,q3⟩:=p4 i k x hi
   exact ⟨e,q1,q2.mono hext.keeps (fun _=>Nat.le_refl _),q3.mono hext.keeps (fun _=>Nat.le_refl _)⟩⟩,hpr,how⟩
 refine ⟨?_,hext⟩
 have hob:=Zau
 have hlive:e.get κ≠ .undef:=by rw [hd];simp
 refine h.gen [κ] (fun b'=>b'≠b) hext (fun b' hb'=>h.fr b' (by simpa [w'] using hb')) rfl rfl rfl h.df rfl (fun k hk=>?_) (fun _ _ _=>rfl) (fun k hk c i b' hb'=>⟨hb',rfl,hw2 b' fun hh=>by rw [hh,how] at hb';cases hb'⟩) (fun _=> .inl rfl) (fun b' hb'=>⟨hw2 b' hb',rfl,rfl⟩)
  (fun κ' hk' hκ' hl hh=>?_) (fun _ os i ho' hi hh=>h.dbo κ os i hκb hlive ho' hi (hbk.trans hh.symm)) (fun k hk=>?_) (fun κ' hm _=>?_) (fun hm=>by simp at hm;omega) (fun κ' hm _ _=>?_)
 ·simp at hk;rw [he,if_neg hk]
 ·simp at hk'
  exact hk' (h.db κ' κ hκ' hκb hl hlive (hh.trans hbk.symm))
 ·simp at hk;subst hk
  refine .box hκb fun cs' hcs'=>?_
  rw [he,if_pos rfl] at hcs'
  cases hcs'
  rw [hbk]
  exact .inl ⟨.mapl es',rfl,hnew⟩
 ·simp at hm;subst hm;rw [he,if_pos rfl];exact .inr ⟨_,rfl⟩
 ·simp at hm;subst hm;exact .inl ⟨hlive,rfl⟩
def ZRj (n:Int):Operand->Bool
 | .const (.int .i64 m)=>m==n
 | _=>false
def ZPa (Pg:Program) (κ:Nat) (n:Int) (o:Oper) (s:SOp):Bool:=
 match o.op,o.dst,s.ins,s.takes,s.outs with
 | .insert t m kx vx,none,[y,y2,.k κ'],[],[κ₂]=>Zcl m y && ZRj n kx && Zcl vx y2 && κ'==κ && κ₂==κ && Nat.ble BOX κ && ZKt Pg t (.one 1)
 | _,_,_,_,_=>false
theorem ZHz {κ:Nat} {n:Int} {ds ds':List D} (h:ZI8 κ n ds=some ds'): ∃off x v es,ds=[.a (.one (.mptr ⟨true,κ,off⟩)),.a x,.a (.agg [.mapl es])]/\mvOf x=some v/\(∀e∈es,e.1≠n)/\ds'=[.a (.agg [.mapl (insE n v es)])]:=by
 unfold ZI8 at h
 split at h
 ·rename_i κ' off x es
  split at h
  ·rename_i v hv
   split at h
   ·rename_i hc
    simp only [Bool.and_eq_true,beq_iff_eq,List.all_eq_true,Bool.not_eq_true',beq_eq_false_iff_ne] at hc
    obtain ⟨rfl,hc⟩:=hc
    cases h
    exact ⟨off,x,v,es,rfl,hv,hc,rfl⟩
   ·cases h
  ·cases h
 ·cases h
theorem ZP9 (h:St g e a w) {o:Oper} {s:SOp} {κ:Nat} {n:Int} (hk:s.kind= .insL κ n) (ho:ZPa Pg κ n o s=true) (hd:doOp F s e=some e'):OpOut Pg o a w g e':=by
 unfold ZPa at ho
 split at ho
 ·rename_i t m kx vx y y2 κ' κ₂ hop hdst hins htk hout
  simp only [Bool.and_eq_true,beq_iff_eq] at ho
  obtain ⟨⟨⟨⟨⟨⟨o1,o2⟩,o3⟩,e1⟩,e2⟩,o4⟩,o5⟩:=ho
  have hκ:BOX<=κ:=Nat.le_of_ble_eq_true o4
  obtain ⟨ds,hx,hs⟩:=Zqq htk hd
  rw [hk,hins] at hx
  simp only [List.map_cons,List.map_nil,ZaI] at hx
  obtain ⟨off,x,v,es,q0,hv,hne,rfl⟩:=ZHz hx
  simp only [List.cons.injEq,and_true] at q0
  obtain ⟨q1,q2,q3⟩:=q0
  have q3:(e.get κ).plain= .a (.agg [.mapl es]):=by rw [e1] at q3;simpa [Zbl] using q3
  have q3:=plain_mapl q3
  rw [hout,e2] at hs
  simp only [Env.sets,Option.some.injEq] at hs
  subst hs
  obtain ⟨⟨mes,clock,hb,⟨es0,p1,p2,p3,p4⟩,hpr,how⟩,hT⟩:=ZKH h hκ q3
  have hm:=ZbL h o1 0
  rw [q1] at hm
  have hm:a.eval m= .map (some (g.β κ)):=hm
  have hvr:=ZbL h o3 0
  rw [q2] at hvr
  have hvr:=ZNs hvr hv
  have hkx:a.eval kx= .int .i64 n:=by
   unfold ZRj at o2
   split at o2
   ·rw [beq_iff_eq] at o2;subst o2;rfl
   ·cases o2
  have hkr':RepP g.pr w (a.eval kx) (.int .i64 n):=by rw [hkx];exact RepP.int _ _
  have hkr:RepMV g.pr w (a.eval kx) (.one (.int .i64 n)):=hkr'
  unfold ZKt at o5
  split at o5
  ·rename_i key el u1
   obtain ⟨q,v1,v2⟩:=ZJb (n:=n) (es:=es0) (i:=0)
   have hn0:ZKE n es0=none:=by
    cases hf:ZKE n es0 with
    | none=>rfl
    | some x=>exact absurd rfl (hne _ (p1.mem_iff.1 (ZIg hf)))
   rw [hn0] at v2
   have hq:q=none:=by cases q with
    | none=>rfl
    | some _=>cases v2
   subst hq
   have hl:mes.toList.length=(ZMb es0).length:=by simpa [ZMb] using p3
   have hent': ∀(j:Nat) k' x,(ZMb es0)[j]? =some (k',x)-> ∃e,mes.toList[j]? =some e/\RepMV g.pr w e.key k'/\RepMV g.pr w e.val x:=fun j k' x hj=>by
    simp only [ZMb,List.getElem?_map,Option.map_eq_some_iff] at hj
    obtain ⟨⟨n',x'⟩,hj,he⟩:=hj
    cases he
    simpa [RepMV] using p4 j n' x' hj
   obtain ⟨r',f1,f2⟩:=ZJN (Pg:=Pg) (w':=w) o5 hkr hl hent' v1
   simp only at f2
   subst f2
   have hget: ∀k',(e.set κ (.a (.agg [.mapl (insE n v es)]))).get k'=if k'=κ then .a (.agg [.mapl (insE n v es)]) else e.get k':=fun k'=>by
    rw [Env.get_set]
    by_cases h1:κ=k'
    ·simp [h1]
    ·simp [h1,Ne.symm h1]
   have hperm:=ZIG n v es
   obtain ⟨g1,g2⟩:=h.setMapL hκ q3 (mes':=mes.push {key:=a.eval kx,val:=a.eval vx,born:=clock}) (clock+1) ⟨es0++[(n,v)],(List.perm_append_comm.trans (p1.cons _)).trans hperm.symm,(hperm.map _).nodup_iff.2 (by
     simp only [List.map_cons,List.nodup_cons]
     exact ⟨fun hm=>by obtain ⟨x,h1,h2⟩:=List.mem_map.1 hm;exact hne x h1 h2,p2⟩),by simp [p3],fun i n' x' hi=>by
     rcases Nat.lt_or_ge i es0.length with hh|hh
     ·rw [List.getElem?_append_left hh] at hi
      obtain ⟨en,z1,z2⟩:=p4 i n' x' hi
      exact ⟨en,by rw [Array.getElem?_push,if_neg Zo];exact z1,z2⟩
     ·rw [List.getElem?_append_right hh] at hi
      have hi0:i=es0.length:=by
       have:=Zaq hi
       simp at this
       omega
      subst hi0
      simp at hi
      obtain ⟨rfl,rfl⟩:=hi
      exact ⟨_,by rw [Array.getElem?_push,if_pos p3.symm],hkr',hvr⟩⟩ hget
   refine ⟨.skip,undef,_,g,?_,.inr ⟨rfl,rfl⟩,by rw [hdst];exact g1,g2,rfl,rfl,rfl⟩
   simp only [execOp,hop,hm,Instr.mapUpdate,Sem.run_bind,run_underlying u1,Result.andThen_ok,Go.MapKept.run_getObj_map hb,ZKT o5 hkr,f1,run_setObj_map _ hb,Sem.run_pure]
  ·cases o5
 ·cases ho
def ZJR (Pg:Program) (κ:Nat) (z:MV) (o:Oper) (s:SOp) (nt:Nat):Bool:=
 Zie o s nt && match o.op,s.ins with
 | .lookup t m ix false,[y,yk,.k κ']=>Zcl m y && Zcl ix yk && κ'==κ && Nat.ble BOX κ && ZKt Pg t (.one 1) && ZLc Pg t z
 | _,_=>false
theorem ZMg (h:St g e a w) {o:Oper} {s:SOp} {κ:Nat} {z:MV} (hk:s.kind= .lookupL κ z) (ho:ZJR Pg κ z o s g.nt=true) (hd:doOp F s e=some e'):OpOut Pg o a w g e':=by
 unfold ZJR at ho
 rw [Bool.and_eq_true] at ho
 refine Zer h ho.1 hd fun d hx=>?_
 have ho2:=ho.2
 rw [hk] at hx
 split at ho2
 · rename_i t m ix y yk κ' hop hins
   simp only [Bool.and_eq_true,beq_iff_eq] at ho2
   obtain ⟨⟨⟨⟨⟨o1,o2⟩,rfl⟩,o3⟩,o4⟩,o5⟩:=ho2
   have hκ:BOX<=κ':=Nat.le_of_ble_eq_true o3
   rw [hins] at hx
   simp only [List.map_cons,List.map_nil,ZaI] at hx
   unfold ZJe at hx
   split at hx
   · rename_i κ off n es heq
     simp only [List.cons.injEq,and_true] at heq
     obtain ⟨q1,q2,q3⟩:=heq
     split at hx
     · rename_i hkk
       rw [beq_iff_eq] at hkk
       subst hkk
       simp only [Zx5,and_true] at hx
       subst hx
       have q3:(e.get κ).plain= .a (.agg [.mapl es]):=by simpa [Zbl] using q3
       have q3:=plain_mapl q3
       obtain ⟨⟨mes,clock,hb,⟨es0,p1,p2,p3,p4⟩,hpr,how⟩,hT⟩:=ZKH h hκ q3
       have hm:=ZbL h o1 0
       rw [q1] at hm
       have hm:a.eval m= .map (some (g.β κ)):=hm
       have hkr:=ZbL h o2 0
       rw [q2] at hkr
       have hkr:RepMV g.pr w (a.eval ix) (.one (.int .i64 n)):=hkr
       unfold ZKt at o4
       split at o4
       · rename_i key el u1
         obtain ⟨inf,zv,z1,z2,z3⟩:=ZI9 o5 u1
         obtain ⟨q,v1,v2⟩:=ZJb (n:=n) (es:=es0) (i:=0)
         rw [ZMd p1 p2] at v2
         have hl:mes.toList.length=(ZMb es0).length:=by simpa [ZMb] using p3
         have hent': ∀(j:Nat) k' x,(ZMb es0)[j]? =some (k',x)-> ∃e,mes.toList[j]? =some e/\RepMV g.pr w e.key k'/\RepMV g.pr w e.val x:=fun j k' x hj=>by
           simp only [ZMb,List.getElem?_map,Option.map_eq_some_iff] at hj
           obtain ⟨⟨n',x'⟩,hj,he⟩:=hj
           cases he
           simpa [RepMV] using p4 j n' x' hj
         obtain ⟨r',f1,f2⟩:=ZJN (Pg:=Pg) (w':=w) o4 hkr hl hent' v1
         have hval: ∃v,(Instr.lookup t (a.eval m) (a.eval ix) false).run Pg w= .ok v w/\RepMV g.pr w v ((ZKE n es).getD z):=by
           cases q with
           | none=>
             simp only at f2
             subst f2
             simp only [Option.map_none] at v2
             refine ⟨zv,?_,by rw [<-v2];exact z3 _ _⟩
             rw [hm]
             unfold Instr.lookup
             simp only [Sem.run_bind,run_underlying u1,Result.andThen_ok,Go.MapKept.run_getObj_map hb,Sem.run_pure,ZKT o4 hkr,f1,Zcs z1 z2]
             rfl
           | some jx=>
             obtain ⟨j,x⟩:=jx
             simp only at f2
             obtain ⟨en,k',g1,g2,rfl,g4⟩:=f2
             obtain ⟨en',e1,e2,e3⟩:=hent' j k' x g2
             rw [g1] at e1
             cases e1
             simp only [Option.map_some] at v2
             refine ⟨en.val,?_,by rw [<-v2];exact e3⟩
             rw [hm]
             unfold Instr.lookup
             simp only [Sem.run_bind,run_underlying u1,Result.andThen_ok,Go.MapKept.run_getObj_map hb,Sem.run_pure,ZKT o4 hkr,f1]
             rfl
         obtain ⟨v,hrun,hrep⟩:=hval
         exact ⟨_,by simp only [execOp,hop];rw [Zaw,hrun,Result.andThen_ok],fun k=>mv_a hrep⟩
       · cases o4
     · cases hx
   · cases hx
 · cases ho2
end each
end Go.Am
end
section
namespace Go.Am
variable [WI]
variable {Pg:Program}
def C.quiet:C->Bool
 | .ref _=>false
 | .clo _ [] []=>true
 | .clo _ _ _=>false
 | .own _ _ _=>false
 | .mptr _=>false
 | .closs _ _=>false
 | .map _ _=>false
 | _=>true
theorem C.quiet_ment {c:C} (h:c.quiet=true) (κ:Nat):c.ment κ=false:=by
 cases c with
 | ref r=>cases h
 | own r s n=>cases h
 | mptr r=>cases h
 | closs f r=>cases h
 | map r es=>cases h
 | clo f p q=>cases p<;>cases q<;>first|rfl|cases h
 | _=>rfl
theorem Zqr {cs:List C} (h:cs.all C.quiet=true) (κ:Nat):cs.any (C.ment κ)=false:=by
 rw [List.any_eq_false]
 intro c hc
 rw [C.quiet_ment (List.all_eq_true.1 h c hc) κ];simp
def K.quiet:K->Bool
 | .alloc _ z=>z.all C.quiet
 | .build z _=>z.all C.quiet
 | _=>true
def SOp.quiet (s:SOp):Bool:=s.kind.quiet && s.ins.all fun| .c c=>c.quiet|_=>true
theorem ZmS {cs:List C} {κ n:Nat} (h:cs.any (C.ment κ)=false):(cs.take n).any (C.ment κ)=false:=by
 rw [List.any_eq_false] at*;exact fun c hc=>h c (List.mem_of_mem_take hc)
theorem ZmW {cs:List C} {κ n:Nat} (h:cs.any (C.ment κ)=false):(cs.drop n).any (C.ment κ)=false:=by
 rw [List.any_eq_false] at*;exact fun c hc=>h c (List.mem_of_mem_drop hc)
theorem ZtH {cs:List C} {κ:Nat} (h:cs.any (C.ment κ)=false):(cs.map C.plain).any (C.ment κ)=false:=by
 rw [List.any_eq_false] at*
 intro c hc
 obtain ⟨y,hy,rfl⟩:=List.mem_map.1 hc
 rw [plain_ment];exact h y hy
theorem Zwv {cs xs:List C} {off n κ:Nat} (h:cut cs off n=some xs) (hm:cs.any (C.ment κ)=false):xs.any (C.ment κ)=false:=by
 unfold cut at h
 split at h
 ·cases h;exact ZmS (ZmW hm)
 ·cases h
theorem Zqa {cs xs ys:List C} {off κ:Nat} (h:put cs off xs=some ys) (hm:cs.any (C.ment κ)=false) (hx:xs.any (C.ment κ)=false):ys.any (C.ment κ)=false:=by
 obtain ⟨_,rfl⟩:=ZgW h
 rw [List.any_append,List.any_append,ZmS hm,ZmW hm,hx];rfl
theorem ZLk {cs xs ys:List C} {off κ:Nat} (h:putO cs off xs=some ys) (hm:cs.any (C.ment κ)=false) (hx:xs.any (C.ment κ)=false):ys.any (C.ment κ)=false:=Zqa (ZJZ h).2 hm hx
theorem Zn7 {n:Option Nat} {cs:List C} {x:A} {κ:Nat} (h:ZsS n cs=some x) (hm:cs.any (C.ment κ)=false):x.ment κ=false:=by
 unfold ZsS at h
 split at h
 ·cases h;exact hm
 ·cases h
 ·cases h;exact hm
theorem Ze9 {n:Option Nat} {cs:List C} {off κ:Nat} {x:A} (h:ZbK n cs off=some x) (hm:cs.any (C.ment κ)=false):x.ment κ=false:=by
 have h:=(ZIK h).2
 split at h
 ·rename_i xs hx;exact Zn7 h (Zwv hx hm)
 ·cases h
theorem ZiF {n:Option Nat} {cs:List C} {off κ:Nat} (hm:cs.any (C.ment κ)=false):(ZbQ n cs off).any (C.ment κ)=false:=by
 unfold ZbQ
 rw [List.any_append,List.any_append,ZmS hm,ZmW hm,ZtH (ZmS (ZmW hm))];rfl
theorem ZmD {κ:Nat}: ∀{offs:List (Nat×Nat)} {ds:List D} {z cs:List C},Ze4 z offs ds=some cs->z.any (C.ment κ)=false->(∀d∈ds,d.ment κ=false)->cs.any (C.ment κ)=false
 | [],[],z,cs,h,hz,_=>by simp only [Ze4,Option.some.injEq] at h;subst h;exact hz
 | (o,n)::os,.a x::r,z,cs,h,hz,hd=>by
   simp only [Ze4] at h
   split at h
   · split at h
     · rename_i z' hz'
       exact ZmD h (Zqa hz' hz (hd _ List.mem_cons_self)) fun d hd'=>hd d (List.mem_cons_of_mem _ hd')
     · cases h
   · cases h
 | [],_::_,_,_,h,_,_=>by simp [Ze4] at h
 | _::_,[],_,_,h,_,_=>by simp [Ze4] at h
 | _::_,.undef::_,_,_,h,_,_=>by simp [Ze4] at h
 | _::_,.tup _::_,_,_,h,_,_=>by simp [Ze4] at h
 | _::_,.objs _::_,_,_,h,_,_=>by simp [Ze4] at h
theorem ZjP {os:List (List C)} {k κ:Nat} {cs:List C} (h:os.any (fun cs=>cs.any (C.ment κ))=false) (hc:cs.any (C.ment κ)=false):(os.set k cs).any (fun cs=>cs.any (C.ment κ))=false:=by
 rw [List.any_eq_false] at h⊢
 intro c hm
 rcases List.mem_or_eq_of_mem_set hm with hm|rfl
 ·exact h c hm
 ·rw [hc];simp
theorem ZgO {os:List (List C)} {k κ:Nat} {cs:List C} (h:os.any (fun cs=>cs.any (C.ment κ))=false) (hc:os[k]? =some cs):cs.any (C.ment κ)=false:=by
 rw [List.any_eq_false] at h
 simpa using h cs (List.mem_of_getElem? hc)
theorem Zmz {κ:Nat}: ∀{ds:List D} {rs:List R},Zfq ds=some rs->(∀d∈ds,d.ment κ=false)-> ∀r∈rs,(r.own && r.k==κ)=false
 | [],rs,h,_,r,hr=>by simp [Zfq] at h;subst h;cases hr
 | .a (.one (.ref q))::rest,rs,h,hd,r,hr=>by
   simp only [Zfq] at h
   split at h
   · rename_i rs' h'
     cases h
     rcases List.mem_cons.1 hr with rfl|hr
     · have:=hd _ List.mem_cons_self
       simpa [D.ment,A.ment,A.cells,C.ment] using this
     · exact Zmz h' (fun d hd'=>hd d (List.mem_cons_of_mem _ hd')) r hr
   · cases h
 | .a (.one (.p _))::_,_,h,_,_,_=>by simp [Zfq] at h
 | .a (.one (.tip _ _))::_,_,h,_,_,_=>by simp [Zfq] at h
 | .a (.one (.view _ _))::_,_,h,_,_,_=>by simp [Zfq] at h
 | .a (.one (.clo _ _ _))::_,_,h,_,_,_=>by simp [Zfq] at h
 | .a (.one (.closs _ _))::_,_,h,_,_,_=>by simp [Zfq] at h
 | .a (.one .nilp)::_,_,h,_,_,_=>by simp [Zfq] at h
 | .a (.one (.uniq _ _))::_,_,h,_,_,_=>by simp [Zfq] at h
 | .a (.one (.bytes _ _))::_,_,h,_,_,_=>by simp [Zfq] at h
 | .a (.one (.own _ _ _))::_,_,h,_,_,_=>by simp [Zfq] at h
 | .a (.one .junk)::_,_,h,_,_,_=>by simp [Zfq] at h
 | .a (.agg _)::_,_,h,_,_,_=>by simp [Zfq] at h
 | .undef::_,_,h,_,_,_=>by simp [Zfq] at h
 | .tup _::_,_,h,_,_,_=>by simp [Zfq] at h
 | .objs _::_,_,h,_,_,_=>by simp [Zfq] at h
theorem mem1 {P:D->Prop} {x:D} (h:P x): ∀d∈[x],P d:=by intro d hd;simp at hd;subst hd;exact h
theorem mem2 {P:D->Prop} {x y:D} (h:P x) (h':P y): ∀d∈[x,y],P d:=by intro d hd;simp at hd;rcases hd with rfl|rfl<;>assumption
theorem Ztm {F:ZaQ} {k:K} {ds ds':List D} {κ:Nat} (h:ZaI F k ds=some ds') (hcall:k.isCall=false) (hq:k.quiet=true) (hcr:κ∉k.creates) (hd: ∀d∈ds,d.ment κ=false):
   ∀d∈ds',d.ment κ=false:=by
 cases k with
 | call=>cases hcall
 | callv=>cases hcall
 | callU=>cases hcall
 | mov=>
   simp only [ZaI] at h;unfold ZrX at h;split at h
   · cases h;exact hd
   · cases h
 | pick=>
   simp only [ZaI] at h;unfold ZqZ at h;split at h
   · rename_i b x y
     cases h
     refine mem1 ?_
     cases b
     · exact hd y Zs
     · exact hd x Zs
   · cases h
 | alloc κ' z=>
   simp only [ZaI] at h;unfold ZnH at h;split at h
   · cases h
     refine mem2 ?_ (Zqr hq κ)
     simp only [D.ment,A.ment,A.cells,C.ment,List.any_cons,List.any_nil,Bool.true_and,Bool.or_false,beq_eq_false_iff_ne]
     exact fun hh=>hcr (by rw [hh];exact List.mem_singleton.2 rfl)
   · cases h
 | box κ'=>
   simp only [ZaI] at h;unfold Ztb at h;split at h
   · rename_i x
     cases h
     refine mem2 ?_ (hd (.a x) Zs)
     simp only [D.ment,A.ment,A.cells,C.ment,List.any_cons,List.any_nil,Bool.true_and,Bool.or_false,beq_eq_false_iff_ne]
     exact fun hh=>hcr (by rw [hh];exact List.mem_singleton.2 rfl)
   · cases h
 | build z offs=>
   simp only [ZaI] at h;unfold Zi4 at h;split at h
   · rename_i cs hcs;cases h;exact mem1 (ZmD hcs (Zqr hq κ) hd)
   · cases h
 | load n=>
   simp only [ZaI] at h;unfold Zof at h;split at h
   · split at h
     · split at h
       · rename_i xs hxs x hx
         cases h
         refine mem1 (Zn7 hx ?_)
         rw [List.any_map,List.any_eq_false]
         intro p _;simp [C.ment]
       · cases h
     · cases h
   · cases h
 | loadB κ' n=>
   simp only [ZaI] at h;unfold ZkR at h;split at h
   · rename_i κ'' off cs
     split at h
     · split at h
       · rename_i x hx
         cases h
         refine mem1 ?_
         simp only [D.ment]
         rw [A.plain_ment]
         exact Ze9 hx (hd (.a (.agg cs)) Zs)
       · cases h
     · cases h
   · cases h
 | loadBT κ' n=>
   simp only [ZaI] at h;unfold ZiZ at h;split at h
   · rename_i κ'' off cs
     split at h
     · split at h
       · rename_i x hx
         cases h
         have:=hd (.a (.agg cs)) Zs
         exact mem2 (Ze9 hx this) (ZiF this)
       · cases h
     · cases h
   · cases h
 | loadC κ' off=>
   simp only [ZaI] at h;unfold ZIu at h;split at h
   · rename_i κ'' off' cs
     split at h
     · split at h
       · rename_i x hx
         cases h
         have:=hd (.a (.agg cs)) Zs
         exact mem2 (Ze9 hx this) (ZiF this)
       · cases h
     · cases h
   · cases h
 | loadO n=>
   simp only [ZaI] at h;unfold Zk6 at h;split at h
   · rename_i k off os
     split at h
     · rename_i cs hcs
       split at h
       · rename_i x hx
         cases h
         refine mem1 ?_
         simp only [D.ment]
         rw [A.plain_ment]
         exact Ze9 hx (ZgO (hd (.objs os) Zs) hcs)
       · cases h
     · cases h
   · cases h
 | loadOT n=>
   simp only [ZaI] at h;unfold Zky at h;split at h
   · rename_i k off os
     split at h
     · rename_i cs hcs
       split at h
       · rename_i x hx
         cases h
         have h0:=hd (.objs os) Zs
         have:=ZgO h0 hcs
         exact mem2 (Ze9 hx this) (ZjP h0 (ZiF this))
       · cases h
     · cases h
   · cases h
 | storeB κ' n=>
   simp only [ZaI] at h;unfold ZiJ at h;split at h
   · rename_i κ'' off x cs
     split at h
     · split at h
       · rename_i cs' hcs'
         cases h
         exact mem1 (ZLk hcs' (hd (.a (.agg cs)) Zs) (hd (.a x) Zs))
       · cases h
     · cases h
   · cases h
 | storeO n=>
   simp only [ZaI] at h;unfold Zit at h;split at h
   · rename_i k off x os
     split at h
     · split at h
       · rename_i cs hcs
         split at h
         · rename_i cs' hcs'
           cases h
           have h0:=hd (.objs os) Zs
           exact mem1 (ZjP h0 (ZLk hcs' (ZgO h0 hcs) (hd (.a x) Zs)))
         · cases h
       · cases h
     · cases h
   · cases h
 | nilCheck=>
   simp only [ZaI] at h;unfold Zhj at h;split at h
   · cases h;exact hd
   · cases h;exact hd
   · cases h
 | fieldAddr o=>
   simp only [ZaI] at h;unfold Zgl at h;split at h
   · rename_i r
     cases h
     have:=hd (.a (.one (.ref r))) Zs
     exact mem1 (by simpa [D.ment,A.ment,A.cells,C.ment] using this)
   · cases h;exact mem1 rfl
   · cases h
 | indexAddr s=>
   simp only [ZaI] at h;unfold ZeU at h;split at h
   · rename_i r s' m n
     split at h
     · cases h
       have:=hd (.a (.one (.own r s' m))) Zs
       exact mem1 (by simpa [D.ment,A.ment,A.cells,C.ment] using this)
     · cases h
   · split at h
     · split at h
       · split at h
         · cases h;exact mem1 rfl
         · cases h
       · cases h
     · cases h
   · cases h
 | indexS=>
   simp only [ZaI] at h;unfold ZiQ at h;split at h
   · split at h
     · split at h
       · cases h;exact mem1 rfl
       · cases h
     · cases h
   · cases h
 | bin op=>
   simp only [ZaI] at h;unfold ZrW at h;split at h
   · split at h
     · cases h;exact mem1 rfl
     · cases h
   · cases h
 | binB op=>
   simp only [ZaI] at h;unfold Zqu at h;split at h
   · split at h
     · cases h;exact mem1 rfl
     · cases h;exact mem1 rfl
     · cases h
   · cases h
 | neqS=>
   simp only [ZaI] at h;unfold ZNd at h;split at h
   · split at h
     · cases h;exact mem1 rfl
     · cases h
   · cases h
 | not=>
   simp only [ZaI] at h;unfold Zuy at h;split at h
   · cases h;exact mem1 rfl
   · cases h
 | neg=>
   simp only [ZaI] at h;unfold ZuC at h;split at h
   · cases h;exact mem1 rfl
   · cases h
 | conv k=>
   simp only [ZaI] at h;unfold ZqP at h;split at h
   · cases h;exact mem1 rfl
   · cases h
 | convBS=>
   simp only [ZaI] at h;unfold ZiX at h;split at h
   · split at h
     · split at h
       · cases h;exact mem1 rfl
       · cases h
     · cases h
   · cases h
 | buildSlice s=>
   simp only [ZaI] at h;unfold ZdT at h;split at h
   · split at h
     · cases h;exact mem1 rfl
     · cases h
   · cases h
 | append s=>
   simp only [ZaI] at h;unfold Zg6 at h;split at h
   · split at h
     · split at h
       · cases h;exact mem1 rfl
       · cases h
     · cases h
   · cases h
 | len=>
   simp only [ZaI] at h;unfold ZtS at h;split at h
   · cases h;exact mem1 rfl
   · cases h;exact mem1 rfl
   · split at h
     · cases h;exact mem1 rfl
     · cases h
   · cases h
 | lenS=>
   simp only [ZaI] at h;unfold ZqI at h;split at h
   · cases h;exact mem1 rfl
   · cases h
 | min2=>
   simp only [ZaI] at h;unfold Zst at h;split at h
   · split at h
     · cases h;exact mem1 rfl
     · cases h
   · cases h
 | max2=>
   simp only [ZaI] at h;unfold Zsx at h;split at h
   · split at h
     · cases h;exact mem1 rfl
     · cases h
   · cases h
 | slice s lo hi mx=>
   simp only [ZaI] at h;unfold Zh5 at h;split at h
   · split at h
     · split at h
       · split at h
         · split at h
           · cases h
           · cases h;exact mem1 rfl
         · split at h
           · split at h
             · cases h;exact mem1 rfl
             · cases h;exact mem1 rfl
           · cases h
         · cases h
       · cases h
     · cases h
   · cases h
 | sliceS lo hi=>
   simp only [ZaI] at h;unfold Zku at h;split at h
   · split at h
     · cases h;exact mem1 rfl
     · cases h
   · cases h
 | fieldV off=>
   simp only [ZaI] at h;unfold ZJ1 at h;split at h
   · split at h
     · cases h;exact mem1 rfl
     · cases h
   · cases h
 | extract i=>
   simp only [ZaI] at h;unfold ZfI at h;split at h
   · rename_i xs
     split at h
     · rename_i x hx
       cases h
       refine mem1 ?_
       have:=hd (.tup xs) Zs
       simp only [D.ment,List.any_eq_false] at this
       have:=this x (List.mem_of_getElem? hx)
       simpa [D.ment] using this
     · cases h
   · cases h
 | makeFuncS f=>
   simp only [ZaI] at h;unfold ZH3 at h;split at h
   · cases h
     refine mem1 ?_
     have:=hd _ List.mem_cons_self
     simpa [D.ment,A.ment,A.cells,C.ment] using this
   · cases h
 | makeFunc f first=>
   simp only [ZaI] at h;unfold Zhf at h;split at h
   · rename_i rs hrs
     cases h
     refine mem1 ?_
     have:=Zmz hrs hd
     simp only [D.ment,A.ment,A.cells,C.ment,List.any_cons,List.any_nil,Bool.or_false,Bool.or_eq_false_iff,List.any_eq_false]
     refine ⟨fun r hr=>?_,fun r hr=>?_⟩
     · simpa using this r (List.mem_of_mem_take hr)
     · simpa using this r (List.mem_of_mem_drop hr)
   · cases h
 | makeSlice s=>
   simp only [ZaI] at h;unfold Zgn at h;split at h
   · split at h
     · cases h;exact mem1 rfl
     · cases h
   · cases h
 | makeSliceZ s z=>
   simp only [ZaI] at h;unfold Ze6 at h;split at h
   · split at h
     · cases h;exact mem1 rfl
     · cases h
   · cases h
 | sliceU s=>
   simp only [ZaI] at h;unfold Zko at h;split at h
   · split at h
     · cases h;exact mem1 rfl
     · cases h
   · cases h
 | appendU s=>
   simp only [ZaI] at h;unfold ZiL at h;split at h
   · split at h
     · split at h
       · cases h;exact mem1 rfl
       · cases h
     · cases h
   · cases h
 | makeMap κ'=>
   simp only [ZaI] at h;unfold Ziu at h;split at h
   · cases h
     refine mem1 ?_
     simp only [D.ment,A.ment,A.cells,C.ment,List.any_cons,List.any_nil,Bool.or_false,Bool.true_and,beq_eq_false_iff_ne,ne_eq]
     intro hh;subst hh;exact hcr (List.mem_singleton.2 rfl)
   · cases h
 | lookup kk z=>
   simp only [ZaI] at h;unfold Zkv at h;split at h
   · have hm:=hd _ (List.mem_cons_of_mem _ (List.mem_cons_of_mem _ List.mem_cons_self))
     split at h
     · split at h
       · cases h;exact mem2 rfl hm
       · cases h;exact mem2 rfl hm
       · cases h
     · cases h
   · cases h
 | update kk=>
   simp only [ZaI] at h;unfold Zkh at h;split at h
   · have hm:=hd _ (List.mem_cons_of_mem _ (List.mem_cons_of_mem _ (List.mem_cons_of_mem _ List.mem_cons_self)))
     split at h
     · split at h
       · cases h;exact mem1 hm
       · cases h;exact mem1 hm
       · cases h
     · cases h
   · cases h
 | makeMapX κ'=>
   simp only [ZaI] at h;unfold ZIj at h;split at h
   · cases h
     refine mem2 ?_ rfl
     simp only [D.ment,A.ment,A.cells,C.ment,List.any_cons,List.any_nil,Bool.or_false,Bool.true_and,beq_eq_false_iff_ne,ne_eq]
     intro hh;subst hh;exact hcr (List.mem_singleton.2 rfl)
   · cases h
 | lookupX own ks z ok=>
   simp only [ZaI] at h;unfold ZJh at h;split at h
   · split at h
     · split at h
       · split at h
         · cases h
           refine mem1 ?_
           have hz: ∀x:MV,x.a.ment κ=false:=fun x=>by
             cases x with
             | one x=>rfl
             | agg xs=>simp only [MV.a,A.ment,A.cells,List.any_map];exact List.any_eq_false.2 fun _ _=>by simp [C.ment]
           cases ok with
           | false=>exact hz _
           | true=>simp only [ZQk,D.ment,List.any_cons,List.any_nil,Bool.or_false];rw [hz];rfl
         · cases h
       · cases h
     · cases h
   · cases h
 | updateX own ks=>
   simp only [ZaI] at h;unfold ZJa at h;split at h
   · have hm:=hd _ (List.mem_cons_of_mem _ (List.mem_cons_of_mem _ (List.mem_cons_of_mem _ List.mem_cons_self)))
     split at h
     · split at h
       · split at h
         · split at h
           · rename_i m' hm'
             cases h
             refine mem1 ?_
             unfold ZMO at hm'
             split at hm'
             · cases hm';rfl
             · cases hm'
               exact ZjP hm rfl
             · cases hm'
           · cases h
         · cases h
       · cases h
     · cases h
   · cases h
 | makeMapL κ'=>
   simp only [ZaI] at h;unfold ZIw at h;split at h
   · cases h
     refine mem2 ?_ rfl
     simp only [D.ment,A.ment,A.cells,C.ment,List.any_cons,List.any_nil,Bool.or_false,Bool.true_and,beq_eq_false_iff_ne,ne_eq]
     intro hh;subst hh;exact hcr (List.mem_singleton.2 rfl)
   · cases h
 | insL κ' n=>
   simp only [ZaI] at h
   obtain ⟨off,x,v,es,rfl,_,_,rfl⟩:=ZHz h
   exact mem1 rfl
 | lookupL κ' z=>
   simp only [ZaI] at h;unfold ZJe at h;split at h
   · split at h
     · cases h
       refine mem1 ?_
       have hz: ∀x:MV,x.a.ment κ=false:=fun x=>by
         cases x with
         | one x=>rfl
         | agg xs=>simp only [MV.a,A.ment,A.cells,List.any_map];exact List.any_eq_false.2 fun _ _=>by simp [C.ment]
       exact hz _
     · cases h
   · cases h
 | fail=>simp [ZaI] at h
def SOp.restOK (s:SOp):Bool:=
 match s.kind with
 | .call _ pass own na=>Zq6 (s.ins.drop na) ((if pass then [.k OBJS] else [])++own.map .k) && own.all (fun κ=>s.takes.elem κ) && (!pass||s.takes.elem OBJS)
 | .callv pass own na=>Zq6 (s.ins.drop (na+1)) ((if pass then [.k OBJS] else [])++own.map .k) && own.all (fun κ=>s.takes.elem κ) && (!pass||s.takes.elem OBJS)
 | _=>true
theorem Zml {m:Option Nat} {own:List Nat} {κ:Nat} (hκ:κ∉own) {r r':R} (h:R.up m own r=some r'):(r'.own && r'.k==κ)=false:=by
 unfold R.up at h
 split at h
 · cases h
 · rename_i ho
   split at h
   · cases h;simp [ho]
   · cases hq:own[r.k-m.getD 0]? with
     | none=>rw [hq] at h;cases h
     | some q=>
       rw [hq] at h
       cases h
       simp only [Bool.true_and,beq_eq_false_iff_ne]
       rintro rfl
       exact hκ (List.mem_of_getElem? hq)
theorem ZpK {φ:R->Option R} {p:R->Bool} (hp: ∀r r',φ r=some r'->p r'=false): ∀{l l':List R},l.mapM φ=some l'->l'.any p=false
 | [],l',h=>by simp at h;subst h;rfl
 | r::l,l',h=>by
   rw [List.mapM_cons] at h
   cases h1:φ r with
   | none=>rw [h1] at h;cases h
   | some x=>
     rw [h1] at h
     cases h2:l.mapM φ with
     | none=>rw [h2] at h;cases h
     | some y=>
       rw [h2] at h
       have:x::y=l':=by simpa using h
       subst this
       rw [List.any_cons,hp r x h1,ZpK hp h2];rfl
theorem ZqX {m:Option Nat} {own:List Nat} {κ:Nat} (hκ:κ∉own) {c c':C} (h:c.mapR (R.up m own)=some c'):c'.ment κ=false:=by
 cases c with
 | ref r=>
   simp only [C.mapR] at h
   cases h1:R.up m own r with
   | none=>rw [h1] at h;cases h
   | some q=>rw [h1] at h;cases h;exact Zml hκ h1
 | clo f p q=>
   simp only [C.mapR] at h
   split at h
   · rename_i x y hx hy
     cases h
     simp only [C.ment,ZpK (fun r r'=>Zml hκ) hx,ZpK (fun r r'=>Zml hκ) hy,Bool.or_false]
   · cases h
 | closs f r=>
   simp only [C.mapR] at h
   cases h1:R.up m own r with
   | none=>rw [h1] at h;cases h
   | some q=>rw [h1] at h;cases h;exact Zml hκ h1
 | own r s n=>
   simp only [C.mapR] at h
   split at h
   · rename_i q h1;cases h;exact Zml hκ h1
   · cases h;rfl
 | mptr r=>
   simp only [C.mapR] at h
   split at h
   · rename_i q h1;cases h;exact Zml hκ h1
   · cases h;rfl
 | map r es=>
   simp only [C.mapR] at h
   split at h
   · rename_i q h1;cases h;exact Zml hκ h1
   · cases h;rfl
 | _=>cases h;rfl
theorem Zos {m:Option Nat} {own:List Nat} {κ:Nat} (hκ:κ∉own) {cs cs':List C} (h:Zl9 (R.up m own) cs=some cs'):cs'.any (C.ment κ)=false:=by
 rw [List.any_eq_false]
 intro c hc
 obtain ⟨i,hi,rfl⟩:=List.getElem_of_mem hc
 obtain ⟨y,_,hy⟩:=(Zhe h).2 i _ (List.getElem?_eq_getElem hi)
 rw [ZqX hκ hy];simp
theorem Zuj {m:Option Nat} {own:List Nat} {κ:Nat} (hκ:κ∉own) {x x':A} (h:x.mapR (R.up m own)=some x'):x'.ment κ=false:=by
 cases x with
 | one c=>
   simp only [A.mapR] at h
   cases h1:c.mapR (R.up m own) with
   | none=>rw [h1] at h;cases h
   | some q=>
     rw [h1] at h;cases h
     simp [A.ment,A.cells,ZqX hκ h1]
 | agg cs=>
   simp only [A.mapR] at h
   cases h1:Zl9 (R.up m own) cs with
   | none=>rw [h1] at h;cases h
   | some q=>
     rw [h1] at h;cases h
     exact Zos hκ h1
theorem Zj5 {F:ZaQ} {f:Nat} {pass:Bool} {own:List Nat} {args:List A} {rest ds:List D} (h:ZcU F f pass own args rest=some ds) {κ:Nat} (hκ:κ∉own): ∀d∈ds,d.ment κ=false:=by
 obtain ⟨os,bs,css,xs,os',rs,os'',_,_,_,_,_,hback⟩:=ZgJ h
 obtain ⟨_,rs',os₂,hrs',hos₂,rfl⟩:=ZjY hback
 have hA: ∀x∈rs',x.ment κ=false:=fun x hx=>by
   obtain ⟨i,hi,rfl⟩:=List.getElem_of_mem hx
   obtain ⟨y,_,hy⟩:=(Zip hrs').2 i _ (List.getElem?_eq_getElem hi)
   exact Zuj hκ hy
 have hO: ∀cs∈os₂,cs.any (C.ment κ)=false:=fun cs hcs=>by
   obtain ⟨i,hi,rfl⟩:=List.getElem_of_mem hcs
   obtain ⟨y,_,hy⟩:=(Zkr hos₂).2 i _ (List.getElem?_eq_getElem hi)
   exact Zos hκ hy
 intro d hd
 rcases List.mem_cons.1 hd with rfl|hd
 · unfold resD
   split
   · rename_i x;exact hA x Zs
   · simp only [D.ment,List.any_eq_false]
     intro x hx;rw [hA x hx];simp
 · rcases List.mem_append.1 hd with hd|hd
   · cases pass with
     | false=>cases hd
     | true=>
       simp at hd;subst hd
       simp only [D.ment,List.any_eq_false]
       intro cs hcs;rw [hO cs (List.mem_of_mem_take hcs)];simp
   · obtain ⟨cs,hcs,rfl⟩:=List.mem_map.1 hd
     exact hO cs (List.mem_of_mem_drop hcs)
theorem ZKk {pass:Bool} {own:List Nat} {n k:Nat} {rs:List A} {os:List (List C)} {ds:List D} (hback:ZfY pass own n k rs os=some ds) {κ:Nat} (hκ:κ∉own): ∀d∈ds,d.ment κ=false:=by
 obtain ⟨_,rs',os₂,hrs',hos₂,rfl⟩:=ZjY hback
 have hA: ∀x∈rs',x.ment κ=false:=fun x hx=>by
   obtain ⟨i,hi,rfl⟩:=List.getElem_of_mem hx
   obtain ⟨y,_,hy⟩:=(Zip hrs').2 i _ (List.getElem?_eq_getElem hi)
   exact Zuj hκ hy
 have hO: ∀cs∈os₂,cs.any (C.ment κ)=false:=fun cs hcs=>by
   obtain ⟨i,hi,rfl⟩:=List.getElem_of_mem hcs
   obtain ⟨y,_,hy⟩:=(Zkr hos₂).2 i _ (List.getElem?_eq_getElem hi)
   exact Zos hκ hy
 intro d hd
 rcases List.mem_cons.1 hd with rfl|hd
 · unfold resD
   split
   · rename_i x;exact hA x Zs
   · simp only [D.ment,List.any_eq_false]
     intro x hx;rw [hA x hx];simp
 · rcases List.mem_append.1 hd with hd|hd
   · cases pass with
     | false=>cases hd
     | true=>
       simp at hd;subst hd
       simp only [D.ment,List.any_eq_false]
       intro cs hcs;rw [hO cs (List.mem_of_mem_take hcs)];simp
   · obtain ⟨cs,hcs,rfl⟩:=List.mem_map.1 hd
     exact hO cs (List.mem_of_mem_drop hcs)
theorem ZMI {F:ZaQ} {f:Nat} {κs:List Nat} {xs ds:List D} (h:ZaI F (.callU f κs) xs=some ds) {κ:Nat} (hκ:κ∉κs): ∀d∈ds,d.ment κ=false:=by
 simp only [ZaI] at h
 unfold ZIk at h
 split at h
 ·unfold ZKU at h
  split at h
  ·split at h
   ·unfold ZLH at h
    split at h
    ·split at h
     ·rename_i rs _ _ rs' hrs'
      cases h
      have hA: ∀x∈rs',x.ment κ=false:=fun x hx=>by
       obtain ⟨i,hi,rfl⟩:=List.getElem_of_mem hx
       obtain ⟨y,_,hy⟩:=(Zip hrs').2 i _ (List.getElem?_eq_getElem hi)
       exact Zuj Zs hy
      intro d hd
      rcases List.mem_cons.1 hd with rfl|hd
      ·unfold resD
       split
       ·rename_i x;exact hA x Zs
       ·simp only [D.ment,List.any_eq_false]
        intro x hx;rw [hA x hx];simp
      ·obtain ⟨_,_,rfl⟩:=List.mem_map.1 hd
       rfl
     ·cases h
    ·exact ZKk h hκ
    ·cases h
   ·cases h
  ·cases h
 ·cases h
theorem ZoS: ∀{ks:List Nat} {ds:List D} {e e':Env},e.sets ks ds=some e'-> ∀k,(k∉ks/\e'.get k=e.get k)∨ ∃d∈ds,e'.get k=d
 | [],[],e,e',h,k=>by simp [Env.sets] at h;subst h;exact .inl ⟨by simp,rfl⟩
 | x::ks,d::ds,e,e',h,k=>by
   simp only [Env.sets] at h
   rcases ZoS h k with ⟨h1,h2⟩|⟨d',h1,h2⟩
   · by_cases hx:x=k
     · subst hx;rw [Env.get_set_same] at h2;exact .inr ⟨d,by simp,h2⟩
     · rw [Env.get_set_ne _ _ hx] at h2;exact .inl ⟨by simp [h1,Ne.symm hx],h2⟩
   · exact .inr ⟨d',List.mem_cons_of_mem _ h1,h2⟩
 | [],_::_,_,_,h,_=>by simp [Env.sets] at h
 | _::_,[],_,_,h,_=>by simp [Env.sets] at h
theorem ZhM: ∀{ks:List Nat} {ds:List D} {e e':Env},e.sets ks ds=some e'-> ∀{k},k∉ks->e'.get k=e.get k
 | [],[],e,e',h,k,_=>by simp [Env.sets] at h;subst h;rfl
 | x::ks,d::ds,e,e',h,k,hk=>by
   simp only [Env.sets] at h
   rw [List.mem_cons,not_or] at hk
   rw [ZhM h hk.2,Env.get_set_ne _ _ (Ne.symm hk.1)]
 | [],_::_,_,_,h,_,_=>by simp [Env.sets] at h
 | _::_,[],_,_,h,_,_=>by simp [Env.sets] at h
theorem Zs5 {e:Env} {κ:Nat} (hno:ZlQ e κ) {s:SOp} (hq:s.quiet=true): ∀d∈s.ins.map (Zbl e s.takes),d.ment κ=false:=by
 intro d hd
 obtain ⟨y,hy,rfl⟩:=List.mem_map.1 hd
 simp only [SOp.quiet,Bool.and_eq_true] at hq
 cases y with
 | k m=>
   simp only [Zbl]
   split
   · exact hno.2 m
   · rw [D.plain_ment];exact hno.2 m
 | c c=>
   have:=List.all_eq_true.1 hq.2 _ hy
   simp only [Zbl,D.ment,A.ment,A.cells,List.any_cons,List.any_nil,Bool.or_false]
   exact C.quiet_ment this κ
theorem Zvw {pass:Bool} {own:List Nat} {rest:List Arg} {takes:List Nat} {e:Env} {κ:Nat} (hno:ZlQ e κ) (hr:rest=(if pass then [.k OBJS] else [])++own.map .k) (ht:own.all (fun κ=>takes.elem κ)=true) (ho:(!pass||takes.elem OBJS)=true)
  {F:ZaQ} {f:Nat} {args:List A} {ds:List D} (h:ZcU F f pass own args (rest.map (Zbl e takes))=some ds):κ∉own:=by
 obtain ⟨os,bs,css,xs,os',rs,os'',hsp,hbs,_⟩:=ZgJ h
 have hrd:rest.map (Zbl e takes)=(if pass then [e.get OBJS] else [])++own.map e.get:=by
  rw [hr,List.map_append]
  congr 1
  ·cases hps:pass with
   | false=>rfl
   | true=>rw [hps] at ho;simp at ho;simp [Zbl,ho]
  ·rw [List.map_map]
   refine List.map_congr_left fun κ hκ=>?_
   have:=List.all_eq_true.1 ht κ hκ
   simp only [Function.comp,Zbl]
   rw [if_pos this]
 rw [hrd] at hsp
 obtain ⟨rfl,_,_⟩:=ZnX hsp
 intro hm
 obtain ⟨i,hi,hik⟩:=List.getElem_of_mem hm
 obtain ⟨hl,hg⟩:=Zjz hbs
 rw [List.length_map] at hl
 have:=hg i _ (List.getElem?_eq_getElem Zo)
 rw [List.getElem?_map,List.getElem?_eq_getElem hi,hik] at this
 simp only [Option.map_some,Option.some.injEq,hno.1] at this
 cases this
theorem ZoJ {F:ZaQ} {s:SOp} {e e':Env} {κ:Nat} (hno:ZlQ e κ) (h:doOp F s e=some e') (hq:s.quiet=true) (hr:s.restOK=true) (hcr:κ∉s.kind.creates) (hout:κ∉s.outs):ZlQ e' κ:=by
 unfold doOp at h
 split at h
 · cases h
 · rename_i ds hs
   have hm: ∀d∈ds,d.ment κ=false:=by
     have hargs:=Zs5 hno hq
     cases hk:s.kind with
     | call f pass own na=>
       rw [hk] at hs
       simp only [ZaI,Zj7] at hs
       simp only [SOp.restOK,hk,Bool.and_eq_true] at hr
       split at hs
       · rw [<-List.map_drop] at hs
         exact Zj5 hs (Zvw hno (Zg7 hr.1.1) hr.1.2 hr.2 hs)
       · cases hs
     | callv pass own na=>
       rw [hk] at hs
       simp only [ZaI] at hs
       simp only [SOp.restOK,hk,Bool.and_eq_true] at hr
       unfold Zju at hs
       split at hs
       · rename_i f first caps xs heq
         split at hs
         · have hd:xs.drop na=(s.ins.drop (na+1)).map (Zbl e s.takes):=by
             rw [List.map_drop,heq];rfl
           rw [hd] at hs
           exact Zj5 hs (Zvw hno (Zg7 hr.1.1) hr.1.2 hr.2 hs)
         · cases hs
       · rename_i f r xs heq
         split at hs
         · have hd:xs.drop na=(s.ins.drop (na+1)).map (Zbl e s.takes):=by
             rw [List.map_drop,heq];rfl
           rw [hd] at hs
           exact Zj5 hs (Zvw hno (Zg7 hr.1.1) hr.1.2 hr.2 hs)
         · cases hs
       · cases hs
     | callU f κs=>
       rw [hk] at hs hcr
       exact ZMI hs hcr
     | _=>
       refine Ztm hs (by rw [hk];rfl) ?_ hcr hargs
       simp only [SOp.quiet,Bool.and_eq_true] at hq
       exact hq.1
   have key: ∀k,(ZaA e s.takes).get k=e.get k∨(ZaA e s.takes).get k=(e.get k).plain:=fun k=>(ZhS s.takes e k).imp id (·.2)
   refine ⟨?_,fun k=>?_⟩
   · rw [ZhM h hout]
     rcases key κ with h2|h2
     · rw [h2];exact hno.1
     · rw [h2,hno.1];rfl
   · rcases ZoS h k with ⟨_,h1⟩|⟨d,h1,h2⟩
     · rw [h1]
       rcases key k with h2|h2
       · rw [h2];exact hno.2 k
       · rw [h2,D.plain_ment];exact hno.2 k
     · rw [h2];exact hm d h1
end Go.Am
end
section
namespace Go.Am
variable [WI]
variable {Pg:Program} {F:ZaQ}
def Same (e e':Env):Prop:= ∀k,e.get k=e'.get k
theorem Same.refl (e:Env):Same e e:=fun _=>rfl
theorem Same.symm {e e':Env} (h:Same e e'):Same e' e:=fun k=>(h k).symm
theorem Same.trans {e e' e'':Env} (h:Same e e') (h':Same e' e''):Same e e'':=fun k=>(h k).trans (h' k)
def ZsA:List Arg->List Nat
 | []=>[]
 | .k n::r=>n::ZsA r
 | .c _::r=>ZsA r
def ZqA:Option (Nat×Bool)->List Nat
 | some (g,_)=>[g]
 | none=>[]
def SOp.reads (s:SOp):List Nat:=ZqA s.guard++(ZsA s.ins++s.takes)
def SOp.writes (s:SOp):List Nat:=s.takes++s.outs
def Zxc (xs ys:List Nat):Bool:=xs.all fun x=> !ys.elem x
theorem ZkZ {xs ys:List Nat} (h:Zxc xs ys=true) {k:Nat} (hx:k∈xs):k∉ys:=by
 have:=List.all_eq_true.1 h k hx
 simpa using this
def ZPd (κ:Nat):Arg->Bool
 | .k n=> !(n==κ)
 | .c _=>true
def ZLb (s:SOp):Option (Nat×Int):=match s.kind,s.ins,s.takes,s.outs,s.guard,s.dst with
 | .insL κ n,[y,y2,.k κ1],[],[κ2],none,false=>if κ1==κ && κ2==κ && ZPd κ y && ZPd κ y2 then some (κ,n) else none
 | _,_,_,_,_,_=>none
def ZNc (s t:SOp):Bool:=match ZLb s,ZLb t with
 | some (κ,n),some (κ',n')=>κ==κ' && !(n==n')
 | _,_=>false
def ZMt (s:SOp):Option (Nat×Nat×Nat×Nat):=match s.kind,s.ins,s.takes,s.outs,s.guard with
 | .loadC κ off,[.k a,.k κ1],[κ2],[d,κ3],none=>if κ1==κ && κ2==κ && κ3==κ && !(a==κ) && !(d==κ) then some (κ,off,a,d) else none
 | _,_,_,_,_=>none
def ZOD (s t:SOp):Bool:=match ZMt s,ZMt t with
 | some (κ,off,a,d),some (κ',off',a',d')=>κ==κ' && !(off==off') && !(d==d') && !(d==a') && !(d'==a)
 | _,_=>false
def SOp.indep0 (s t:SOp):Bool:=Zxc s.writes t.reads && Zxc t.writes s.reads && Zxc s.writes t.writes
def SOp.indep (s t:SOp):Bool:=s.indep0 t||(ZNc s t||ZOD s t)
theorem Zr7 {l:List Arg} {n:Nat} (h:Arg.k n∈l):n∈ZsA l:=by
 induction l with
 | nil=>cases h
 | cons y r ih=>
   rcases List.mem_cons.1 h with rfl|h'
   · exact List.mem_cons_self
   · cases y with
     | k m=>exact List.mem_cons_of_mem _ (ih h')
     | c c=>exact ih h'
theorem ZsV {e u₀:Env} {ins:List Arg} {takes:List Nat} (h: ∀k∈ZsA ins,e.get k=u₀.get k):ins.map (Zbl e takes)=ins.map (Zbl u₀ takes):=by
 refine List.map_congr_left fun y hy=>?_
 cases y with
 | k n=>simp only [Zbl,h n (Zr7 hy)]
 | c c=>rfl
theorem Zis: ∀(ks:List Nat) {e u₀:Env} {k:Nat},e.get k=u₀.get k->(ZaA e ks).get k=(ZaA u₀ ks).get k
 | [],_,_,_,h=>h
 | x::ks,e,u₀,k,h=>by
   simp only [ZaA]
   refine Zis ks ?_
   by_cases hx:x=k
   · subst hx;rw [Env.get_set_same,Env.get_set_same,h]
   · rw [Env.get_set_ne _ _ hx,Env.get_set_ne _ _ hx,h]
theorem Zoo: ∀{ks:List Nat} {ds:List D} {e u₀ e':Env},e.sets ks ds=some e'-> ∃u',u₀.sets ks ds=some u'/\ ∀k,e.get k=u₀.get k->e'.get k=u'.get k
 | [],[],e,u₀,e',h=>by simp [Env.sets] at h;subst h;exact ⟨u₀,rfl,fun _ h=>h⟩
 | x::ks,d::ds,e,u₀,e',h=>by
   simp only [Env.sets] at h
   obtain ⟨u',h1,h2⟩:=Zoo (u₀:=u₀.set x d) h
   refine ⟨u',h1,fun k hk=>h2 k ?_⟩
   by_cases hx:x=k
   · subst hx;rw [Env.get_set_same,Env.get_set_same]
   · rw [Env.get_set_ne _ _ hx,Env.get_set_ne _ _ hx,hk]
 | [],_::_,_,_,_,h=>by simp [Env.sets] at h
 | _::_,[],_,_,_,h=>by simp [Env.sets] at h
theorem Zoi {s:SOp} {e u₀ e':Env} (hr: ∀k∈s.reads,e.get k=u₀.get k) (h:doOp F s e=some e'): ∃u',doOp F s u₀=some u'/\ ∀k,e.get k=u₀.get k->e'.get k=u'.get k:=by
 have ha:=ZsV (takes:=s.takes) (fun k hk=>hr k (List.mem_append_right _ (List.mem_append_left _ hk)))
 unfold doOp at h⊢
 rw [ha] at h
 split at h
 ·cases h
 ·rename_i ds hs
  obtain ⟨u',h1,h2⟩:=Zoo (u₀:=ZaA u₀ s.takes) h
  exact ⟨u',h1,fun k hk=>h2 k (Zis _ hk)⟩
theorem ZkW {s:SOp} {e u₀:Env} {k:Nat} (h:e.get k=u₀.get k):(ZdW s e).get k=(ZdW s u₀).get k:=by
 unfold ZdW
 split
 ·rename_i x _ _ _
  by_cases hx:x=k
  ·subst hx;rw [Env.get_set_same,Env.get_set_same]
  ·rw [Env.get_set_ne _ _ hx,Env.get_set_ne _ _ hx,h]
 ·exact h
theorem ZkU {s:SOp} {e u₀ e':Env} (hr: ∀k∈s.reads,e.get k=u₀.get k) (h:ZaT F s e=some e'): ∃u',ZaT F s u₀=some u'/\ ∀k,e.get k=u₀.get k->e'.get k=u'.get k:=by
 unfold ZaT at h⊢
 split at h
 ·exact Zoi hr h
 ·rename_i gk want hg
  have hgk:e.get gk=u₀.get gk:=hr gk (by simp [SOp.reads,hg,ZqA])
  rw [hgk] at h
  split at h
  ·split at h
   ·rename_i hb;rw [if_pos hb];exact Zoi hr h
   ·rename_i hb;rw [if_neg hb];cases h;exact ⟨_,rfl,fun k hk=>ZkW hk⟩
  ·cases h;exact ⟨_,rfl,fun k hk=>ZkW hk⟩
  ·cases h
theorem ZoO {s:SOp} {e e':Env} (h:doOp F s e=some e') {k:Nat} (hk:k∉s.writes):e'.get k=e.get k:=by
 unfold doOp at h
 split at h
 ·cases h
 ·simp only [SOp.writes,List.mem_append,not_or] at hk
  rw [ZhM h hk.2,ZeP hk.1]
theorem Zlt {s:SOp} {e:Env} {k:Nat} (hk:k∉s.writes):(ZdW s e).get k=e.get k:=by
 unfold ZdW
 split
 ·rename_i x _ _ ho
  refine Env.get_set_ne _ _ fun hh=>hk ?_
  simp [SOp.writes,ho,hh]
 ·rfl
theorem ZfW {s:SOp} {e e':Env} (h:ZaT F s e=some e') {k:Nat} (hk:k∉s.writes):e'.get k=e.get k:=by
 unfold ZaT at h
 split at h
 ·exact ZoO h hk
 ·split at h
  ·split at h
   ·exact ZoO h hk
   ·cases h;exact Zlt hk
  ·cases h;exact Zlt hk
  ·cases h
theorem ZIR {s:SOp} {κ:Nat} {n:Int} (h:ZLb s=some (κ,n)): ∃y y2,s.kind= .insL κ n/\s.ins=[y,y2,.k κ]/\s.takes=[]/\s.outs=[κ]/\s.guard=none/\ZPd κ y=true/\ZPd κ y2=true:=by
 unfold ZLb at h
 split at h
 ·rename_i κ0 n0 y y2 κ1 κ2 h1 h2 h3 h4 h5 h6
  split at h
  ·rename_i hc
   simp only [Bool.and_eq_true,beq_iff_eq] at hc
   obtain ⟨⟨⟨rfl,rfl⟩,q1⟩,q2⟩:=hc
   cases h
   exact ⟨y,y2,h1,h2,h3,h4,h5,q1,q2⟩
  ·cases h
 ·cases h
theorem ZJ0 {e e':Env} {κ:Nat} {y:Arg} (hy:ZPd κ y=true) (he: ∀k,k≠κ->e'.get k=e.get k):Zbl e' [] y=Zbl e [] y:=by
 cases y with
 | k m=>simp only [ZPd,Bool.not_eq_true',beq_eq_false_iff_ne] at hy;simp only [Zbl,he m hy]
 | c c=>rfl
theorem ZNF {s:SOp} {κ:Nat} {n:Int} {y y2:Arg} (h1:s.kind= .insL κ n) (h2:s.ins=[y,y2,.k κ]) (h3:s.takes=[]) (h4:s.outs=[κ]) (h5:s.guard=none) {e:Env}:
  ZaT F s e=match ZI8 κ n [Zbl e [] y,Zbl e [] y2,(e.get κ).plain] with
   | some ds=>e.sets [κ] ds
   | none=>none:=by
 unfold ZaT doOp
 simp only [h1,h2,h3,h4,h5,List.map_cons,List.map_nil,ZaI,ZaA]
 have:Zbl e [] (.k κ)=(e.get κ).plain:=rfl
 rw [this]
 cases ZI8 κ n [Zbl e [] y,Zbl e [] y2,(e.get κ).plain]<;>rfl
theorem ZOm {s t:SOp} (hi:ZNc s t=true) {e e1 e2:Env} (h1:ZaT F s e=some e1) (h2:ZaT F t e1=some e2):
  ∃e1' e2',ZaT F t e=some e1'/\ZaT F s e1'=some e2'/\Same e2 e2':=by
 unfold ZNc at hi
 split at hi
 ·rename_i κ n κ' n' q1 q2
  simp only [Bool.and_eq_true,beq_iff_eq,Bool.not_eq_true',beq_eq_false_iff_ne] at hi
  obtain ⟨rfl,hn⟩:=hi
  obtain ⟨y,y2,s1,s2,s3,s4,s5,s6,s7⟩:=ZIR q1
  obtain ⟨z,z2,t1,t2,t3,t4,t5,t6,t7⟩:=ZIR q2
  rw [ZNF s1 s2 s3 s4 s5] at h1
  split at h1
  ·rename_i ds hds
   obtain ⟨off,x,v,es,r0,hv,hne,rfl⟩:=ZHz hds
   simp only [List.cons.injEq,and_true] at r0
   obtain ⟨r1,r2,r3⟩:=r0
   simp only [Env.sets,Option.some.injEq] at h1
   subst h1
   have he1: ∀k,k≠κ->(e.set κ (.a (.agg [.mapl (insE n v es)]))).get k=e.get k:=fun k hk=>Env.get_set_ne _ _ (Ne.symm hk)
   rw [ZNF t1 t2 t3 t4 t5,ZJ0 t6 he1,ZJ0 t7 he1,Env.get_set_same] at h2
   split at h2
   ·rename_i ds' hds'
    obtain ⟨off',x',v',es',u0,hv',hne',rfl⟩:=ZHz hds'
    simp only [List.cons.injEq,and_true] at u0
    obtain ⟨u1,u2,u3⟩:=u0
    simp only [Env.sets,Option.some.injEq] at h2
    subst h2
    have u3:insE n v es=es':=by simpa [D.plain,A.plain,C.plain] using u3
    subst u3
    have hm: ∀e,e∈insE n v es↔e=(n,v)∨e∈es:=fun e=>by rw [(ZIG n v es).mem_iff,List.mem_cons]
    have a1:ZaT F t e=some (e.set κ (.a (.agg [.mapl (insE n' v' es)]))):=by
     rw [ZNF t1 t2 t3 t4 t5,u1,u2,r3]
     have hall:es.all (fun e=> !(e.1==n'))=true:=by
      simp only [List.all_eq_true,Bool.not_eq_true',beq_eq_false_iff_ne]
      exact fun e he=>hne' e ((hm e).2 (.inr he))
     simp [ZI8,hv',hall,Env.sets]
    have he2: ∀k,k≠κ->(e.set κ (.a (.agg [.mapl (insE n' v' es)]))).get k=e.get k:=fun k hk=>Env.get_set_ne _ _ (Ne.symm hk)
    have a2:ZaT F s (e.set κ (.a (.agg [.mapl (insE n' v' es)])))=some ((e.set κ (.a (.agg [.mapl (insE n' v' es)]))).set κ (.a (.agg [.mapl (insE n v (insE n' v' es))]))):=by
     rw [ZNF s1 s2 s3 s4 s5,ZJ0 s6 he2,ZJ0 s7 he2,Env.get_set_same,r1,r2]
     have hall:(insE n' v' es).all (fun e=> !(e.1==n))=true:=by
      simp only [List.all_eq_true,Bool.not_eq_true',beq_eq_false_iff_ne]
      intro e he
      rw [(ZIG n' v' es).mem_iff,List.mem_cons] at he
      rcases he with rfl|he
      ·exact Ne.symm hn
      ·exact hne e he
     simp [D.plain,A.plain,C.plain,ZI8,hv,hall,Env.sets]
    refine ⟨_,_,a1,a2,fun k=>?_⟩
    rw [ZLe hn]
    by_cases hk:κ=k
    ·subst hk;rw [Env.get_set_same,Env.get_set_same]
    ·rw [Env.get_set_ne _ _ hk,Env.get_set_ne _ _ hk,Env.get_set_ne _ _ hk,Env.get_set_ne _ _ hk]
   ·cases h2
  ·cases h1
 ·cases hi
theorem ZRL {cs:List C} {off:Nat}:ZbQ none cs off=cs.take off++((cs.drop off).take 1).map C.plain++cs.drop (off+1):=rfl
theorem ZKQ {cs:List C} {off i:Nat}:(ZbQ none cs off)[i]? =if i=off then (cs[i]?).map C.plain else cs[i]? :=by
 rw [ZRL]
 rcases Nat.lt_or_ge off cs.length with h|h
 ·have hl:(cs.take off).length=off:=by simp;omega
  have hd:(cs.drop off).take 1=[cs[off]]:=by rw [List.drop_eq_getElem_cons h];rfl
  rw [hd,List.append_assoc]
  rcases Nat.lt_trichotomy i off with h1|h1|h1
  ·rw [List.getElem?_append_left Zo,List.getElem?_take,if_pos h1,if_neg Zo]
  ·subst h1
   rw [List.getElem?_append_right Zo,hl]
   simp [h]
  ·rw [List.getElem?_append_right Zo,hl,if_neg Zo,List.map_cons,List.map_nil]
   obtain ⟨k,rfl⟩: ∃k,i=off+1+k:=⟨i-off-1,by omega⟩
   rw [show off+1+k-off=k+1 by omega,List.singleton_append,List.getElem?_cons_succ,List.getElem?_drop]
 ·have h1:cs.take off=cs:=List.take_of_length_le h
  have h2:cs.drop off=[]:=List.drop_of_length_le h
  have h3:cs.drop (off+1)=[]:=List.drop_of_length_le Zo
  rw [h1,h2,h3]
  simp only [List.take_nil,List.map_nil,List.append_nil]
  split
  ·rename_i hi
   subst hi
   rw [List.getElem?_eq_none h];rfl
  ·rfl
theorem ZPk {cs:List C} {off off':Nat}:ZbQ none (ZbQ none cs off) off'=ZbQ none (ZbQ none cs off') off:=by
 apply List.ext_getElem?
 intro i
 rw [ZKQ,ZKQ,ZKQ,ZKQ]
 by_cases h1:i=off
 ·by_cases h2:i=off'
  ·subst h1;subst h2;rfl
  ·rw [if_neg h2,if_pos h1,if_pos h1,if_neg h2]
 ·by_cases h2:i=off'
  ·rw [if_pos h2,if_neg h1,if_neg h1,if_pos h2]
  ·rw [if_neg h2,if_neg h1,if_neg h1,if_neg h2]
theorem ZRe {cs:List C} {off:Nat} (h:ZH1 cs=false):ZH1 (ZbQ none cs off)=false:=by
 cases cs with
 | nil=>cases off<;>rfl
 | cons c r=>
   cases r with
   | cons c' r=>
     cases hp:ZbQ none (c::c'::r) off with
     | nil=>rfl
     | cons x l=>
       cases l with
       | cons _ _=>cases x<;>rfl
       | nil=>
         have:=ZKQ (cs:=c::c'::r) (off:=off) (i:=1)
         rw [hp] at this
         split at this<;>cases this
   | nil=>
     cases off with
     | succ n=>simpa [ZbQ,Zfl] using h
     | zero=>
       have:ZbQ none [c] 0=[c.plain]:=rfl
       rw [this]
       cases c<;>first|rfl|exact h
theorem ZRH {cs:List C} {off:Nat}:ZbK none cs off=if ZH1 cs=true then none else (cs[off]?).map A.one:=by
 have hc:(match cut cs off (Zfl none) with|some xs=>ZsS none xs|none=>none)=(cs[off]?).map A.one:=by
  rcases Nat.lt_or_ge off cs.length with h|h
  ·have:cut cs off (Zfl none)=some [cs[off]]:=by
    unfold cut
    rw [if_pos (show off+Zfl none<=cs.length by simp only [Zfl];omega),List.drop_eq_getElem_cons h]
    rfl
   rw [this,List.getElem?_eq_getElem h];rfl
  ·have:cut cs off (Zfl none)=none:=by
    unfold cut
    rw [if_neg (show¬off+Zfl none<=cs.length by simp only [Zfl];omega)]
   rw [this,List.getElem?_eq_none h];rfl
 have:ZbK none cs off=notM cs ((cs[off]?).map A.one):=congrArg (notM cs) hc
 rw [this]
 unfold notM
 cases h:ZH1 cs<;>rfl
theorem ZIr {s:SOp} {κ off a d:Nat} (h:ZMt s=some (κ,off,a,d)):s.kind= .loadC κ off/\s.ins=[.k a,.k κ]/\s.takes=[κ]/\s.outs=[d,κ]/\s.guard=none/\a≠κ/\d≠κ:=by
 unfold ZMt at h
 split at h
 ·rename_i κ0 off0 a0 κ1 κ2 d0 κ3 h1 h2 h3 h4 h5
  split at h
  ·rename_i hc
   simp only [Bool.and_eq_true,beq_iff_eq,Bool.not_eq_true',beq_eq_false_iff_ne] at hc
   obtain ⟨⟨⟨⟨rfl,rfl⟩,rfl⟩,q1⟩,q2⟩:=hc
   cases h
   exact ⟨h1,h2,h3,h4,h5,q1,q2⟩
  ·cases h
 ·cases h
theorem ZQg {s:SOp} {κ off a d:Nat} (h:ZMt s=some (κ,off,a,d)) {e e':Env}:ZaT F s e=some e'↔ ∃cs c,(e.get a).plain= .a (.one (.ref ⟨true,κ,off⟩))/\e.get κ= .a (.agg cs)/\ZH1 cs=false/\cs[off]? =some c/\e'=((e.set κ (e.get κ).plain).set d (.a (.one c))).set κ (.a (.agg (ZbQ none cs off))):=by
 obtain ⟨h1,h2,h3,h4,h5,h6,h7⟩:=ZIr h
 have e1:Zbl e [κ] (.k a)=(e.get a).plain:=by simp [Zbl,h6]
 have e2:Zbl e [κ] (.k κ)=e.get κ:=by simp [Zbl]
 unfold ZaT doOp
 simp only [h1,h2,h3,h4,h5,List.map_cons,List.map_nil,ZaI,ZaA,e1,e2]
 constructor
 · intro hh
   split at hh
   · cases hh
   · rename_i ds hds
     unfold ZIu at hds
     split at hds
     · rename_i κ' off' cs heq
       simp only [List.cons.injEq,and_true] at heq
       obtain ⟨q1,q2⟩:=heq
       split at hds
       · rename_i hc
         simp only [Bool.and_eq_true,beq_iff_eq] at hc
         obtain ⟨rfl,rfl⟩:=hc
         rw [ZRH] at hds
         cases hm:ZH1 cs with
         | true=>rw [hm] at hds;cases hds
         | false=>
           rw [hm] at hds
           simp only [Bool.false_eq_true,if_false] at hds
           cases hcs:cs[off']? with
           | none=>rw [hcs] at hds;cases hds
           | some c=>
             rw [hcs] at hds
             cases hds
             simp only [Env.sets,Option.some.injEq] at hh
             exact ⟨cs,c,q1,q2,hm,hcs,hh.symm⟩
       · cases hds
     · cases hds
 · rintro ⟨cs,c,q1,q2,q3,q4,rfl⟩
   rw [q1,q2]
   simp only [ZIu,beq_self_eq_true,Bool.and_self,if_true,ZRH,q3,Bool.false_eq_true,if_false,q4,Option.map_some,Env.sets]
theorem ZP4 {s t:SOp} (hi:ZOD s t=true) {e e1 e2:Env} (h1:ZaT F s e=some e1) (h2:ZaT F t e1=some e2):
  ∃e1' e2',ZaT F t e=some e1'/\ZaT F s e1'=some e2'/\Same e2 e2':=by
 unfold ZOD at hi
 split at hi
 ·rename_i κ off a d κ' off' a' d' q1 q2
  simp only [Bool.and_eq_true,beq_iff_eq,Bool.not_eq_true',beq_eq_false_iff_ne] at hi
  obtain ⟨⟨⟨⟨rfl,n1⟩,n2⟩,n3⟩,n4⟩:=hi
  obtain ⟨_,_,_,_,_,s1,s2⟩:=ZIr q1
  obtain ⟨_,_,_,_,_,t1,t2⟩:=ZIr q2
  obtain ⟨cs,c,u1,u2,u3,u4,rfl⟩:=(ZQg q1).1 h1
  obtain ⟨cs',c',v1,v2,v3,v4,rfl⟩:=(ZQg q2).1 h2
  rw [Env.get_set_same] at v2
  simp only [D.a.injEq,A.agg.injEq] at v2
  subst v2
  rw [ZKQ,if_neg (Ne.symm n1)] at v4
  rw [Env.get_set_ne _ _ (Ne.symm t1),Env.get_set_ne _ _ n3,Env.get_set_ne _ _ (Ne.symm t1)] at v1
  have w1:=(ZQg (F:=F) q2 (e:=e)).2 ⟨cs,c',v1,u2,u3,v4,rfl⟩
  have w2:=(ZQg (F:=F) q1 (e:=((e.set κ (e.get κ).plain).set d' (.a (.one c'))).set κ (.a (.agg (ZbQ none cs off'))))).2 ⟨ZbQ none cs off',c,by rw [Env.get_set_ne _ _ (Ne.symm s1),Env.get_set_ne _ _ n4,Env.get_set_ne _ _ (Ne.symm s1)];exact u1,by rw [Env.get_set_same],ZRe u3,by rw [ZKQ,if_neg n1];exact u4,rfl⟩
  refine ⟨_,_,w1,w2,fun k=>?_⟩
  rw [ZPk]
  simp only [Env.get_set]
  by_cases hk:κ=k
  ·simp [hk]
  ·by_cases hd:d=k
   ·subst hd;simp [hk,Ne.symm n2]
   ·by_cases hd':d'=k
    ·subst hd';simp [hk,hd]
    ·simp [hk,hd,hd']
 ·cases hi
theorem ZuS {s t:SOp} (hi:s.indep t=true) {e e1 e2:Env} (h1:ZaT F s e=some e1) (h2:ZaT F t e1=some e2):
  ∃e1' e2',ZaT F t e=some e1'/\ZaT F s e1'=some e2'/\Same e2 e2':=by
 rw [SOp.indep,Bool.or_eq_true] at hi
 rcases hi with hi|hi
 rotate_left
 ·rw [Bool.or_eq_true] at hi
  rcases hi with hi|hi
  ·exact ZOm hi h1 h2
  ·exact ZP4 hi h1 h2
 simp only [SOp.indep0,Bool.and_eq_true] at hi
 obtain ⟨⟨i1,i2⟩,i3⟩:=hi
 have hst: ∀k∈t.reads,e1.get k=e.get k:=fun k hk=>ZfW h1 fun hw=>ZkZ i1 hw hk
 obtain ⟨e1',q1,q2⟩:=ZkU hst h2
 have hts: ∀k∈s.reads,e.get k=e1'.get k:=fun k hk=>(ZfW q1 fun hw=>ZkZ i2 hw hk).symm
 obtain ⟨e2',r1,r2⟩:=ZkU hts h1
 refine ⟨e1',e2',q1,r1,fun k=>?_⟩
 by_cases hk:k∈s.writes
 ·have hkt:=ZkZ i3 hk
  rw [ZfW h2 hkt]
  exact r2 k (ZfW q1 hkt).symm
 ·rw [ZfW r1 hk]
  exact q2 k (ZfW h1 hk)
theorem Zqz: ∀{l:List SOp} {e u₀ e':Env},Same e u₀->Zdo F l e=some e'-> ∃u',Zdo F l u₀=some u'/\Same e' u'
 | [],e,u₀,e',hs,h=>by simp [Zdo] at h;subst h;exact ⟨u₀,rfl,hs⟩
 | s::l,e,u₀,e',hs,h=>by
   simp only [Zdo] at h⊢
   split at h
   · rename_i e1 h1
     obtain ⟨u₁,q1,q2⟩:=ZkU (fun k _=>hs k) h1
     rw [q1]
     exact Zqz (fun k=>q2 k (hs k)) h
   · cases h
theorem Zqt: ∀{pre:List SOp} {s:SOp} {post:List SOp} {e ef:Env},(∀p∈pre,p.indep s=true)->Zdo F (pre++s::post) e=some ef->
   ∃e1 ef',ZaT F s e=some e1/\Zdo F (pre++post) e1=some ef'/\Same ef ef'
 | [],s,post,e,ef,_,h=>by
   simp only [List.nil_append,Zdo] at h
   split at h
   · rename_i e1 h1;exact ⟨e1,ef,h1,h,.refl _⟩
   · cases h
 | p::pre,s,post,e,ef,hp,h=>by
   simp only [List.cons_append,Zdo] at h
   split at h
   · rename_i e1 h1
     obtain ⟨e2,ef',q1,q2,q3⟩:=Zqt (fun p hp'=>hp p (List.mem_cons_of_mem _ hp')) h
     obtain ⟨e1',e2',r1,r2,r3⟩:=ZuS (hp p List.mem_cons_self) h1 q1
     obtain ⟨ef'',t1,t2⟩:=Zqz r3 q2
     refine ⟨e1',ef'',r1,?_,q3.trans t2⟩
     simp only [List.cons_append,Zdo,r2]
     exact t1
   · cases h
def rem (L:Nat->Bool):Nat->List SOp->List SOp
 | _,[]=>[]
 | i,s::ss=>if L i then rem L (i+1) ss else s::rem L (i+1) ss
theorem ZtQ {L L':Nat->Bool} {j:Nat} {s:SOp} (hL': ∀i,L' i=(L i||i==j)) (hj:L j=false): ∀(i:Nat) (ss:List SOp),i<=j->ss[j-i]? =some s->
   ∃pre post,rem L i ss=pre++s::post/\rem L' i ss=pre++post/\ ∀p∈pre,∃m,i<=m/\m<j/\L m=false/\ss[m-i]? =some p:=by
 intro i ss
 induction ss generalizing i with
 | nil=>intro _ h;simp at h
 | cons x ss ih=>
   intro hi hs
   rcases Nat.eq_or_lt_of_le hi with rfl|hlt
   · simp at hs
     subst hs
     refine ⟨[],rem L (i+1) ss,by simp [rem,hj],?_,by simp⟩
     have hir: ∀(m:Nat) (l:List SOp),i<m->rem L' m l=rem L m l:=by
       intro m l
       induction l generalizing m with
       | nil=>intro _;rfl
       | cons y l ih'=>
         intro hm
         have:L' m=L m:=by rw [hL'];simp;omega
         simp only [rem,this,ih' (m+1) Zo]
     simp only [rem,hL',beq_self_eq_true,Bool.or_true,if_true,List.nil_append]
     exact hir _ _ Zo
   · have hs':ss[j-(i+1)]? =some s:=by
       rw [show j-i=(j-(i+1))+1 by omega] at hs
       simpa using hs
     obtain ⟨pre,post,h1,h2,h3⟩:=ih (i+1) hlt hs'
     have hLi:L' i=L i:=by rw [hL'];simp;omega
     have hsh: ∀p∈pre,∃m,i<=m/\m<j/\L m=false/\(x::ss)[m-i]? =some p:=fun p hp=>by
       obtain ⟨m,m1,m2,m3,m4⟩:=h3 p hp
       refine ⟨m,by omega,m2,m3,?_⟩
       rw [show m-i=(m-(i+1))+1 by omega]
       simpa using m4
     cases hc:L i with
     | true=>exact ⟨pre,post,by simp [rem,hc,h1],by simp [rem,hLi,hc,h2],hsh⟩
     | false=>
       refine ⟨x::pre,post,by simp [rem,hc,h1],by simp [rem,hLi,hc,h2],fun p hp=>?_⟩
       rcases List.mem_cons.1 hp with rfl|hp
       · exact ⟨i,Nat.le_refl _,hlt,hc,by simp⟩
       · exact hsh p hp
theorem Zvu {L:Nat->Bool}: ∀(i:Nat) (ss:List SOp),(∀m,i<=m->m<i+ss.length->L m=true)->rem L i ss=[]
 | _,[],_=>rfl
 | i,s::ss,h=>by
   simp only [rem,h i (Nat.le_refl _) Zs,if_true]
   exact Zvu (i+1) ss fun m h1 h2=>h m Zo Ze
theorem Zpl {L:Nat->Bool}: ∀(i:Nat) (ss:List SOp),(∀m,i<=m->m<i+ss.length->L m=false)->rem L i ss=ss
 | _,[],_=>rfl
 | i,s::ss,h=>by
   simp only [rem,h i (Nat.le_refl _) Zs,Bool.false_eq_true,if_false]
   rw [Zpl (i+1) ss fun m h1 h2=>h m Zo Ze]
end Go.Am
end
