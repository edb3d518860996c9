/- Part. -/
import Derived.Test.YtcdjoaepciegnaaGreatDoorUap
import Derived.MapKept
import Derived.Carry
set_option maxRecDepth 999999
set_option maxHeartbeats 0
set_option linter.all false
section
namespace Go.Am
variable [WI]
variable {Pg:Program}
open Go.MapKept Go.RowKit
def ZkI (d:TypeDesc) (kk:Nat):Bool:=
 match d with
 | .string=>kk==0
 | .int _=>kk==1
 | .bool=>kk==2
 | _=>false
def Zqy (Pg:Program) (t:TypeId) (kk:Nat):Bool:=
 match Pg.underlying t with
 | some (.map key _)=>(match Pg.underlying key with
   | some d=>ZkI d kk
   | none=>false)
 | _=>false
def ZkK {t kk:Nat} (h:Zqy Pg t kk=true): ∃key el d,Pg.underlying t=some (.map key el)/\Pg.underlying key=some d/\ZkI d kk=true:=by
 unfold Zqy at h
 split at h
 ·rename_i key el h1
  split at h
  ·rename_i d h2;exact ⟨key,el,d,h1,h2,h⟩
  ·cases h
 ·cases h
def ZsC {a b:ByteArray} (h:ZbJ a=ZbJ b):a=b:=by
 obtain ⟨a⟩:=a
 obtain ⟨b⟩:=b
 unfold ZbJ at h
 have:=(List.map_inj_right (fun x y h=>UInt8.toNat_inj.1 h)).1 h
 have e:a=b:=Array.toList_inj.1 this
 subst e;rfl
def Zl7 {d:TypeDesc} {u v:Value} (h:Instr.sameNow d u v=some true) (n:Nat):Instr.sameBits n v u=true:=by
 cases d<;>cases u<;>cases v<;>simp_all [Instr.sameNow,Instr.sameBits,bytes_beq]
def Zmo {pr:Nat->Nat} {w:World} {d:TypeDesc} {u v:Value} {k k':P} {b:Bool} (hd:ZkI d (ZuN k)=true) (hu:RepP pr w u k) (hv:RepP pr w v k') (h:peqK k k'=some b):Instr.sameNow d u v=some b:=by
 cases hu with
 | int kk n=>
   cases hv with
   | int kk' n'=>
     simp only [peqK] at h
     split at h
     · rename_i e
       cases d<;>simp [ZkI,ZuN] at hd
       simp only [Instr.sameNow,e,if_true]
       exact h
     · cases h
   | _=>simp [peqK] at h
 | bool c=>
   cases hv with
   | bool c'=>cases d<;>simp [ZkI,ZuN] at hd;simpa [peqK,Instr.sameNow] using h
   | _=>simp [peqK] at h
 | str bs t ht=>
   cases hv with
   | str bs' t' ht'=>
     cases d<;>simp [ZkI,ZuN] at hd
     simp only [peqK,Ye] at h
     subst ht;subst ht'
     rw [ZoX] at h
     simp only [Instr.sameNow,Ye]
     rw [<-h]
     rw [Bool.eq_iff_iff,bytes_beq]
     constructor
     · rintro rfl;simp
     · intro hh
       have hh:bs.toList=bs'.toList:=by simpa using hh
       exact ZsC (by rw [ZbU,ZbU,hh])
   | _=>simp [peqK] at h
 | nils=>simp [peqK] at h
 | sl=>simp [peqK] at h
theorem ZfM {pr:Nat->Nat} {w:World} {d:TypeDesc} {u:Value} {k:P} (hd:ZkI d (ZuN k)=true) (hu:RepP pr w u k): ∀(es:List (P×P)) (mes:List MapEntry) (i:Nat) (r:Option (Nat×P)),mes.length=es.length->
   (∀(j:Nat) k' x,es[j]? =some (k',x)-> ∃e,mes[j]? =some e/\RepP pr w e.key k'/\RepP pr w e.val x)->Zxz es k i=some r->
   match r with
   | none=>Instr.findNow d u mes i=some none
   | some (j,x)=> ∃e,i<=j/\mes[j-i]? =some e/\Instr.findNow d u mes i=some (some (j,e.val))/\RepP pr w e.val x/\Instr.sameNow d u e.key=some true
 | [],[],i,r,_,_,h=>by simp only [Zxz,Ye] at h;subst h;rfl
 | (k',x)::es,m::mes,i,r,hl,hr,h=>by
   obtain ⟨e,he,h1,h2⟩:=hr 0 k' x rfl
   simp only [Yi,Ye] at he
   subst he
   unfold Zxz at h
   split at h
   · rename_i hp
     simp only [Ye] at h
     subst h
     have hs:=Zmo hd hu h1 hp
     exact ⟨m,Yc _,by simp,by simp [Instr.findNow,hs],h2,hs⟩
   · rename_i hp
     have hs:=Zmo hd hu h1 hp
     have ih:=ZfM hd hu es mes (i+1) r (by simpa using hl) (fun j k' x hj=>by simpa using hr (j+1) k' x (by simpa using hj)) h
     cases r with
     | none=>simp only [Instr.findNow,hs];exact ih
     | some q=>
       obtain ⟨j,x'⟩:=q
       obtain ⟨e,g1,g2,g3,g4,g5⟩:=ih
       refine ⟨e,by omega,?_,by simp only [Instr.findNow,hs];exact g3,g4,g5⟩
       rw [show j-i=(j-(i+1))+1 by omega]
       simpa using g2
   · cases h
 | [],_::_,_,_,hl,_,_=>by simp at hl
 | _::_,[],_,_,hl,_,_=>by simp at hl
def ZgX {P:Program} {w:World} {kt:TypeId} {d:TypeDesc} {k:Value} {kk:Nat} (hd:P.underlying kt=some d) (hk:ZkI d kk=true) (e:Bool) (n:Nat):(Instr.checkKey e (n+1) kt k).run P w= .ok () w:=by
 unfold Instr.checkKey
 simp only [Sem.run_bind,run_underlying hd,Result.andThen]
 cases d<;>cases k<;>simp_all [ZkI]
def ZsQ (Pg:Program) (t:TypeId) (z:P):Bool:=
 match Pg.underlying t with
 | some (.map _ el)=>(match Pg.info? el with
   | some i=>(match i.zero with
     | some v=>ZfU v (.p z)
     | none=>false)
   | none=>false)
 | _=>false
def ZpX {t key el:TypeId} {z:P} (h:ZsQ Pg t z=true) (u1:Pg.underlying t=some (.map key el)): ∃i v,Pg.info? el=some i/\i.zero=some v/\ZfU v (.p z)=true:=by
 simp only [ZsQ,u1] at h
 split at h
 ·rename_i i hi
  split at h
  ·rename_i v hv;exact ⟨i,v,hi,hv,h⟩
  ·cases h
 ·cases h
section each
variable {F:ZaQ} {g:G} {e e':Env} {a:Act} {w:World}
def ZnA (κ:Nat) (o:Oper) (s:SOp) (nt:Nat):Bool:=
 Zie o s nt && Nat.ble BOX κ && match o.op,s.ins with
 | .makeMap _ none,[]=>true
 | _,_=>false
def ZsY (h:St g e a w) {o:Oper} {s:SOp} {κ:Nat} (hk:s.kind= .makeMap κ) (ho:ZnA κ o s g.nt=true) (hno:ZlQ e κ) (hd:doOp F s e=some e'):OpOut Pg o a w g e':=by
 unfold ZnA at ho
 simp only [Yb] at ho
 obtain ⟨d,h1,h2,h3,hlt⟩:=Ziq ho.1.1
 obtain ⟨x,hx,rfl⟩:=Zk8 h3 h2 hd
 have hκ:=Nat.le_of_ble_eq_true ho.1.2
 have ho2:=ho.2
 split at ho2
 ·rename_i t hop hins
  rw [hk,hins] at hx
  simp only [List.map_nil,ZaI,Ziu,Ye,Yf,and_true] at hx
  subst hx
  obtain ⟨d,rfl⟩: ∃d₀:Nat,d₀=d:=⟨d,rfl⟩
  have hdO:d<OBJS:=Yq hlt h.nt
  have hds:d<a.tmps.size:=Yq hlt h.sz
  let g':G:={g.lay w.heap.size 0 (d,0,0) with β:=fun k=>if k=κ then w.heap.size else g.β k}
  let w':World:=w.alloc (.map #[] 0)
  have hheap:w'.heap=w.heap.push (.map #[] 0):=rfl
  have hold: ∀b,b<w.heap.size->w'.heap[b]? =w.heap[b]? :=fun b hb=>by rw [hheap,Array.getElem?_push];simp [Nat.ne_of_lt hb]
  have hnew:w'.heap[w.heap.size]? =some (.map #[] 0):=by rw [hheap];simp
  have hsize:w'.heap.size=w.heap.size+1:=by rw [hheap];simp
  have hext:Ext g.T g.pr g.ow w w' g'.pr g'.ow:=by
   refine ⟨rfl,rfl,rfl,by rw [hsize];omega,fun b o' hb=>⟨o',by rw [hold b (ZaB hb)];exact hb,SameObj.refl _ _⟩,fun b hb=>?_,fun b hb ho _=>?_,fun b hb _ _=>hold _ hb⟩
   ·simp [g',G.lay,Nat.ne_of_lt hb]
   ·simp [g',G.lay,Nat.ne_of_lt hb,ho]
  have hbig: ∀κ,κ∈[d]-> ¬BOX<=κ:=fun κ hm hb=>by have:=Zau;simp at hm;omega
  refine ⟨.value (.map (some w.heap.size)),.map (some w.heap.size),w',g',?_,.inl rfl,?_,hext,rfl,rfl,rfl⟩
  ·simp only [execOp,hop,Option.map_none]
   rw [Zaw,run_makeMap]
   rfl
  ·rw [h1]
   refine h.gen [d] (fun b=>b<w.heap.size) hext (fun b hb=>?_) rfl rfl rfl (by rw [Zb6];exact h.df) Zd6 (fun k hk=>Env.get_set_ne _ _ (by simp at hk;omega)) (fun k hk _=>Zbb (by simpa using hk))
    (fun k hk c i b hb=>?_) (fun κ'=>?_) (fun b hb=>⟨hold b hb,by simp [g',G.lay,Nat.ne_of_lt hb],by simp [g',G.lay,Nat.ne_of_lt hb]⟩) (fun κ _ hκ hl=>(Zb7 h hκ hl).1) (fun _ os i ho hi=>(Ze2 h ho hi).1)
    (fun k hk=>?_) (fun κ hm hκ=>absurd hκ (hbig κ hm)) (fun hm=>by simp at hm;omega) (fun κ hm hκ=>absurd hκ (hbig κ hm))
   ·change w'.heap.size<=b at hb
    rw [hsize] at hb
    have hne:b≠w.heap.size:=by omega
    simp [g',G.lay,hne,h.fr b Zo]
   ·have hne:b≠w.heap.size:=fun hh=>by rw [hh,(h.fr _ (Yc _)).2] at hb;cases hb
    refine ⟨by simp [g',G.lay,hne,hb],by simp [g',G.lay,hne],hold b ?_⟩
    rcases Yt b w.heap.size with hh|hh
    ·exact hh
    ·rw [(h.fr b hh).2] at hb;cases hb
   ·by_cases hh:κ'=κ
    ·subst hh;exact .inr ⟨hno.1,fun k _=>hno.2 k⟩
    ·exact .inl (by simp [g',G.lay,hh])
   ·simp at hk;subst hk
    refine .tmp hdO ?_
    rw [Env.get_set_same,Zbe hds]
    have hb:R.blk g' ⟨true,κ,0⟩=w.heap.size:=by simp [R.blk,g']
    refine ⟨#[],0,by rw [hb],?_,?_,?_,?_,rfl,fun i k x hi=>by simp at hi⟩
    ·rw [hb];simp [g',G.lay]
    ·rw [hb];simp [g',G.lay]
    ·rw [hb];exact h.tf _ (Yc _)
    ·rw [hb];exact hnew
 ·cases ho2
def Zo3 (Pg:Program) (kk:Nat) (z:P) (o:Oper) (s:SOp) (nt:Nat):Bool:=
 match o.op,o.dst,s.ins,s.takes,s.outs with
 | .lookup t (.tmp t') ix false,some d,[.k n,y,.k m],[m'],[d',m'']=>t'==n && m'==m && m''==m && d==d' && Nat.blt d nt && Nat.blt n OBJS && Nat.blt m OBJS && n !=m && m !=d && Zcl ix y && Arg.isNot y m && Zqy Pg t kk && ZsQ Pg t z
 | _,_,_,_,_=>false
def ZqM {e:Env} {n m:Nat} (h:n≠m):Zbl e [m] (.k n)=(e.get n).plain:=by
 simp [Zbl,h]
def plain_mptr {d:D} {r:R} (h:d.plain= .a (.one (.mptr r))):d= .a (.one (.mptr r))∨ ∃es,d= .a (.one (.map r es)):=by
 cases d with
 | a x=>
   cases x with
   | one c=>
     cases c<;>simp [D.plain,A.plain,C.plain] at h
     · subst h;exact .inr ⟨_,rfl⟩
     · subst h;exact .inl rfl
   | agg cs=>simp [D.plain,A.plain] at h
 | _=>simp [D.plain] at h
def Zr2 (h:St g e a w) {n:Nat} {r:R} (hn:n<OBJS) (hp:(e.get n).plain= .a (.one (.mptr r))):a.tmps.getD n undef= .map (some (r.blk g)):=by
 have hr:=(h.key n).tm hn
 rcases plain_mptr hp with q|⟨es,q⟩
 ·rw [q] at hr;exact hr
 ·rw [q] at hr;obtain ⟨_,_,hv,_⟩:=hr;exact hv
theorem ZtP (h:St g e a w) {o:Oper} {s:SOp} {kk:Nat} {z:P} (hk:s.kind= .lookup kk z) (ho:Zo3 Pg kk z o s g.nt=true) (hd:doOp F s e=some e'):OpOut Pg o a w g e':=by
 unfold Zo3 at ho
 split at ho
 ·rename_i t t' ix d n y m m' d' m'' hop hdst hins htk hout
  simp only [Yb,beq_iff_eq,Nat.blt_eq,bne_iff_ne] at ho
  obtain ⟨⟨⟨⟨⟨⟨⟨⟨⟨⟨⟨⟨rfl,rfl⟩,rfl⟩,rfl⟩,hlt⟩,hn⟩,hm⟩,hnm⟩,hne⟩,o1⟩,o2⟩,o3⟩,o4⟩:=ho
  obtain ⟨d,rfl⟩: ∃d₀:Nat,d₀=d:=⟨d,rfl⟩
  obtain ⟨m'',rfl⟩: ∃d₀:Nat,d₀=m'':=⟨m'',rfl⟩
  obtain ⟨key,el,dk,u1,u2,u3⟩:=ZkK o3
  obtain ⟨inf,zv,z1,z2,z3⟩:=ZpX o4 u1
  unfold doOp at hd
  rw [hk,hins,htk,hout] at hd
  have e1:Zbl e [m''] (.k m'')=e.get m'':=by simp [Zbl]
  simp only [Yp,List.map_nil,ZaI,e1,Zkj o2,ZqM hnm] at hd
  unfold Zkv at hd
  split at hd
  ·cases hd
  ·rename_i ds heq
   split at heq
   ·rename_i r k r' es heq2
    simp only [Yf,and_true] at heq2
    obtain ⟨q0,q2,q1⟩:=heq2
    have hev:Act.eval a (.tmp _)= .map (some (r.blk g)):=Zr2 h hn q0
    have hrep:=(h.key m'').tm hm
    rw [q1] at hrep
    obtain ⟨mes,clock,hv',hpr,how,hTb,hb,hsz,hes⟩:=hrep
    have hkr:RepP g.pr w (a.eval ix) k:=by
     have:=ZbL h o1 0
     rw [q2] at this
     exact this
    have hdO:d<OBJS:=Yq hlt h.nt
    have hds:d<a.tmps.size:=Yq hlt h.sz
    have fin: ∀(x:P) (v:Value),RepP g.pr w v x->(execOp a.eval o).run Pg w= .ok (.value v) w->e'=(((e.set m'' (e.get m'').plain).set d (one x)).set m'' (.a (.one (.map r' es))))->OpOut Pg o a w g e':=fun x v hx hr he=>by
     refine ⟨.value v,v,w,g,hr,.inl rfl,?_,Ext.refl _ _ _ _,rfl,rfl,rfl⟩
     rw [hdst]
     have hbig: ∀κ,κ∈[d]-> ¬BOX<=κ:=fun κ hm hb=>by have:=Zau;simp at hm;omega
     refine h.gen [d] (fun _=>True) (Ext.refl _ _ _ _) h.fr rfl rfl rfl (by rw [Zb6];exact h.df) Zd6 (fun k hk=>?_) (fun k hk _=>Zbb (by simpa using hk)) (fun _ _ _ _ b hb=>⟨hb,rfl,rfl⟩) (fun _=> .inl rfl) (fun _ _=>⟨rfl,rfl,rfl⟩)
      (fun _ _ _ _=>trivial) (fun _ _ _ _ _=>trivial) (fun k hk=>?_) (fun κ hm hκ=>absurd hκ (hbig κ hm)) (fun hm=>by simp at hm;omega) (fun κ hm hκ=>absurd hκ (hbig κ hm))
     ·simp at hk
      rw [he]
      by_cases hkn:k=m''
      ·subst hkn;rw [Env.get_set_same,q1]
      ·rw [Env.get_set_ne _ _ (Ne.symm hkn),Env.get_set_ne _ _ (Ne.symm hk),Env.get_set_ne _ _ (Ne.symm hkn)]
     ·simp at hk;subst hk
      refine .tmp hdO ?_
      rw [he,Env.get_set_ne _ _ hne,Env.get_set_same,Zbe hds]
      exact hx
    split at heq
    ·rename_i hpk
     obtain ⟨rfl,hpk⟩:=hpk
     have hd2:ZkI dk (ZuN k)=true:=by rw [hpk];exact u3
     have hrun: ∀q,Instr.findNow dk (a.eval ix) mes.toList 0=some q->(execOp a.eval o).run Pg w= .ok (.value (match q with|some (_,v)=>v|none=>zv)) w:=fun q hr=>by
      simp only [execOp,hop,hev]
      rw [Zaw]
      unfold Instr.lookup
      simp only [Sem.run_bind,run_underlying u1,Result.andThen_ok,Go.MapKept.run_getObj_map hb,Sem.run_pure,ZgX u2 u3,run_findKey u2 hr]
      cases q with
      | none=>simp [Zcs z1 z2]
      | some q=>simp
     split at heq
     ·rename_i j x hf
      have hfn:=ZfM hd2 hkr es mes.toList 0 _ (by simpa using hsz) (fun j k' x hj=>by simpa using hes j k' x hj) hf
      obtain ⟨en,_,g2,g3,g4,_⟩:=hfn
      simp only [Ye] at heq
      subst heq
      simp only [ZaA,Env.sets,Ye] at hd
      exact fin x en.val g4 (hrun _ g3) hd.symm
     ·rename_i hf
      have hfn:=ZfM hd2 hkr es mes.toList 0 _ (by simpa using hsz) (fun j k' x hj=>by simpa using hes j k' x hj) hf
      simp only [Ye] at heq
      subst heq
      simp only [ZaA,Env.sets,Ye] at hd
      have hz:=Zds z3 g w (0,0,0)
      exact fin z zv hz (hrun _ hfn) hd.symm
     ·cases heq
    ·cases heq
   ·cases heq
 ·cases ho
def Zpg (Pg:Program) (kk:Nat) (o:Oper) (s:SOp):Bool:=
 match o.op,o.dst,s.ins,s.takes,s.outs with
 | .mapUpdate t (.tmp t') kx vx,none,[.k n,y1,y2,.k m],[m'],[m'']=>t'==n && m'==m && m''==m && Nat.blt n OBJS && Nat.blt m OBJS && n !=m && Zcl kx y1 && Zcl vx y2 && Arg.isNot y1 m && Arg.isNot y2 m && Zqy Pg t kk
 | _,_,_,_,_=>false
def Zug (h:St g e a w) {o:Oper} {s:SOp} {kk:Nat} (hk:s.kind= .update kk) (ho:Zpg Pg kk o s=true) (hd:doOp F s e=some e'):OpOut Pg o a w g e':=by
 unfold Zpg at ho
 split at ho
 ·rename_i t t' kx vx n y1 y2 m m' m'' hop hdst hins htk hout
  simp only [Yb,beq_iff_eq,Nat.blt_eq,bne_iff_ne] at ho
  obtain ⟨⟨⟨⟨⟨⟨⟨⟨⟨⟨rfl,rfl⟩,rfl⟩,hn⟩,hm⟩,hnm⟩,o1⟩,o2⟩,o3⟩,o4⟩,o5⟩:=ho
  obtain ⟨m'',rfl⟩: ∃d₀:Nat,d₀=m'':=⟨m'',rfl⟩
  obtain ⟨key,el,dk,u1,u2,u3⟩:=ZkK o5
  unfold doOp at hd
  rw [hk,hins,htk,hout] at hd
  have e1:Zbl e [m''] (.k m'')=e.get m'':=by simp [Zbl]
  simp only [Yp,List.map_nil,ZaI,e1,Zkj o3,Zkj o4,ZqM hnm] at hd
  unfold Zkh at hd
  split at hd
  ·cases hd
  ·rename_i ds heq
   split at heq
   ·rename_i r k x r' es heq2
    simp only [Yf,and_true] at heq2
    obtain ⟨q0,q2,q3,q1⟩:=heq2
    have hev:Act.eval a (.tmp _)= .map (some (r.blk g)):=Zr2 h hn q0
    have hrep:=(h.key m'').tm hm
    rw [q1] at hrep
    obtain ⟨mes,clock,hv',hpr,how,hTb,hb,hsz,hes⟩:=hrep
    have hkr:RepP g.pr w (a.eval kx) k:=by
     have:=ZbL h o1 0
     rw [q2] at this
     exact this
    have hxr:RepP g.pr w (a.eval vx) x:=by
     have:=ZbL h o2 0
     rw [q3] at this
     exact this
    split at heq
    ·rename_i hpk
     obtain ⟨rfl,hpk⟩:=hpk
     obtain ⟨b,hbe⟩: ∃b,b=r.blk g:=⟨_,rfl⟩
     rw [<-hbe] at hev hv' hpr how hTb hb
     have hblt:=ZaB hb
     have fin: ∀(es':List (P×P)) (mes':Array MapEntry) (clock':Nat),mes'.size=es'.length->
       (∀(i:Nat) k' x',es'[i]? =some (k',x')-> ∃e,mes'[i]? =some e/\RepP g.pr w e.key k'/\RepP g.pr w e.val x')->
       (execOp a.eval o).run Pg w= .ok .skip {w with heap:=w.heap.setIfInBounds b (.map mes' clock')}->e'=((e.set m'' (e.get m'').plain).set m'' (.a (.one (.map r es'))))->OpOut Pg o a w g e':=fun es' mes' clock' hsz' hes' hr he=>by
      let w':World:={w with heap:=w.heap.setIfInBounds b (.map mes' clock')}
      obtain ⟨hw1,hw2⟩:=heap_set (o':=Obj.map mes' clock') hb
      have hext:Ext g.T g.pr g.ow w w' g.pr g.ow:=by
       refine ⟨rfl,rfl,rfl,by simp [w'],fun b' o' ho'=>?_,fun _ _=>Yc _,fun _ _ h _=>⟨rfl,h⟩,fun b' _ ho' _=>hw2 b' (fun hh=>by rw [hh,how] at ho';cases ho')⟩
       by_cases hbb:b'=b
       ·subst hbb
        rw [hb] at ho';cases ho'
        exact ⟨_,hw1,_,_,rfl⟩
       ·exact ⟨o',(hw2 b' hbb).trans ho',SameObj.refl _ _⟩
      have hbig: ∀κ,κ∈[m'']-> ¬BOX<=κ:=fun κ hm hb=>by have:=Zau;simp at hm;omega
      refine ⟨.skip,undef,w',g,hr,.inr ⟨rfl,rfl⟩,?_,hext,rfl,rfl,rfl⟩
      rw [hdst]
      refine h.gen [m''] (fun b'=>b'≠b) hext (fun b' hb'=>h.fr b' (by simpa [w'] using hb')) rfl rfl rfl h.df rfl (fun k hk=>?_) (fun _ _ _=>rfl) (fun k hk c i b' hb'=>?_) (fun _=> .inl rfl) (fun b' hb'=>⟨hw2 b' hb',rfl,rfl⟩)
       (fun κ _ hκ hl hh=>?_) (fun _ os i ho' hi hh=>?_) (fun k hk=>?_) (fun κ hm hκ=>absurd hκ (hbig κ hm)) (fun hm=>by simp at hm;omega) (fun κ hm hκ=>absurd hκ (hbig κ hm))
      ·simp at hk
       rw [he,Env.get_set_ne _ _ (Ne.symm hk),Env.get_set_ne _ _ (Ne.symm hk)]
      ·simp at hk
       refine ⟨hb',rfl,hw2 b' fun hh=>?_⟩
       rw [hh,how] at hb'
       simp only [Ye,YL] at hb'
       exact hk hb'.1.symm
      ·have:=(Zb7 h hκ hl).2.2
       rw [hh,how] at this;cases this
      ·have:=(Ze2 h ho' hi).2.2
       rw [hh,how] at this;cases this
      ·simp at hk;subst hk
       refine .tmp hm ?_
       rw [he,Env.get_set_same]
       show RepC g w' (k,0,0) (a.tmps.getD k undef) (.map r es')
       rw [hv']
       refine ⟨mes',clock',by rw [<-hbe],by rw [<-hbe];exact hpr,by rw [<-hbe];exact how,by rw [<-hbe];exact hTb,by rw [<-hbe];exact hw1,hsz',fun i k' x' hi=>?_⟩
       obtain ⟨e,h1,h2,h3⟩:=hes' i k' x' hi
       exact ⟨e,h1,h2.mono hext.keeps (fun _=>Yc _),h3.mono hext.keeps (fun _=>Yc _)⟩
     have hd2:ZkI dk (ZuN k)=true:=by rw [hpk];exact u3
     split at heq
     ·rename_i j x0 hf
      have hfn:=ZfM hd2 hkr es mes.toList 0 _ (by simpa using hsz) (fun j k' x hj=>by simpa using hes j k' x hj) hf
      obtain ⟨en,_,g2,g3,_,g5⟩:=hfn
      simp only [Nat.sub_zero,Array.getElem?_toList] at g2
      simp only [Ye] at heq
      subst heq
      simp only [ZaA,Env.sets,Ye] at hd
      have hkeep:(Instr.keyThatStays en.key (a.eval kx)).run Pg w= .ok (a.eval kx) w:=by
       have:Instr.sameBits 10000 en.key (a.eval kx)=true:=Zl7 g5 _
       simp [Instr.keyThatStays,this]
      refine fin _ (mes.modify j fun e=>{e with key:=a.eval kx,val:=a.eval vx}) clock (by simp [hsz]) (fun i k' x' hi=>?_) ?_ hd.symm
      ·rw [List.getElem?_set] at hi
       have hjl:j<mes.size:=by
        rcases Yt j mes.size with hh|hh
        ·exact hh
        ·rw [Array.getElem?_eq_none hh] at g2;cases g2
       by_cases hij:j=i
       ·subst hij
        simp only [if_true] at hi
        split at hi
        ·simp only [Ye,YL] at hi
         obtain ⟨rfl,rfl⟩:=hi
         exact ⟨{en with key:=a.eval kx,val:=a.eval vx},by rw [Array.getElem?_modify,if_pos rfl,g2];rfl,hkr,hxr⟩
        ·cases hi
       ·rw [if_neg hij] at hi
        obtain ⟨e,h1,h2⟩:=hes i k' x' hi
        exact ⟨e,by rw [Array.getElem?_modify,if_neg hij];exact h1,h2⟩
      ·simp only [execOp,hop,hev,Instr.mapUpdate,Sem.run_bind,run_underlying u1,Result.andThen_ok,Go.MapKept.run_getObj_map hb,ZgX u2 u3,run_findKey u2 g3,g2,YM,Option.getD_some,hkeep,run_setObj_map _ hb,Sem.run_pure]
     ·rename_i hf
      have hfn:=ZfM hd2 hkr es mes.toList 0 _ (by simpa using hsz) (fun j k' x hj=>by simpa using hes j k' x hj) hf
      simp only [Ye] at heq
      subst heq
      simp only [ZaA,Env.sets,Ye] at hd
      refine fin _ (mes.push {key:=a.eval kx,val:=a.eval vx,born:=clock}) (clock+1) (by simp [hsz]) (fun i k' x' hi=>?_) ?_ hd.symm
      ·rcases Nat.lt_trichotomy i es.length with hh|hh|hh
       ·rw [Yx hh] at hi
        obtain ⟨e,h1,h2⟩:=hes i k' x' hi
        exact ⟨e,by rw [Array.getElem?_push,if_neg Zo];exact h1,h2⟩
       ·subst hh
        rw [Yo (Yc _),Nat.sub_self] at hi
        simp only [Yi,Ye,YL] at hi
        obtain ⟨rfl,rfl⟩:=hi
        exact ⟨_,by rw [Array.getElem?_push,if_pos hsz.symm],hkr,hxr⟩
       ·rw [List.getElem?_eq_none Ze] at hi;cases hi
      ·simp only [execOp,hop,hev,Instr.mapUpdate,Sem.run_bind,run_underlying u1,Result.andThen_ok,Go.MapKept.run_getObj_map hb,ZgX u2 u3,run_findKey u2 hfn,run_setObj_map _ hb,Sem.run_pure]
     ·cases heq
    ·cases heq
   ·cases heq
 ·cases ho
end each
end Go.Am
end
section
namespace Go.Am
variable [WI]
variable {Pg:Program}
def C.quiet:C->Bool
 | .ref _=>false
 | .clo _ [] []=>true
 | .clo _ _ _=>false
 | .own _ _ _=>false
 | .mptr _=>false
 | .map _ _=>false
 | _=>true
def C.quiet_ment {c:C} (h:c.quiet=true) (κ:Nat):c.ment κ=false:=by
 cases c with
 | ref r=>cases h
 | own r s n=>cases h
 | mptr r=>cases h
 | map r es=>cases h
 | clo f p q=>cases p<;>cases q<;>first|rfl|cases h
 | _=>rfl
def Zqr {cs:List C} (h:cs.all C.quiet=true) (κ:Nat):cs.any (C.ment κ)=false:=by
 rw [List.any_eq_false]
 intro c hc
 rw [C.quiet_ment (List.all_eq_true.1 h c hc) κ];simp
def K.quiet:K->Bool
 | .alloc _ z=>z.all C.quiet
 | .build z _=>z.all C.quiet
 | _=>true
def SOp.quiet (s:SOp):Bool:=s.kind.quiet && s.ins.all fun| .c c=>c.quiet|_=>true
def ZmS {cs:List C} {κ n:Nat} (h:cs.any (C.ment κ)=false):(cs.take n).any (C.ment κ)=false:=by
 rw [List.any_eq_false] at*;exact fun c hc=>h c (List.mem_of_mem_take hc)
def ZmW {cs:List C} {κ n:Nat} (h:cs.any (C.ment κ)=false):(cs.drop n).any (C.ment κ)=false:=by
 rw [List.any_eq_false] at*;exact fun c hc=>h c (List.mem_of_mem_drop hc)
def ZtH {cs:List C} {κ:Nat} (h:cs.any (C.ment κ)=false):(cs.map C.plain).any (C.ment κ)=false:=by
 rw [List.any_eq_false] at*
 intro c hc
 obtain ⟨y,hy,rfl⟩:=List.mem_map.1 hc
 rw [plain_ment];exact h y hy
def Zwv {cs xs:List C} {off n κ:Nat} (h:cut cs off n=some xs) (hm:cs.any (C.ment κ)=false):xs.any (C.ment κ)=false:=by
 unfold cut at h
 split at h
 ·cases h;exact ZmS (ZmW hm)
 ·cases h
def Zqa {cs xs ys:List C} {off κ:Nat} (h:put cs off xs=some ys) (hm:cs.any (C.ment κ)=false) (hx:xs.any (C.ment κ)=false):ys.any (C.ment κ)=false:=by
 obtain ⟨_,rfl⟩:=ZgW h
 rw [List.any_append,List.any_append,ZmS hm,ZmW hm,hx];rfl
def Zn7 {n:Option Nat} {cs:List C} {x:A} {κ:Nat} (h:ZsS n cs=some x) (hm:cs.any (C.ment κ)=false):x.ment κ=false:=by
 unfold ZsS at h
 split at h
 ·cases h;exact hm
 ·cases h
 ·cases h;exact hm
def Ze9 {n:Option Nat} {cs:List C} {off κ:Nat} {x:A} (h:ZbK n cs off=some x) (hm:cs.any (C.ment κ)=false):x.ment κ=false:=by
 unfold ZbK at h
 split at h
 ·rename_i xs hx;exact Zn7 h (Zwv hx hm)
 ·cases h
def ZiF {n:Option Nat} {cs:List C} {off κ:Nat} (hm:cs.any (C.ment κ)=false):(ZbQ n cs off).any (C.ment κ)=false:=by
 unfold ZbQ
 rw [List.any_append,List.any_append,ZmS hm,ZmW hm,ZtH (ZmS (ZmW hm))];rfl
def ZmD {κ:Nat}: ∀{offs:List (Nat×Nat)} {ds:List D} {z cs:List C},Ze4 z offs ds=some cs->z.any (C.ment κ)=false->(∀d∈ds,d.ment κ=false)->cs.any (C.ment κ)=false
 | [],[],z,cs,h,hz,_=>by simp only [Ze4,Ye] at h;subst h;exact hz
 | (o,n)::os,.a x::r,z,cs,h,hz,hd=>by
   simp only [Ze4] at h
   split at h
   · split at h
     · rename_i z' hz'
       exact ZmD h (Zqa hz' hz (hd _ Yr)) fun d hd'=>hd d (Yk _ hd')
     · cases h
   · cases h
 | [],_::_,_,_,h,_,_=>by simp [Ze4] at h
 | _::_,[],_,_,h,_,_=>by simp [Ze4] at h
 | _::_,.undef::_,_,_,h,_,_=>by simp [Ze4] at h
 | _::_,.tup _::_,_,_,h,_,_=>by simp [Ze4] at h
 | _::_,.objs _::_,_,_,h,_,_=>by simp [Ze4] at h
def ZjP {os:List (List C)} {k κ:Nat} {cs:List C} (h:os.any (fun cs=>cs.any (C.ment κ))=false) (hc:cs.any (C.ment κ)=false):(os.set k cs).any (fun cs=>cs.any (C.ment κ))=false:=by
 rw [List.any_eq_false] at h⊢
 intro c hm
 rcases List.mem_or_eq_of_mem_set hm with hm|rfl
 ·exact h c hm
 ·rw [hc];simp
def ZgO {os:List (List C)} {k κ:Nat} {cs:List C} (h:os.any (fun cs=>cs.any (C.ment κ))=false) (hc:os[k]? =some cs):cs.any (C.ment κ)=false:=by
 rw [List.any_eq_false] at h
 simpa using h cs (YA hc)
def Zmz {κ:Nat}: ∀{ds:List D} {rs:List R},Zfq ds=some rs->(∀d∈ds,d.ment κ=false)-> ∀r∈rs,(r.own && r.k==κ)=false
 | [],rs,h,_,r,hr=>by simp [Zfq] at h;subst h;cases hr
 | .a (.one (.ref q))::rest,rs,h,hd,r,hr=>by
   simp only [Zfq] at h
   split at h
   · rename_i rs' h'
     cases h
     rcases List.mem_cons.1 hr with rfl|hr
     · have:=hd _ Yr
       simpa [D.ment,A.ment,A.cells,C.ment] using this
     · exact Zmz h' (fun d hd'=>hd d (Yk _ hd')) r hr
   · cases h
 | .a (.one (.p _))::_,_,h,_,_,_=>by simp [Zfq] at h
 | .a (.one (.tip _ _))::_,_,h,_,_,_=>by simp [Zfq] at h
 | .a (.one (.view _ _))::_,_,h,_,_,_=>by simp [Zfq] at h
 | .a (.one (.clo _ _ _))::_,_,h,_,_,_=>by simp [Zfq] at h
 | .a (.one .nilp)::_,_,h,_,_,_=>by simp [Zfq] at h
 | .a (.one (.uniq _ _))::_,_,h,_,_,_=>by simp [Zfq] at h
 | .a (.one (.own _ _ _))::_,_,h,_,_,_=>by simp [Zfq] at h
 | .a (.one .junk)::_,_,h,_,_,_=>by simp [Zfq] at h
 | .a (.agg _)::_,_,h,_,_,_=>by simp [Zfq] at h
 | .undef::_,_,h,_,_,_=>by simp [Zfq] at h
 | .tup _::_,_,h,_,_,_=>by simp [Zfq] at h
 | .objs _::_,_,h,_,_,_=>by simp [Zfq] at h
def mem1 {P:D->Prop} {x:D} (h:P x): ∀d∈[x],P d:=by intro d hd;simp at hd;subst hd;exact h
def mem2 {P:D->Prop} {x y:D} (h:P x) (h':P y): ∀d∈[x,y],P d:=by intro d hd;simp at hd;rcases hd with rfl|rfl<;>assumption
def Ztm {F:ZaQ} {k:K} {ds ds':List D} {κ:Nat} (h:ZaI F k ds=some ds') (hcall:k.isCall=false) (hq:k.quiet=true) (hcr:k.creates≠some κ) (hd: ∀d∈ds,d.ment κ=false):
   ∀d∈ds',d.ment κ=false:=by
 cases k with
 | call=>cases hcall
 | callv=>cases hcall
 | mov=>
   simp only [ZaI] at h;unfold ZrX at h;split at h
   · cases h;exact hd
   · cases h
 | pick=>
   simp only [ZaI] at h;unfold ZqZ at h;split at h
   · rename_i b x y
     cases h
     refine mem1 ?_
     cases b
     · exact hd y Zs
     · exact hd x Zs
   · cases h
 | alloc κ' z=>
   simp only [ZaI] at h;unfold ZnH at h;split at h
   · cases h
     refine mem2 ?_ (Zqr hq κ)
     simp only [D.ment,A.ment,A.cells,C.ment,List.any_cons,List.any_nil,Bool.true_and,Bool.or_false,beq_eq_false_iff_ne]
     exact fun hh=>hcr (by rw [hh];rfl)
   · cases h
 | box κ'=>
   simp only [ZaI] at h;unfold Ztb at h;split at h
   · rename_i x
     cases h
     refine mem2 ?_ (hd (.a x) Zs)
     simp only [D.ment,A.ment,A.cells,C.ment,List.any_cons,List.any_nil,Bool.true_and,Bool.or_false,beq_eq_false_iff_ne]
     exact fun hh=>hcr (by rw [hh];rfl)
   · cases h
 | build z offs=>
   simp only [ZaI] at h;unfold Zi4 at h;split at h
   · rename_i cs hcs;cases h;exact mem1 (ZmD hcs (Zqr hq κ) hd)
   · cases h
 | load n=>
   simp only [ZaI] at h;unfold Zof at h;split at h
   · split at h
     · split at h
       · rename_i xs hxs x hx
         cases h
         refine mem1 (Zn7 hx ?_)
         rw [List.any_map,List.any_eq_false]
         intro p _;simp [C.ment]
       · cases h
     · cases h
   · cases h
 | loadB κ' n=>
   simp only [ZaI] at h;unfold ZkR at h;split at h
   · rename_i κ'' off cs
     split at h
     · split at h
       · rename_i x hx
         cases h
         refine mem1 ?_
         simp only [D.ment]
         rw [A.plain_ment]
         exact Ze9 hx (hd (.a (.agg cs)) Zs)
       · cases h
     · cases h
   · cases h
 | loadBT κ' n=>
   simp only [ZaI] at h;unfold ZiZ at h;split at h
   · rename_i κ'' off cs
     split at h
     · split at h
       · rename_i x hx
         cases h
         have:=hd (.a (.agg cs)) Zs
         exact mem2 (Ze9 hx this) (ZiF this)
       · cases h
     · cases h
   · cases h
 | loadO n=>
   simp only [ZaI] at h;unfold Zk6 at h;split at h
   · rename_i k off os
     split at h
     · rename_i cs hcs
       split at h
       · rename_i x hx
         cases h
         refine mem1 ?_
         simp only [D.ment]
         rw [A.plain_ment]
         exact Ze9 hx (ZgO (hd (.objs os) Zs) hcs)
       · cases h
     · cases h
   · cases h
 | loadOT n=>
   simp only [ZaI] at h;unfold Zky at h;split at h
   · rename_i k off os
     split at h
     · rename_i cs hcs
       split at h
       · rename_i x hx
         cases h
         have h0:=hd (.objs os) Zs
         have:=ZgO h0 hcs
         exact mem2 (Ze9 hx this) (ZjP h0 (ZiF this))
       · cases h
     · cases h
   · cases h
 | storeB κ' n=>
   simp only [ZaI] at h;unfold ZiJ at h;split at h
   · rename_i κ'' off x cs
     split at h
     · split at h
       · rename_i cs' hcs'
         cases h
         exact mem1 (Zqa hcs' (hd (.a (.agg cs)) Zs) (hd (.a x) Zs))
       · cases h
     · cases h
   · cases h
 | storeO n=>
   simp only [ZaI] at h;unfold Zit at h;split at h
   · rename_i k off x os
     split at h
     · split at h
       · rename_i cs hcs
         split at h
         · rename_i cs' hcs'
           cases h
           have h0:=hd (.objs os) Zs
           exact mem1 (ZjP h0 (Zqa hcs' (ZgO h0 hcs) (hd (.a x) Zs)))
         · cases h
       · cases h
     · cases h
   · cases h
 | nilCheck=>
   simp only [ZaI] at h;unfold Zhj at h;split at h
   · cases h;exact hd
   · cases h;exact hd
   · cases h
 | fieldAddr o=>
   simp only [ZaI] at h;unfold Zgl at h;split at h
   · rename_i r
     cases h
     have:=hd (.a (.one (.ref r))) Zs
     exact mem1 (by simpa [D.ment,A.ment,A.cells,C.ment] using this)
   · cases h;exact mem1 rfl
   · cases h
 | indexAddr s=>
   simp only [ZaI] at h;unfold ZeU at h;split at h
   · rename_i r s' m n
     split at h
     · cases h
       have:=hd (.a (.one (.own r s' m))) Zs
       exact mem1 (by simpa [D.ment,A.ment,A.cells,C.ment] using this)
     · cases h
   · split at h
     · split at h
       · split at h
         · cases h;exact mem1 rfl
         · cases h
       · cases h
     · cases h
   · cases h
 | indexS=>
   simp only [ZaI] at h;unfold ZiQ at h;split at h
   · split at h
     · split at h
       · cases h;exact mem1 rfl
       · cases h
     · cases h
   · cases h
 | bin op=>
   simp only [ZaI] at h;unfold ZrW at h;split at h
   · split at h
     · cases h;exact mem1 rfl
     · cases h
   · cases h
 | binB op=>
   simp only [ZaI] at h;unfold Zqu at h;split at h
   · split at h
     · cases h;exact mem1 rfl
     · cases h;exact mem1 rfl
     · cases h
   · cases h
 | neqS=>
   simp only [ZaI] at h;unfold ZHt at h;split at h
   · split at h
     · cases h;exact mem1 rfl
     · cases h
   · cases h
 | not=>
   simp only [ZaI] at h;unfold Zuy at h;split at h
   · cases h;exact mem1 rfl
   · cases h
 | neg=>
   simp only [ZaI] at h;unfold ZuC at h;split at h
   · cases h;exact mem1 rfl
   · cases h
 | conv k=>
   simp only [ZaI] at h;unfold ZqP at h;split at h
   · cases h;exact mem1 rfl
   · cases h
 | convBS=>
   simp only [ZaI] at h;unfold ZiX at h;split at h
   · split at h
     · split at h
       · cases h;exact mem1 rfl
       · cases h
     · cases h
   · cases h
 | buildSlice s=>
   simp only [ZaI] at h;unfold ZdT at h;split at h
   · split at h
     · cases h;exact mem1 rfl
     · cases h
   · cases h
 | append s=>
   simp only [ZaI] at h;unfold Zg6 at h;split at h
   · split at h
     · split at h
       · cases h;exact mem1 rfl
       · cases h
     · cases h
   · cases h
 | len=>
   simp only [ZaI] at h;unfold ZtS at h;split at h
   · cases h;exact mem1 rfl
   · cases h;exact mem1 rfl
   · split at h
     · cases h;exact mem1 rfl
     · cases h
   · cases h
 | lenS=>
   simp only [ZaI] at h;unfold ZqI at h;split at h
   · cases h;exact mem1 rfl
   · cases h
 | min2=>
   simp only [ZaI] at h;unfold Zst at h;split at h
   · split at h
     · cases h;exact mem1 rfl
     · cases h
   · cases h
 | max2=>
   simp only [ZaI] at h;unfold Zsx at h;split at h
   · split at h
     · cases h;exact mem1 rfl
     · cases h
   · cases h
 | slice s lo hi mx=>
   simp only [ZaI] at h;unfold Zh5 at h;split at h
   · split at h
     · split at h
       · split at h
         · split at h
           · cases h
           · cases h;exact mem1 rfl
         · split at h
           · split at h
             · cases h;exact mem1 rfl
             · cases h;exact mem1 rfl
           · cases h
         · cases h
       · cases h
     · cases h
   · cases h
 | sliceS lo hi=>
   simp only [ZaI] at h;unfold Zku at h;split at h
   · split at h
     · cases h;exact mem1 rfl
     · cases h
   · cases h
 | fieldV off=>
   simp only [ZaI] at h;unfold ZFJ at h;split at h
   · split at h
     · cases h;exact mem1 rfl
     · cases h
   · cases h
 | extract i=>
   simp only [ZaI] at h;unfold ZfI at h;split at h
   · rename_i xs
     split at h
     · rename_i x hx
       cases h
       refine mem1 ?_
       have:=hd (.tup xs) Zs
       simp only [D.ment,List.any_eq_false] at this
       have:=this x (YA hx)
       simpa [D.ment] using this
     · cases h
   · cases h
 | makeFunc f first=>
   simp only [ZaI] at h;unfold Zhf at h;split at h
   · rename_i rs hrs
     cases h
     refine mem1 ?_
     have:=Zmz hrs hd
     simp only [D.ment,A.ment,A.cells,C.ment,List.any_cons,List.any_nil,Bool.or_false,Bool.or_eq_false_iff,List.any_eq_false]
     refine ⟨fun r hr=>?_,fun r hr=>?_⟩
     · simpa using this r (List.mem_of_mem_take hr)
     · simpa using this r (List.mem_of_mem_drop hr)
   · cases h
 | makeSlice s=>
   simp only [ZaI] at h;unfold Zgn at h;split at h
   · split at h
     · cases h;exact mem1 rfl
     · cases h
   · cases h
 | makeSliceZ s z=>
   simp only [ZaI] at h;unfold Ze6 at h;split at h
   · split at h
     · cases h;exact mem1 rfl
     · cases h
   · cases h
 | sliceU s=>
   simp only [ZaI] at h;unfold Zko at h;split at h
   · split at h
     · cases h;exact mem1 rfl
     · cases h
   · cases h
 | appendU s=>
   simp only [ZaI] at h;unfold ZiL at h;split at h
   · split at h
     · split at h
       · cases h;exact mem1 rfl
       · cases h
     · cases h
   · cases h
 | makeMap κ'=>
   simp only [ZaI] at h;unfold Ziu at h;split at h
   · cases h
     refine mem1 ?_
     simp only [D.ment,A.ment,A.cells,C.ment,List.any_cons,List.any_nil,Bool.or_false,Bool.true_and,beq_eq_false_iff_ne,ne_eq]
     intro hh;subst hh;exact hcr rfl
   · cases h
 | lookup kk z=>
   simp only [ZaI] at h;unfold Zkv at h;split at h
   · have hm:=hd _ (Yk _ (Yk _ Yr))
     split at h
     · split at h
       · cases h;exact mem2 rfl hm
       · cases h;exact mem2 rfl hm
       · cases h
     · cases h
   · cases h
 | update kk=>
   simp only [ZaI] at h;unfold Zkh at h;split at h
   · have hm:=hd _ (Yk _ (Yk _ (Yk _ Yr)))
     split at h
     · split at h
       · cases h;exact mem1 hm
       · cases h;exact mem1 hm
       · cases h
     · cases h
   · cases h
 | fail=>simp [ZaI] at h
def SOp.restOK (s:SOp):Bool:=
 match s.kind with
 | .call _ pass own na=>Zq6 (s.ins.drop na) ((if pass then [.k OBJS] else [])++own.map .k) && own.all (fun κ=>s.takes.elem κ) && (!pass||s.takes.elem OBJS)
 | .callv pass own na=>Zq6 (s.ins.drop (na+1)) ((if pass then [.k OBJS] else [])++own.map .k) && own.all (fun κ=>s.takes.elem κ) && (!pass||s.takes.elem OBJS)
 | _=>true
def Zml {m:Option Nat} {own:List Nat} {κ:Nat} (hκ:κ∉own) {r r':R} (h:R.up m own r=some r'):(r'.own && r'.k==κ)=false:=by
 unfold R.up at h
 split at h
 · cases h
 · rename_i ho
   split at h
   · cases h;simp [ho]
   · cases hq:own[r.k-m.getD 0]? with
     | none=>rw [hq] at h;cases h
     | some q=>
       rw [hq] at h
       cases h
       simp only [Bool.true_and,beq_eq_false_iff_ne]
       rintro rfl
       exact hκ (YA hq)
def ZpK {φ:R->Option R} {p:R->Bool} (hp: ∀r r',φ r=some r'->p r'=false): ∀{l l':List R},l.mapM φ=some l'->l'.any p=false
 | [],l',h=>by simp at h;subst h;rfl
 | r::l,l',h=>by
   rw [List.mapM_cons] at h
   cases h1:φ r with
   | none=>rw [h1] at h;cases h
   | some x=>
     rw [h1] at h
     cases h2:l.mapM φ with
     | none=>rw [h2] at h;cases h
     | some y=>
       rw [h2] at h
       have:x::y=l':=by simpa using h
       subst this
       rw [List.any_cons,hp r x h1,ZpK hp h2];rfl
def ZqX {m:Option Nat} {own:List Nat} {κ:Nat} (hκ:κ∉own) {c c':C} (h:c.mapR (R.up m own)=some c'):c'.ment κ=false:=by
 cases c with
 | ref r=>
   simp only [C.mapR] at h
   cases h1:R.up m own r with
   | none=>rw [h1] at h;cases h
   | some q=>rw [h1] at h;cases h;exact Zml hκ h1
 | clo f p q=>
   simp only [C.mapR] at h
   split at h
   · rename_i x y hx hy
     cases h
     simp only [C.ment,ZpK (fun r r'=>Zml hκ) hx,ZpK (fun r r'=>Zml hκ) hy,Bool.or_false]
   · cases h
 | own r s n=>
   simp only [C.mapR] at h
   split at h
   · rename_i q h1;cases h;exact Zml hκ h1
   · cases h;rfl
 | mptr r=>
   simp only [C.mapR] at h
   split at h
   · rename_i q h1;cases h;exact Zml hκ h1
   · cases h;rfl
 | map r es=>
   simp only [C.mapR] at h
   split at h
   · rename_i q h1;cases h;exact Zml hκ h1
   · cases h;rfl
 | _=>cases h;rfl
def Zos {m:Option Nat} {own:List Nat} {κ:Nat} (hκ:κ∉own) {cs cs':List C} (h:Zl9 (R.up m own) cs=some cs'):cs'.any (C.ment κ)=false:=by
 rw [List.any_eq_false]
 intro c hc
 obtain ⟨i,hi,rfl⟩:=YD hc
 obtain ⟨y,_,hy⟩:=(Zhe h).2 i _ (Ya hi)
 rw [ZqX hκ hy];simp
def Zuj {m:Option Nat} {own:List Nat} {κ:Nat} (hκ:κ∉own) {x x':A} (h:x.mapR (R.up m own)=some x'):x'.ment κ=false:=by
 cases x with
 | one c=>
   simp only [A.mapR] at h
   cases h1:c.mapR (R.up m own) with
   | none=>rw [h1] at h;cases h
   | some q=>
     rw [h1] at h;cases h
     simp [A.ment,A.cells,ZqX hκ h1]
 | agg cs=>
   simp only [A.mapR] at h
   cases h1:Zl9 (R.up m own) cs with
   | none=>rw [h1] at h;cases h
   | some q=>
     rw [h1] at h;cases h
     exact Zos hκ h1
def Zj5 {F:ZaQ} {f:Nat} {pass:Bool} {own:List Nat} {args:List A} {rest ds:List D} (h:ZcU F f pass own args rest=some ds) {κ:Nat} (hκ:κ∉own): ∀d∈ds,d.ment κ=false:=by
 obtain ⟨os,bs,css,xs,os',rs,os'',_,_,_,_,_,hback⟩:=ZgJ h
 obtain ⟨_,rs',os₂,hrs',hos₂,rfl⟩:=ZjY hback
 have hA: ∀x∈rs',x.ment κ=false:=fun x hx=>by
   obtain ⟨i,hi,rfl⟩:=YD hx
   obtain ⟨y,_,hy⟩:=(Zip hrs').2 i _ (Ya hi)
   exact Zuj hκ hy
 have hO: ∀cs∈os₂,cs.any (C.ment κ)=false:=fun cs hcs=>by
   obtain ⟨i,hi,rfl⟩:=YD hcs
   obtain ⟨y,_,hy⟩:=(Zkr hos₂).2 i _ (Ya hi)
   exact Zos hκ hy
 intro d hd
 rcases List.mem_cons.1 hd with rfl|hd
 · unfold resD
   split
   · rename_i x;exact hA x Zs
   · simp only [D.ment,List.any_eq_false]
     intro x hx;rw [hA x hx];simp
 · rcases List.mem_append.1 hd with hd|hd
   · cases pass with
     | false=>cases hd
     | true=>
       simp at hd;subst hd
       simp only [D.ment,List.any_eq_false]
       intro cs hcs;rw [hO cs (List.mem_of_mem_take hcs)];simp
   · obtain ⟨cs,hcs,rfl⟩:=List.mem_map.1 hd
     exact hO cs (List.mem_of_mem_drop hcs)
def ZoS: ∀{ks:List Nat} {ds:List D} {e e':Env},e.sets ks ds=some e'-> ∀k,(k∉ks/\e'.get k=e.get k)∨ ∃d∈ds,e'.get k=d
 | [],[],e,e',h,k=>by simp [Env.sets] at h;subst h;exact .inl ⟨by simp,rfl⟩
 | x::ks,d::ds,e,e',h,k=>by
   simp only [Env.sets] at h
   rcases ZoS h k with ⟨h1,h2⟩|⟨d',h1,h2⟩
   · by_cases hx:x=k
     · subst hx;rw [Env.get_set_same] at h2;exact .inr ⟨d,by simp,h2⟩
     · rw [Env.get_set_ne _ _ hx] at h2;exact .inl ⟨by simp [h1,Ne.symm hx],h2⟩
   · exact .inr ⟨d',Yk _ h1,h2⟩
 | [],_::_,_,_,h,_=>by simp [Env.sets] at h
 | _::_,[],_,_,h,_=>by simp [Env.sets] at h
def ZhM: ∀{ks:List Nat} {ds:List D} {e e':Env},e.sets ks ds=some e'-> ∀{k},k∉ks->e'.get k=e.get k
 | [],[],e,e',h,k,_=>by simp [Env.sets] at h;subst h;rfl
 | x::ks,d::ds,e,e',h,k,hk=>by
   simp only [Env.sets] at h
   rw [Yv,not_or] at hk
   rw [ZhM h hk.2,Env.get_set_ne _ _ (Ne.symm hk.1)]
 | [],_::_,_,_,h,_,_=>by simp [Env.sets] at h
 | _::_,[],_,_,h,_,_=>by simp [Env.sets] at h
def Zs5 {e:Env} {κ:Nat} (hno:ZlQ e κ) {s:SOp} (hq:s.quiet=true): ∀d∈s.ins.map (Zbl e s.takes),d.ment κ=false:=by
 intro d hd
 obtain ⟨y,hy,rfl⟩:=List.mem_map.1 hd
 simp only [SOp.quiet,Yb] at hq
 cases y with
 | k m=>
   simp only [Zbl]
   split
   · exact hno.2 m
   · rw [D.plain_ment];exact hno.2 m
 | c c=>
   have:=List.all_eq_true.1 hq.2 _ hy
   simp only [Zbl,D.ment,A.ment,A.cells,List.any_cons,List.any_nil,Bool.or_false]
   exact C.quiet_ment this κ
def Zvw {pass:Bool} {own:List Nat} {rest:List Arg} {takes:List Nat} {e:Env} {κ:Nat} (hno:ZlQ e κ) (hr:rest=(if pass then [.k OBJS] else [])++own.map .k) (ht:own.all (fun κ=>takes.elem κ)=true) (ho:(!pass||takes.elem OBJS)=true)
  {F:ZaQ} {f:Nat} {args:List A} {ds:List D} (h:ZcU F f pass own args (rest.map (Zbl e takes))=some ds):κ∉own:=by
 obtain ⟨os,bs,css,xs,os',rs,os'',hsp,hbs,_⟩:=ZgJ h
 have hrd:rest.map (Zbl e takes)=(if pass then [e.get OBJS] else [])++own.map e.get:=by
  rw [hr,YB]
  congr 1
  ·cases hps:pass with
   | false=>rfl
   | true=>rw [hps] at ho;simp at ho;simp [Zbl,ho]
  ·rw [YK]
   refine YC fun κ hκ=>?_
   have:=List.all_eq_true.1 ht κ hκ
   simp only [Function.comp,Zbl]
   rw [if_pos this]
 rw [hrd] at hsp
 obtain ⟨rfl,_,_⟩:=ZnX hsp
 intro hm
 obtain ⟨i,hi,hik⟩:=YD hm
 obtain ⟨hl,hg⟩:=Zjz hbs
 rw [Yh] at hl
 have:=hg i _ (Ya Zo)
 rw [Yn,Ya hi,hik] at this
 simp only [YM,Ye,hno.1] at this
 cases this
def ZoJ {F:ZaQ} {s:SOp} {e e':Env} {κ:Nat} (hno:ZlQ e κ) (h:doOp F s e=some e') (hq:s.quiet=true) (hr:s.restOK=true) (hcr:s.kind.creates≠some κ) (hout:κ∉s.outs):ZlQ e' κ:=by
 unfold doOp at h
 split at h
 · cases h
 · rename_i ds hs
   have hm: ∀d∈ds,d.ment κ=false:=by
     have hargs:=Zs5 hno hq
     cases hk:s.kind with
     | call f pass own na=>
       rw [hk] at hs
       simp only [ZaI,Zj7] at hs
       simp only [SOp.restOK,hk,Yb] at hr
       split at hs
       · rw [<-List.map_drop] at hs
         exact Zj5 hs (Zvw hno (Zg7 hr.1.1) hr.1.2 hr.2 hs)
       · cases hs
     | callv pass own na=>
       rw [hk] at hs
       simp only [ZaI] at hs
       simp only [SOp.restOK,hk,Yb] at hr
       unfold Zju at hs
       split at hs
       · rename_i f first caps xs heq
         split at hs
         · have hd:xs.drop na=(s.ins.drop (na+1)).map (Zbl e s.takes):=by
             rw [List.map_drop,heq];rfl
           rw [hd] at hs
           exact Zj5 hs (Zvw hno (Zg7 hr.1.1) hr.1.2 hr.2 hs)
         · cases hs
       · cases hs
     | _=>
       refine Ztm hs (by rw [hk];rfl) ?_ hcr hargs
       simp only [SOp.quiet,Yb] at hq
       exact hq.1
   have key: ∀k,(ZaA e s.takes).get k=e.get k∨(ZaA e s.takes).get k=(e.get k).plain:=fun k=>(ZhS s.takes e k).imp id (·.2)
   refine ⟨?_,fun k=>?_⟩
   · rw [ZhM h hout]
     rcases key κ with h2|h2
     · rw [h2];exact hno.1
     · rw [h2,hno.1];rfl
   · rcases ZoS h k with ⟨_,h1⟩|⟨d,h1,h2⟩
     · rw [h1]
       rcases key k with h2|h2
       · rw [h2];exact hno.2 k
       · rw [h2,D.plain_ment];exact hno.2 k
     · rw [h2];exact hm d h1
end Go.Am
end
section
namespace Go.Am
variable [WI]
variable {Pg:Program} {F:ZaQ}
def Same (e e':Env):Prop:= ∀k,e.get k=e'.get k
def Same.refl (e:Env):Same e e:=fun _=>rfl
def Same.symm {e e':Env} (h:Same e e'):Same e' e:=fun k=>(h k).symm
def Same.trans {e e' e'':Env} (h:Same e e') (h':Same e' e''):Same e e'':=fun k=>(h k).trans (h' k)
def ZsA:List Arg->List Nat
 | []=>[]
 | .k n::r=>n::ZsA r
 | .c _::r=>ZsA r
def ZqA:Option (Nat×Bool)->List Nat
 | some (g,_)=>[g]
 | none=>[]
def SOp.reads (s:SOp):List Nat:=ZqA s.guard++(ZsA s.ins++s.takes)
def SOp.writes (s:SOp):List Nat:=s.takes++s.outs
def Zxc (xs ys:List Nat):Bool:=xs.all fun x=> !ys.elem x
def ZkZ {xs ys:List Nat} (h:Zxc xs ys=true) {k:Nat} (hx:k∈xs):k∉ys:=by
 have:=List.all_eq_true.1 h k hx
 simpa using this
def SOp.indep (s t:SOp):Bool:=Zxc s.writes t.reads && Zxc t.writes s.reads && Zxc s.writes t.writes
def Zr7 {l:List Arg} {n:Nat} (h:Arg.k n∈l):n∈ZsA l:=by
 induction l with
 | nil=>cases h
 | cons y r ih=>
   rcases List.mem_cons.1 h with rfl|h'
   · exact Yr
   · cases y with
     | k m=>exact Yk _ (ih h')
     | c c=>exact ih h'
def ZsV {e u₀:Env} {ins:List Arg} {takes:List Nat} (h: ∀k∈ZsA ins,e.get k=u₀.get k):ins.map (Zbl e takes)=ins.map (Zbl u₀ takes):=by
 refine YC fun y hy=>?_
 cases y with
 | k n=>simp only [Zbl,h n (Zr7 hy)]
 | c c=>rfl
def Zis: ∀(ks:List Nat) {e u₀:Env} {k:Nat},e.get k=u₀.get k->(ZaA e ks).get k=(ZaA u₀ ks).get k
 | [],_,_,_,h=>h
 | x::ks,e,u₀,k,h=>by
   simp only [ZaA]
   refine Zis ks ?_
   by_cases hx:x=k
   · subst hx;rw [Env.get_set_same,Env.get_set_same,h]
   · rw [Env.get_set_ne _ _ hx,Env.get_set_ne _ _ hx,h]
def Zoo: ∀{ks:List Nat} {ds:List D} {e u₀ e':Env},e.sets ks ds=some e'-> ∃u',u₀.sets ks ds=some u'/\ ∀k,e.get k=u₀.get k->e'.get k=u'.get k
 | [],[],e,u₀,e',h=>by simp [Env.sets] at h;subst h;exact ⟨u₀,rfl,fun _ h=>h⟩
 | x::ks,d::ds,e,u₀,e',h=>by
   simp only [Env.sets] at h
   obtain ⟨u',h1,h2⟩:=Zoo (u₀:=u₀.set x d) h
   refine ⟨u',h1,fun k hk=>h2 k ?_⟩
   by_cases hx:x=k
   · subst hx;rw [Env.get_set_same,Env.get_set_same]
   · rw [Env.get_set_ne _ _ hx,Env.get_set_ne _ _ hx,hk]
 | [],_::_,_,_,_,h=>by simp [Env.sets] at h
 | _::_,[],_,_,_,h=>by simp [Env.sets] at h
def Zoi {s:SOp} {e u₀ e':Env} (hr: ∀k∈s.reads,e.get k=u₀.get k) (h:doOp F s e=some e'): ∃u',doOp F s u₀=some u'/\ ∀k,e.get k=u₀.get k->e'.get k=u'.get k:=by
 have ha:=ZsV (takes:=s.takes) (fun k hk=>hr k (List.mem_append_right _ (List.mem_append_left _ hk)))
 unfold doOp at h⊢
 rw [ha] at h
 split at h
 ·cases h
 ·rename_i ds hs
  obtain ⟨u',h1,h2⟩:=Zoo (u₀:=ZaA u₀ s.takes) h
  exact ⟨u',h1,fun k hk=>h2 k (Zis _ hk)⟩
def ZkW {s:SOp} {e u₀:Env} {k:Nat} (h:e.get k=u₀.get k):(ZdW s e).get k=(ZdW s u₀).get k:=by
 unfold ZdW
 split
 ·rename_i x _ _ _
  by_cases hx:x=k
  ·subst hx;rw [Env.get_set_same,Env.get_set_same]
  ·rw [Env.get_set_ne _ _ hx,Env.get_set_ne _ _ hx,h]
 ·exact h
def ZkU {s:SOp} {e u₀ e':Env} (hr: ∀k∈s.reads,e.get k=u₀.get k) (h:ZaT F s e=some e'): ∃u',ZaT F s u₀=some u'/\ ∀k,e.get k=u₀.get k->e'.get k=u'.get k:=by
 unfold ZaT at h⊢
 split at h
 ·exact Zoi hr h
 ·rename_i gk want hg
  have hgk:e.get gk=u₀.get gk:=hr gk (by simp [SOp.reads,hg,ZqA])
  rw [hgk] at h
  split at h
  ·split at h
   ·rename_i hb;rw [if_pos hb];exact Zoi hr h
   ·rename_i hb;rw [if_neg hb];cases h;exact ⟨_,rfl,fun k hk=>ZkW hk⟩
  ·cases h;exact ⟨_,rfl,fun k hk=>ZkW hk⟩
  ·cases h
def ZoO {s:SOp} {e e':Env} (h:doOp F s e=some e') {k:Nat} (hk:k∉s.writes):e'.get k=e.get k:=by
 unfold doOp at h
 split at h
 ·cases h
 ·simp only [SOp.writes,Ys,not_or] at hk
  rw [ZhM h hk.2,ZeP hk.1]
def Zlt {s:SOp} {e:Env} {k:Nat} (hk:k∉s.writes):(ZdW s e).get k=e.get k:=by
 unfold ZdW
 split
 ·rename_i x _ _ ho
  refine Env.get_set_ne _ _ fun hh=>hk ?_
  simp [SOp.writes,ho,hh]
 ·rfl
def ZfW {s:SOp} {e e':Env} (h:ZaT F s e=some e') {k:Nat} (hk:k∉s.writes):e'.get k=e.get k:=by
 unfold ZaT at h
 split at h
 ·exact ZoO h hk
 ·split at h
  ·split at h
   ·exact ZoO h hk
   ·cases h;exact Zlt hk
  ·cases h;exact Zlt hk
  ·cases h
def ZuS {s t:SOp} (hi:s.indep t=true) {e e1 e2:Env} (h1:ZaT F s e=some e1) (h2:ZaT F t e1=some e2):
  ∃e1' e2',ZaT F t e=some e1'/\ZaT F s e1'=some e2'/\Same e2 e2':=by
 simp only [SOp.indep,Yb] at hi
 obtain ⟨⟨i1,i2⟩,i3⟩:=hi
 have hst: ∀k∈t.reads,e1.get k=e.get k:=fun k hk=>ZfW h1 fun hw=>ZkZ i1 hw hk
 obtain ⟨e1',q1,q2⟩:=ZkU hst h2
 have hts: ∀k∈s.reads,e.get k=e1'.get k:=fun k hk=>(ZfW q1 fun hw=>ZkZ i2 hw hk).symm
 obtain ⟨e2',r1,r2⟩:=ZkU hts h1
 refine ⟨e1',e2',q1,r1,fun k=>?_⟩
 by_cases hk:k∈s.writes
 ·have hkt:=ZkZ i3 hk
  rw [ZfW h2 hkt]
  exact r2 k (ZfW q1 hkt).symm
 ·rw [ZfW r1 hk]
  exact q2 k (ZfW h1 hk)
def Zqz: ∀{l:List SOp} {e u₀ e':Env},Same e u₀->Zdo F l e=some e'-> ∃u',Zdo F l u₀=some u'/\Same e' u'
 | [],e,u₀,e',hs,h=>by simp [Zdo] at h;subst h;exact ⟨u₀,rfl,hs⟩
 | s::l,e,u₀,e',hs,h=>by
   simp only [Zdo] at h⊢
   split at h
   · rename_i e1 h1
     obtain ⟨u₁,q1,q2⟩:=ZkU (fun k _=>hs k) h1
     rw [q1]
     exact Zqz (fun k=>q2 k (hs k)) h
   · cases h
def Zqt: ∀{pre:List SOp} {s:SOp} {post:List SOp} {e ef:Env},(∀p∈pre,p.indep s=true)->Zdo F (pre++s::post) e=some ef->
   ∃e1 ef',ZaT F s e=some e1/\Zdo F (pre++post) e1=some ef'/\Same ef ef'
 | [],s,post,e,ef,_,h=>by
   simp only [YO,Zdo] at h
   split at h
   · rename_i e1 h1;exact ⟨e1,ef,h1,h,.refl _⟩
   · cases h
 | p::pre,s,post,e,ef,hp,h=>by
   simp only [List.cons_append,Zdo] at h
   split at h
   · rename_i e1 h1
     obtain ⟨e2,ef',q1,q2,q3⟩:=Zqt (fun p hp'=>hp p (Yk _ hp')) h
     obtain ⟨e1',e2',r1,r2,r3⟩:=ZuS (hp p Yr) h1 q1
     obtain ⟨ef'',t1,t2⟩:=Zqz r3 q2
     refine ⟨e1',ef'',r1,?_,q3.trans t2⟩
     simp only [List.cons_append,Zdo,r2]
     exact t1
   · cases h
def rem (L:Nat->Bool):Nat->List SOp->List SOp
 | _,[]=>[]
 | i,s::ss=>if L i then rem L (i+1) ss else s::rem L (i+1) ss
def ZtQ {L L':Nat->Bool} {j:Nat} {s:SOp} (hL': ∀i,L' i=(L i||i==j)) (hj:L j=false): ∀(i:Nat) (ss:List SOp),i<=j->ss[j-i]? =some s->
   ∃pre post,rem L i ss=pre++s::post/\rem L' i ss=pre++post/\ ∀p∈pre,∃m,i<=m/\m<j/\L m=false/\ss[m-i]? =some p:=by
 intro i ss
 induction ss generalizing i with
 | nil=>intro _ h;simp at h
 | cons x ss ih=>
   intro hi hs
   rcases Nat.eq_or_lt_of_le hi with rfl|hlt
   · simp at hs
     subst hs
     refine ⟨[],rem L (i+1) ss,by simp [rem,hj],?_,by simp⟩
     have hir: ∀(m:Nat) (l:List SOp),i<m->rem L' m l=rem L m l:=by
       intro m l
       induction l generalizing m with
       | nil=>intro _;rfl
       | cons y l ih'=>
         intro hm
         have:L' m=L m:=by rw [hL'];simp;omega
         simp only [rem,this,ih' (m+1) Zo]
     simp only [rem,hL',beq_self_eq_true,Bool.or_true,if_true,YO]
     exact hir _ _ Zo
   · have hs':ss[j-(i+1)]? =some s:=by
       rw [show j-i=(j-(i+1))+1 by omega] at hs
       simpa using hs
     obtain ⟨pre,post,h1,h2,h3⟩:=ih (i+1) hlt hs'
     have hLi:L' i=L i:=by rw [hL'];simp;omega
     have hsh: ∀p∈pre,∃m,i<=m/\m<j/\L m=false/\(x::ss)[m-i]? =some p:=fun p hp=>by
       obtain ⟨m,m1,m2,m3,m4⟩:=h3 p hp
       refine ⟨m,by omega,m2,m3,?_⟩
       rw [show m-i=(m-(i+1))+1 by omega]
       simpa using m4
     cases hc:L i with
     | true=>exact ⟨pre,post,by simp [rem,hc,h1],by simp [rem,hLi,hc,h2],hsh⟩
     | false=>
       refine ⟨x::pre,post,by simp [rem,hc,h1],by simp [rem,hLi,hc,h2],fun p hp=>?_⟩
       rcases List.mem_cons.1 hp with rfl|hp
       · exact ⟨i,Yc _,hlt,hc,by simp⟩
       · exact hsh p hp
def Zvu {L:Nat->Bool}: ∀(i:Nat) (ss:List SOp),(∀m,i<=m->m<i+ss.length->L m=true)->rem L i ss=[]
 | _,[],_=>rfl
 | i,s::ss,h=>by
   simp only [rem,h i (Yc _) Zs,if_true]
   exact Zvu (i+1) ss fun m h1 h2=>h m Zo Ze
def Zpl {L:Nat->Bool}: ∀(i:Nat) (ss:List SOp),(∀m,i<=m->m<i+ss.length->L m=false)->rem L i ss=ss
 | _,[],_=>rfl
 | i,s::ss,h=>by
   simp only [rem,h i (Yc _) Zs,Yw,if_false]
   rw [Zpl (i+1) ss fun m h1 h2=>h m Zo Ze]
end Go.Am
end
