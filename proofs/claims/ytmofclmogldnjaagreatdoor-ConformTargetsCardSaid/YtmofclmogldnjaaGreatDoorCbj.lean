/- Part. -/
import Derived.Test.YtmofclmogldnjaaGreatDoorCbi
import Derived.Test.YtmofclmogldnjaaGreatDoorCbb
set_option maxRecDepth 999999
set_option maxHeartbeats 0
set_option linter.all false
section
namespace Go.Cm
open Go.Am (ZbJ Ze7 Zaw Addr.add_eq)
open Go.MapKept
attribute [local instance] wi0
variable {P:Program} {F:ZaQ} {g:G} {e:Env} {a:Act} {w:World} {h h':H} {ov:Option V} {o:Oper}
def HR.putObj (hh:HR g h w) {b:Nat} {o o':O} (hbn:g.ex b) (hb:h.obs.get b=some o) (hc:ZJN o=false) (hc':ZJN o'=false) {ob:Obj} (hob:ObOK g h.low {w with heap:=w.heap.setIfInBounds (g.β b).1 ob} b o'):
  HR g (h.setObj b o') {w with heap:=w.heap.setIfInBounds (g.β b).1 ob}:=by
 have hobs: ∀k,(h.setObj b o').obs.get k=if k=b then some o' else h.obs.get k:=fun k=>T.get_set _ _ _ _
 have hal: ∀k gr ver kid cs,(h.setObj b o').obs.get k=some (.cells cs gr ver kid)->h.obs.get k=some (.cells cs gr ver kid):=fun k gr ver kid cs h1=>by
  rw [hobs] at h1;split at h1
  ·cases h1;cases hc'
  ·exact h1
 have ha: ∀{k gr ver kid cs},ZHO g (h.setObj b o') k gr ver kid cs->ZHO g h k gr ver kid cs:=fun ⟨h1,h2⟩=>⟨hal _ _ _ _ _ h1,h2⟩
 refine ⟨by simpa using hh.bs,hh.nx,hh.top,hh.mins,fun k cs gr ver kid hx hk=>hh.grp k cs gr ver kid hx (hal _ _ _ _ _ hk),fun k hk=>by simpa using hh.blk k hk,fun k o1 hx hk=>?_,hh.tl,fun k t n hx hk=>?_,
  fun b1 b2 gr ver kid cs gr' ver' kid' cs' h1 h2=>hh.i1 b1 b2 gr ver kid cs gr' ver' kid' cs' (ha h1) (ha h2),fun b1 b2 gr ver cs ver' kid' cs' h1 h2=>hh.i2 b1 b2 gr ver cs ver' kid' cs' (ha h1) (ha h2),
  fun b1 b2 gr ver cs ver' cs' x1 x2 h1 h2=>hh.i4 b1 b2 gr ver cs ver' cs' x1 x2 (hal _ _ _ _ _ h1) (hal _ _ _ _ _ h2),fun k o1 k' hx hk hc1 hk' hne=>?_,hh.dt.at hbn Zs fun k hk=>by simp only [qQ];rw [if_neg (qY hk)]⟩
 ·rw [hobs] at hk;split at hk
  ·rename_i e;cases hk;rw [e];exact hob
  ·rename_i hne;refine (hh.ob k o1 hx hk).mono (Le.refl g).toLe0 hx ?_;have:=hh.dm b o k hbn hb hc hx hne;simp only [qQ];rw [if_neg this]
 ·obtain ⟨q1,vs,fz,q2,q3⟩:=hh.ty k t n hx hk;have hkb:k≠b:=fun e=>by
   rw [e] at q2;have hbo:=hh.ob b o hbn hb;cases o with
   | cells=>cases hc
   | map=>unfold ObOK at hbo;obtain ⟨_,z1,_⟩:=hbo;rw [q2] at z1;cases z1
   | siter=>unfold ObOK at hbo;obtain ⟨_,z1,_⟩:=hbo;rw [q2] at z1;cases z1
   | miter=>unfold ObOK at hbo;have z1:=hbo.1;rw [q2] at z1;cases z1
   | loop=>unfold ObOK at hbo;obtain ⟨_,z1,_⟩:=hbo;rw [q2] at z1;cases z1
   | mapU=>unfold ObOK at hbo;obtain ⟨_,_,_,z1,_⟩:=hbo;rw [q2] at z1;cases z1
  have:=hh.dm b o k hbn hb hc hx hkb;refine ⟨q1,vs,fz,?_,q3⟩;simp only [qQ];rw [if_neg this];exact q2
 ·rw [hobs] at hk;split at hk
  ·rename_i e;rw [e] at hne⊢;exact hh.dm b o k' hbn hb hc hk' hne
  ·exact hh.dm k o1 k' hx hk hc1 hk' hne
def ZIL (hh:HR g h w) {b:Nat} (hb:g.ex b) (ob:Obj):Grew g w g {w with heap:=w.heap.setIfInBounds (g.β b).1 ob}:=
 ⟨rfl,rfl,rfl,by simp,fun k hk hn=>by
  simp only [qQ];rw [if_neg (hn b hb)],fun b hb=> .inl ⟨b,hb,rfl⟩,fun _ _=>rfl⟩
def Zyb (hh:HR g h w) {b:Nat} (hb:g.ex b) (ob:Obj):({w with heap:=w.heap.setIfInBounds (g.β b).1 ob}:World).heap[(g.β b).1]? =some ob:=by
 have:=(hh.blk b hb).2;simp [qQ,this]
def ZIq {t:TypeId} {d:TypeDesc} (ht:P.underlying t=some d) {u v:Value} {b:Bool} (hs:Instr.sameNow d u v=some b):(Op.equal t u v).run P w= .ok b w:=by
 unfold Op.equal;cases d<;>simp only [Instr.sameNow] at hs<;>try cases hs
 ·cases u<;>cases v<;>simp only [Ye] at hs<;>first|cases hs|skip
  exact run_equalIn_bool' w _ t _ _ ht
 ·cases u<;>cases v<;>simp only at hs<;>first|cases hs|skip
  split at hs
  ·rename_i e;subst e;cases hs;exact run_equalIn_int w _ t _ _ _ _ ht
  ·cases hs
 ·cases u<;>cases v<;>simp only [Ye] at hs<;>first|cases hs|skip
  refine Eq.trans (run_equalIn_string (P:=P) w (Op.maxDepth-1) t _ _ ht) (congrArg (Result.ok · w) ?_);exact (Bool.eq_iff_iff.2 ((Go.MapKept.bytes_beq _ _).trans ⟨fun h=>by rw [h];simp,fun h=>Am.ZsC (by rw [Am.ZbU,Am.ZbU,beq_iff_eq.1 h])⟩)).symm
def ZIX {t:TypeId} {d:TypeDesc} (ht:P.underlying t=some d) {k:Value}: ∀(ms:List MapEntry) (i:Nat) {q r:Option (Nat×Value)},Instr.findNow d k ms i=some q->(Instr.findAsking t k ms i).run P w= .ok r w->q=r
 | [],i,q,r,h1,h2=>by
   simp only [Instr.findNow,Ye] at h1;simp only [Instr.findAsking,qI,Result.ok.injEq] at h2;rw [<-h1,<-h2.1]
 | m::ms,i,q,r,h1,h2=>by
   simp only [Instr.findNow] at h1;simp only [Instr.findAsking] at h2;split at h1
   · rename_i hs;rw [qD,ZIq ht hs,qA] at h2;simp only [if_true,qI,Result.ok.injEq] at h2;simp only [Ye] at h1;rw [<-h1,<-h2.1]
   · rename_i hs;rw [qD,ZIq ht hs,qA] at h2;exact ZIX ht ms (i+1) h1 (by simpa using h2)
   · cases h1
theorem ZJ7 {t:TypeId} {k:V} {kv:Value} (hk:Rel g k kv): ∀(es:List En) (ms:List MapEntry) (i:Nat) {r:Option (Nat×V)},es.length=ms.length->(∀(j:Nat) e m,es[j]? =some e->ms[j]? =some m->RelE g e m)->ZLE P t k es i=some r->
   ∃r',(Instr.findAsking t kv ms i).run P w= .ok r' w/\match r with
     | none=>r'=none
     | some (j,x)=> ∃e m,i<=j/\es[j-i]? =some e/\ms[j-i]? =some m/\x=e.x/\r'=some (j,m.val)
 | [],[],i,r,_,_,hf=>by
   simp only [ZLE,Ye] at hf;subst hf;exact ⟨none,by simp [Instr.findAsking],rfl⟩
 | e::es,m::ms,i,r,hl,hr,hf=>by
   obtain ⟨h1,h2,h3⟩:=hr 0 e m rfl rfl;simp only [ZLE] at hf;split at hf
   · rename_i he;simp only [Ye] at hf;subst hf;have hq:(Op.equal t kv m.key).run P w= .ok true w:=ZKZ (w:=w) DEEP 10000 Zd t k e.k kv m.key true he hk h1;exact ⟨some (i,m.val),by simp [Instr.findAsking,hq],e,m,Yc _,by simp,by simp,rfl,rfl⟩
   · rename_i he;have hq:(Op.equal t kv m.key).run P w= .ok false w:=ZKZ (w:=w) DEEP 10000 Zd t k e.k kv m.key false he hk h1;obtain ⟨r',q1,q2⟩:=ZJ7 hk es ms (i+1) (by simpa using hl) (fun j e m he hm=>hr (j+1) e m (by simpa using he) (by simpa using hm)) hf;refine ⟨r',by simp only [Instr.findAsking];rw [qD,hq,qA];simpa using q1,?_⟩;cases r with
     | none=>exact q2
     | some jx=>
       obtain ⟨j,x⟩:=jx;obtain ⟨e',m',z1,z2,z3,z4,z5⟩:=q2;have hj:j-i=(j-(i+1))+1:=by omega
       exact ⟨e',m',by omega,by rw [hj];simpa using z2,by rw [hj];simpa using z3,z4,z5⟩
   · cases hf
 | [],_::_,_,_,hl,_,_=>by simp at hl
 | _::_,[],_,_,hl,_,_=>by simp at hl
theorem ZMa (em:Bool): ∀(n m:Nat),n≤m→ ∀(t:TypeId) (x:V) (v:Value),ckT P n t x=true→Rel g x v→(Instr.checkKey em m t v).run P w= .ok () w
  | 0,_,_,_,_,_,h,_=>by cases h
  | n+1,m,hm,t,x,v,h,hv=>by
    obtain ⟨m,rfl⟩: ∃m',m=m'+1:=⟨m-1,by omega⟩
    simp only [ckT] at h;split at h
    · rename_i fs xs ht;obtain ⟨us,rfl,hu⟩:=ZID hv;rw [Instr.checkKey];simp only [qD,run_underlying ht,qA];rw [←Array.forIn_toList];generalize fs.toList=L at h
      induction L with
      | nil=>simp
      | cons f L ih=>
        simp only [ckF] at h;by_cases hn : f.name = "_"
        · rw [if_pos hn] at h;simp only [List.forIn_cons,qD,hn,ne_eq,not_true_eq_false,if_false,qI,qA];exact ih h
        · rw [if_neg hn] at h;split at h
          · rename_i y hy;simp only [qH] at h;obtain ⟨u,p1,p2⟩:=ZIg (w:=w) hu hy;have p3:=ZMa em n m Zo f.type y u h.1 p2;simp only [List.forIn_cons,qD,hn,ne_eq,not_false_eq_true,if_true,qA,p1,p3,qI];exact ih h.2
          · cases h
    · rename_i ht;rw [Instr.checkKey];simp only [qD,run_underlying ht,qA];cases v<;>rfl
    · rename_i ht;rw [Instr.checkKey];simp only [qD,run_underlying ht,qA];cases v<;>rfl
    · rename_i ht;rw [Instr.checkKey];simp only [qD,run_underlying ht,qA];cases v<;>rfl
    · rename_i ht;rw [Instr.checkKey];simp only [qD,run_underlying ht,qA];cases v<;>rfl
    · cases h
def ZOi {n:Nat} {t:TypeId} {x:V} (h:ckT P n t x=true): ∃d,P.underlying t=some d:=by
 cases n with
 | zero=>cases h
 | succ n=>
   simp only [ckT] at h;split at h<;>first|exact ⟨_,by assumption⟩|cases h
theorem ZIQ {t:TypeId} {k:V} {kv:Value} (hk:Rel g k kv) {es:List En} {ms:Array MapEntry} (hes:RelEs g es ms) {r:Option (Nat×V)} (hs:ZLI P t k es=some r):
   (∀em,(Instr.checkKey em 10000 t kv).run P w= .ok () w)/\ ∃r',(Instr.findKey t kv ms.toList).run P w= .ok r' w/\match r with
     | none=>r'=none
     | some (j,x)=> ∃e m,es[j]? =some e/\ms[j]? =some m/\RelE g e m/\x=e.x/\r'=some (j,m.val):=by
 unfold ZLI at hs;split at hs
 · rename_i hck;obtain ⟨d,ht⟩:=ZOi hck;refine ⟨fun em=>ZMa em DEEP 10000 Zd t k kv hck hk,?_⟩;have hrel: ∀(j:Nat) e m,es[j]? =some e->ms.toList[j]? =some m->RelE g e m:=fun j e m he hm=>by
     obtain ⟨m',q1,q2⟩:=hes.2 j e he;rw [qK,q1] at hm;cases hm;exact q2
   obtain ⟨r',q1,q2⟩:=ZJ7 (P:=P) (w:=w) (t:=t) hk es ms.toList 0 (by simpa using hes.1) hrel hs;refine ⟨r',?_,?_⟩
   · unfold Instr.findKey;rw [qD,run_underlying ht,qA];split
     · rename_i q hq;rw [ZIX ht _ _ hq q1];simp
     · exact q1
   · cases r with
     | none=>exact q2
     | some jx=>
       obtain ⟨j,x⟩:=jx;obtain ⟨e,m,z1,z2,z3,z4,z5⟩:=q2;simp only [Nat.sub_zero] at z2 z3;exact ⟨e,m,z2,by simpa using z3,hrel j e m z2 z3,z4,z5⟩
 · cases hs
def ZJF {x y:V} {u v:Value} (hx:Rel g x u) (hy:Rel g y v) (h:ZNN x y=true) (n:Nat):Instr.sameBits n u v=true:=by
 unfold ZNN at h;split at h
 ·simp only [Yb,beq_iff_eq] at h;rw [ZHK hx,ZHK hy,h.1,h.2];simp [Instr.sameBits]
 ·have:=beq_iff_eq.1 h;rw [ZHH hx,ZHH hy,this];simp [Instr.sameBits]
 ·obtain ⟨bs,rfl,rfl⟩:=ZHC hx;obtain ⟨bs',rfl,rfl⟩:=ZHC hy;rw [Am.ZoX] at h;have hb:bs=bs':=Am.ZsC (by rw [Am.ZbU,Am.ZbU,beq_iff_eq.1 h]);subst hb;cases n<;>simp [Instr.sameBits,(Go.MapKept.bytes_beq bs bs).2 rfl]
 ·cases h
def ZI0 (n:Nat): ∀{xs ys:List V} {us vs:List Value},Rels g xs us->Rels g ys vs->ZLN xs ys=true->us.length=vs.length/\(us.zip vs).all (fun (x,y)=>Instr.sameBits n x y)=true
 | [],[],us,vs,h1,h2,_=>by
   have e1:us=[]:=h1;have e2:vs=[]:=h2;subst e1;subst e2;exact ⟨rfl,rfl⟩
 | x::xs,y::ys,us,vs,h1,h2,h=>by
   simp only [Rels] at h1 h2;obtain ⟨u,us,rfl,a1,a2⟩:=h1;obtain ⟨v,vs,rfl,b1,b2⟩:=h2;simp only [ZLN,Yb] at h;obtain ⟨q1,q2⟩:=ZI0 n a2 b2 h.2;refine ⟨by simp [q1],?_⟩;simp only [List.zip_cons_cons,List.all_cons,Yb];exact ⟨ZJF a1 b1 h.1 n,q2⟩
 | [],_::_,_,_,_,_,h=>by cases h
 | _::_,[],_,_,_,_,h=>by cases h
def ZLp {x y:V} {u v:Value} (hx:Rel g x u) (hy:Rel g y v) (h:ZNS x y=true) (n:Nat):Instr.sameBits (n+1) u v=true:=by
 unfold ZNS at h;split at h
 ·obtain ⟨us,rfl,h1⟩:=ZID hx;obtain ⟨vs,rfl,h2⟩:=ZID hy;obtain ⟨q1,q2⟩:=ZI0 n h1 h2 h;simp only [Instr.sameBits,Yb];exact ⟨by simpa using q1,by simpa using q2⟩
 ·exact ZJF hx hy h _
def ZNe (hh:HR g h w) {t:TypeId} {b:Nat} {k x:V} {kv xv:Value} (hb0:g.ex b) (hk:Rel g k kv) (hx:Rel g x xv) (hu:ZKB P h t b k x=some h'):
  ∃w',(Instr.mapUpdate t (.map (some (g.β b).1)) kv xv).run P w= .ok () w'/\HR g h' w'/\Grew g w g w':=by
 unfold ZKB at hu;split at hu
 ·rename_i kt el es c ht hb;obtain ⟨ms,q1,q2,q3⟩:=hh.ob b _ hb0 hb;split at hu
  ·rename_i i x0 hs;obtain ⟨hck,r',hf,en,m,s1,s2,s3,s4,rfl⟩:=ZIQ (P:=P) (w:=w) hk q2 hs;rw [s1] at hu;simp only at hu;split at hu
   ·rename_i hsame;cases hu;have hbits:Instr.sameBits 10000 m.key kv=true:=ZLp s3.1 hk hsame 9999;refine ⟨_,?_,hh.putObj hb0 hb rfl rfl (ob:= .map (ms.modify i fun e=>{e with key:=kv,val:=xv}) c) ⟨_,Zyb hh hb0 _,?_,q3⟩,ZIL hh hb0 _⟩
    ·unfold Instr.mapUpdate;simp only [qD,run_underlying ht,qA,Go.MapKept.run_getObj_map q1,hck,hf,Instr.keyThatStays,s2,YN,Option.getD_some,hbits,if_true,qI,Go.MapKept.run_setObj_map _ q1]
    ·refine ⟨by simp [q2.1],fun j e he=>?_⟩;rw [List.getElem?_set] at he;rw [Array.getElem?_modify];split at he
     ·rename_i hij;subst hij;split at he
      ·cases he;rw [if_pos rfl,s2];exact ⟨_,rfl,hk,hx,s3.2.2⟩
      ·cases he
     ·rename_i hij;rw [if_neg hij];obtain ⟨m',z1,z2⟩:=q2.2 j e he;exact ⟨m',z1,z2⟩
   ·cases hu
  ·rename_i hs;obtain ⟨hck,r',hf,hn⟩:=ZIQ (P:=P) (w:=w) hk q2 hs;simp only at hn;subst hn;cases hu;refine ⟨_,?_,hh.putObj hb0 hb rfl rfl (ob:= .map (ms.push {key:=kv,val:=xv,born:=c}) (c+1)) ⟨_,Zyb hh hb0 _,?_,q3⟩,ZIL hh hb0 _⟩
   ·unfold Instr.mapUpdate;simp only [qD,run_underlying ht,qA,Go.MapKept.run_getObj_map q1,hck,hf,qI,Go.MapKept.run_setObj_map _ q1]
   ·refine ⟨by simp [q2.1],fun j e he=>?_⟩;rw [qP];rw [List.getElem?_append] at he;split at he
    ·rename_i hj;rw [if_neg (by have:=q2.1;omega)];exact q2.2 j e he
    ·rename_i hj;have hj0:j-es.length=0:=by
      have:=Am.Zaq he;simpa using this
     rw [hj0] at he;simp at he;subst he;have:=q2.1;rw [if_pos Zo];exact ⟨_,rfl,hk,hx,rfl⟩
  ·cases hu
 ·cases hu
end Go.Cm
end
section
namespace Go.Cm
open Go.Am (ZbJ Ze7 Zaw Addr.add_eq)
attribute [local instance] wi0
variable {P:Program} {F:ZaQ} {g:G} {e:Env} {a:Act} {w:World} {h h':H} {ov:Option V} {o:Oper}
def ZIu (w:World) (ad:Addr) (n:Nat) {k:Nat} (hk:k≠ad.block):(w.freeze ad n).heap[k]? =w.heap[k]? :=by
 unfold World.freeze;split
 ·rfl
 ·simp only [Array.getElem?_modify];rw [if_neg (fun he=>hk he.symm)]
def ZKf (w:World) (ad:Addr) (n:Nat) {vs:Array Value} {t:TypeId} {fz:Nat×Nat} (hb:w.heap[ad.block]? =some (.cells vs t fz)): ∃fz',(w.freeze ad n).heap[ad.block]? =some (.cells vs t fz'):=by
 unfold World.freeze;split
 ·exact ⟨fz,hb⟩
 ·simp only [Array.getElem?_modify];rw [if_pos trivial,hb];exact ⟨_,rfl⟩
def ZHQ (w:World) (ad:Addr) (n:Nat):(w.freeze ad n).heap.size=w.heap.size:=by
 unfold World.freeze;split<;>simp
def ZLV (w:World) (ad:Addr) (n:Nat):(w.freeze ad n).os=w.os:=by unfold World.freeze;split<;>rfl
def ZKS (w:World) (ad:Addr) (n:Nat):(w.freeze ad n).tape=w.tape:=by unfold World.freeze;split<;>rfl
def ZJP (w:World) (ad:Addr) (n:Nat):(w.freeze ad n).output=w.output:=by unfold World.freeze;split<;>rfl
def ZM0 (h:H) (grp ver k:Nat):(h.kill grp ver).low k=if k=grp then ver+1 else h.low k:=by
 unfold H.low H.kill;simp only;rw [T.get_set];split<;>rfl
def HR.kill (hh:HR g h w) {b grp ver:Nat} {cs:List V} (hx:g.ex b) (hb:h.obs.get b=some (.cells cs grp ver false)) (ha:h.low grp<=ver) (ad:Addr) (n:Nat) (hab:ad.block=(g.β b).1):HR g (h.kill grp ver) (w.freeze ad n):=by
 have hal:ZHO g h b grp ver false cs:=⟨hb,ha,hx⟩
 have down: ∀{k gr v kid c},ZHO g (h.kill grp ver) k gr v kid c->ZHO g h k gr v kid c/\gr≠grp:=fun {k gr v kid c} ⟨h1,h2,h3⟩=>by
   rw [ZM0] at h2;by_cases hg:gr=grp
   · subst hg;rw [if_pos rfl] at h2;have:=(hh.i2 b k gr ver cs v kid c hal ⟨h1,by omega,h3⟩).1;omega
   · rw [if_neg hg] at h2;exact ⟨⟨h1,h2,h3⟩,hg⟩
 refine ⟨by rw [ZHQ];exact hh.bs,hh.nx,hh.top,fun k m hk=>?_,hh.grp,fun k hk=>by rw [ZHQ];exact hh.blk k hk,fun k o' hk hko=>?_,hh.tl,fun k t m hk hkt=>?_,
   fun b1 b2 gr v kid c gr' v' kid' c' h1 h2=>hh.i1 b1 b2 gr v kid c gr' v' kid' c' (down h1).1 (down h2).1,fun b1 b2 gr v c v' kid' c' h1 h2=>hh.i2 b1 b2 gr v c v' kid' c' (down h1).1 (down h2).1,hh.i4,hh.dm,hh.dt.at hx (by rw [ZHQ];exact Yc _) fun k hk=>ZIu w ad n (by rw [hab];exact hk)⟩
 · simp only [H.kill] at hk;rw [T.get_set] at hk;split at hk
   · rename_i e;rw [e];exact hh.grp b _ _ _ _ hx hb
   · exact hh.mins k m hk
 · have hko:h.obs.get k=some o':=hko;have hob:=hh.ob k o' hk hko;by_cases heq:(g.β k).1=ad.block
   · cases o' with
     | cells c gr v kid=>
       obtain ⟨vs,t,fz,z1,z2,z3⟩:=hob;obtain ⟨fz',z4⟩:=ZKf w ad n (by rw [<-heq];exact z1);refine ⟨vs,t,fz',by rw [heq];exact z4,z2,fun hl=>?_⟩;obtain ⟨a1,a2⟩:=down (⟨hko,hl,hk⟩:ZHO g (h.kill grp ver) k gr v kid c);by_cases hkb:k=b
       · subst hkb;rw [hb] at hko;cases hko;exact absurd rfl a2
       · exact absurd (hh.i1 k b gr v kid c grp ver false cs a1 hal hkb (heq.trans hab)).1 a2
     | map=>exact absurd (hab.symm.trans heq.symm) (qY (hh.dm k _ b hk hko rfl hx (fun hkb=>by rw [hkb,hko] at hb;cases hb)))
     | siter=>exact absurd (hab.symm.trans heq.symm) (qY (hh.dm k _ b hk hko rfl hx (fun hkb=>by rw [hkb,hko] at hb;cases hb)))
     | miter=>exact absurd (hab.symm.trans heq.symm) (qY (hh.dm k _ b hk hko rfl hx (fun hkb=>by rw [hkb,hko] at hb;cases hb)))
     | mapU=>exact absurd (hab.symm.trans heq.symm) (qY (hh.dm k _ b hk hko rfl hx (fun hkb=>by rw [hkb,hko] at hb;cases hb)))
     | loop=>exact absurd (hab.symm.trans heq.symm) (qY (hh.dm k _ b hk hko rfl hx (fun hkb=>by rw [hkb,hko] at hb;cases hb)))
   · have hr:=ZIu w ad n heq;cases o' with
     | cells c gr v kid=>
       obtain ⟨vs,t,fz,z1,z2,z3⟩:=hob;exact ⟨vs,t,fz,hr.trans z1,z2,fun hl=>z3 (down (⟨hko,hl,hk⟩:ZHO g (h.kill grp ver) k gr v kid c)).1.2.1⟩
     | map=>obtain ⟨ms,z1,z2⟩:=hob;exact ⟨ms,hr.trans z1,z2⟩
     | siter=>obtain ⟨ms,z1,z2⟩:=hob;exact ⟨ms,hr.trans z1,z2⟩
     | miter=>obtain ⟨z1,z2⟩:=hob;exact ⟨hr.trans z1,z2⟩
     | mapU=>obtain ⟨ms,c,es,z1,z2⟩:=hob;exact ⟨ms,c,es,hr.trans z1,z2⟩
     | loop=>obtain ⟨r,z1,z2⟩:=hob;exact ⟨r,hr.trans z1,z2⟩
 · obtain ⟨q1,vs,fz,q2,q3⟩:=hh.ty k t m hk hkt;by_cases heq:(g.β k).1=ad.block
   · obtain ⟨fz',z4⟩:=ZKf w ad n (by rw [<-heq];exact q2);exact ⟨q1,vs,fz',by rw [heq];exact z4,q3⟩
   · exact ⟨q1,vs,fz,(ZIu w ad n heq).trans q2,q3⟩
def ZKC {b:Nat} (hx:g.ex b) (ad:Addr) (n:Nat) (hab:ad.block=(g.β b).1):Grew g w g (w.freeze ad n):=
 ⟨ZLV w ad n,ZKS w ad n,ZJP w ad n,by rw [ZHQ];exact Yc _,fun k _ hn=>ZIu w ad n fun he=>hn b hx (hab.symm.trans he.symm),fun b' hb'=> .inl ⟨b',hb',rfl⟩,fun _ _=>rfl⟩
def ZJG {x z:V} {u:Value} (hu:Rel g x u) (hx:ZIB x=some z) (ts:Array TypeId) (ty:TypeId): ∃r,(Builtin.unsafeSliceData_ ts ty #[u]).run P w= .ok r w/\Rel g z r:=by
 unfold ZIB at hx;split at hx
 ·cases hx;have:u= .slice none 0 0:=by simpa only [Rel] using hu
  subst this;exact ⟨_,Lib.run_unsafeSliceData_nil w ts ty 0 0,by simp only [Rel]⟩
 ·split at hx
  ·cases hx
  ·rename_i b i s len lo ex hc;cases hx;obtain ⟨hb,cap,rfl,c1,c2,_⟩:=ZKL hu;have hlo:lo≠0:=fun he=>by rw [he] at hc;exact hc rfl
   exact ⟨_,Lib.run_unsafeSliceData_row w ts ty (g.at b i) len cap Zo,by unfold Rel;exact ⟨hb,rfl⟩⟩
 ·cases hx
def ZJm (hh:HR g h w) {pt it ty:TypeId} {x y z:V} {p q:Value} (hp:Rel g x p) (hq:Rel g y q) (hx:ZId P h pt x y=some (z,h')):
  ∃r w',(Builtin.unsafeString_ #[pt,it] ty #[p,q]).run P w= .ok r w'/\Rel g z r/\HR g h' w'/\Grew g w g w':=by
 unfold ZId at hx;split at hx
 ·rename_i el n hpt;split at hx
  ·rename_i hn;cases hx;have h1:p= .pointer none:=by simpa only [Rel] using hp
   have h2:q= .int .i64 n:=by simpa only [Rel] using hq
   subst h1;subst h2;subst hn;exact ⟨_,w,Lib.run_unsafeString_none w pt it ty none,by simp only [Rel];exact ⟨_,rfl,rfl⟩,hh,Grew.refl _ _⟩
  ·cases hx
 ·rename_i el b o' n hpt;obtain ⟨hb,h1⟩:g.ex b/\p= .pointer (some (g.at b o')):=by unfold Rel at hp;exact hp
  have h2:q= .int .i64 n:=by simpa only [Rel] using hq
  subst h1;subst h2;split at hx
  ·rename_i hn;cases hx;subst hn;exact ⟨_,w,Lib.run_unsafeString_none w pt it ty _,by simp only [Rel];exact ⟨_,rfl,rfl⟩,hh,Grew.refl _ _⟩
  ·split at hx
   ·rename_i cs grp ver e m hob hty;split at hx
    ·rename_i hc;obtain ⟨ha,rfl,hce,hn0,hn1,rfl⟩:=hc;split at hx
     ·rename_i xs hcut;simp only [YG,YM] at hx;obtain ⟨l,hl,rfl,rfl⟩:=hx;have hrd:h.rd b=some cs:=by unfold H.rd;rw [hob];simp [ha]
      obtain ⟨vs,tt,r1,r2,r3,r4⟩:=hh.read hb hrd;obtain ⟨us,u1,u2,u3,u4,u5⟩:=r4.cut hcut;obtain ⟨q1,vs',fz,q2,_⟩:=hh.ty b _ _ hb hty;rw [r1] at q2;cases q2;obtain ⟨bs,rfl,rfl⟩:=ZLq u2 hl;have hbl:bs.length=n.toNat:=by simpa using u1
      have hat:g.at b 0=⟨(g.β b).1,0,none⟩:=by simp [G.at,q1]
      have hn:n=(bs.length:Int):=by omega
      have hrun:=Lib.run_unsafeString_row (P:=P) w pt it ty _ hpt hce (g.β b).1 vs.size (by simp [World.shape?,r1]) bs (fun he=>by rw [he] at hbl;simp at hbl;omega) (by rw [hbl];omega) Zo (fun j x hj=>by
       rw [Addr.add_eq,Am.cell_of_heap r1];have:=u3 j (.int .u8 x.toNat) (by rw [Yn,hj];rfl);simpa [q1] using this)
      refine ⟨_,_,by rw [hat,hn];exact hrun,by simp only [Rel];exact ⟨_,rfl,by simp [ZbJ]⟩,hh.kill hb hob ha _ _ rfl,ZKC hb _ _ rfl⟩
     ·cases hx
    ·cases hx
   ·cases hx
 ·cases hx
end Go.Cm
end
section
namespace Go.Cm
open Go.Am (ZbJ Ze7 Zaw Addr.add_eq)
open Go.MapKept
attribute [local instance] wi0
variable {P:Program} {F:ZaQ} {g:G} {e:Env} {a:Act} {w:World} {h h':H} {ov:Option V} {o:Oper}
theorem ZMP {x y:V} {u v:Value} (h:Rel g x u) (h':Rel g y v):Rel g (.tup [x,y]) (.tuple #[u,v]):=by
 simp only [Rel];exact ⟨[u,v],rfl,u,[v],rfl,h,v,[],rfl,h',rfl⟩
theorem ZOA {b:Bool}:Rel g (.bool b) (.bool b):=by simp only [Rel]
theorem ZLB {t:TypeId} {k:V}: ∀{l l':List (V×V)},l.Perm l'-> ∀{r:Option V},ZLJ P t k l=some r->ZLJ P t k l'=some r:=by
 intro l l' hp
 induction hp with
 | nil=>exact fun h=>h
 | cons x _ ih=>
   intro r h;simp only [ZLJ] at h⊢;split at h
   · rename_i h1 h2;rw [h1,ih h2];exact h
   · rename_i h1;rw [h1,ih h]
   · cases h
 | swap x y l=>
   intro r h;simp only [ZLJ] at h⊢;cases h1:eqT P DEEP t k x.1 with
   | none=>rw [h1] at h;simp at h;split at h<;>simp_all
   | some b1=>
     cases h2:eqT P DEEP t k y.1 with
     | none=>rw [h1,h2] at h;simp at h
     | some b2=>
       cases h3:ZLJ P t k l with
       | none=>rw [h1,h2,h3] at h;cases b1<;>cases b2<;>simp at h
       | some r3=>rw [h1,h2,h3] at h;cases b1<;>cases b2<;>cases r3<;>simp_all
 | trans _ _ ih1 ih2=>exact fun h=>ih2 (ih1 h)
theorem ZIZ {t:TypeId} {k:V}: ∀{es:List En} {r:Option V},ZLJ P t k (es.map fun e=>(e.k,e.x))=some r-> ∀i,∃r',ZLE P t k es i=some r'/\r=r'.map (·.2)
 | [],r,h,i=>by
   simp only [qT,ZLJ,qB] at h;subst h;exact ⟨none,rfl,rfl⟩
 | e::es,r,h,i=>by
   simp only [xG,ZLJ] at h;split at h
   · rename_i h1 h2;cases h;exact ⟨some (i,e.x),by simp only [ZLE,h1],rfl⟩
   · rename_i h1;obtain ⟨r',q1,q2⟩:=ZIZ h (i+1);exact ⟨r',by simp only [ZLE,h1];exact q1,q2⟩
   · cases h
theorem ZMN (hh:HR g h w) {t:TypeId} {m k:V} {mv:Value} (hm:Rel g m mv) {r:Option V} (hr:ZNM P h t m k=some r): ∃(es:List En) (ms:Array MapEntry) (c:Nat) (r':Option (Nat×V)),RelEs g es ms/\(mv= .map none/\ms= #[]∨ ∃r,mv= .map (some r)/\w.heap[r]? =some (.map ms c))/\ZLI P t k es=some r'/\r=r'.map (·.2):=by
 unfold ZNM at hr;split at hr
 ·simp only [qC] at hr;obtain ⟨r',h1,rfl⟩:=hr;exact ⟨[],#[],0,r',⟨rfl,fun i e he=>by simp at he⟩,.inl ⟨by simpa only [Rel] using hm,rfl⟩,h1,rfl⟩
 ·rename_i b;simp only [Rel] at hm;obtain ⟨hb0,rfl⟩:=hm;split at hr
  ·rename_i es c hb;simp only [qC] at hr;obtain ⟨r',h1,rfl⟩:=hr;obtain ⟨ms,q1,q2,_⟩:=hh.ob b _ hb0 hb;exact ⟨es,ms,c,r',q2,.inr ⟨_,rfl,q1⟩,h1,rfl⟩
  ·rename_i ps hb;split at hr
   ·rename_i hck;obtain ⟨ms,c,es,q1,q2,q3,_⟩:=hh.ob b _ hb0 hb;obtain ⟨r',z1,z2⟩:=ZIZ (ZLB q2.symm hr) 0;exact ⟨es,ms,c,r',q3,.inr ⟨_,rfl,q1⟩,by unfold ZLI;rw [if_pos hck];exact z1,z2⟩
   ·cases hr
  ·cases hr
 ·cases hr
section
variable (hh:HR g h w) (he:EnvR g e a)
include hh he
theorem ZtP {t:TypeId} {x i:Operand} {ok:Bool} (ho:o.op= .lookup t x i ok) (hx:opV P F e h (.lookup t x i ok)=some (ov,h')):OpOK P o a w g ov h':=by
 simp only [opV] at hx;split at hx
 ·rename_i kt el m k ht h1 h2
  ·have hk:=ZG6 he h2;have hmv:=ZG6 he h1;have fin: ∀(z:V) (v:Value) (b:Bool),Rel g z v->(Instr.lookup t (a.eval x) (a.eval i) ok).run P w= .ok (if ok then .tuple #[v,.bool b] else v) w->OpOK P o a w g (some (if ok then .tup [z,.bool b] else z)) h:=fun z v b hz hr=>by
    refine ZG7 hh (v:=if ok then .tuple #[v,.bool b] else v) ?_ ?_
    ·simp only [execOp,ho];rw [Zaw,hr,qA]
    ·cases ok
     ·exact hz
     ·exact ZMP hz ZOA
   have hmap: ∀r,ZNM P h kt m k=some r-> ∃(es:List En) (ms:Array MapEntry) (c:Nat) (r':Option (Nat×V)),RelEs g es ms/\(a.eval x= .map none/\ms= #[]∨ ∃r,a.eval x= .map (some r)/\w.heap[r]? =some (.map ms c))/\ZLI P kt k es=some r'/\r=r'.map (·.2):=fun r hr=>ZMN hh hmv hr;split at hx
   ·rename_i x0 hlk;obtain ⟨es,ms,c,r0,hes,hms,hs,hr0⟩:=hmap _ hlk;clear hlk;obtain ⟨⟨j,x1⟩,rfl,hx1⟩: ∃jx,r0=some jx/\jx.2=x0:=by
     cases r0 with
     | none=>cases hr0
     | some jx=>exact ⟨jx,rfl,by cases hr0;rfl⟩
    simp only at hx1;subst hx1;simp only [qB,qF] at hx;obtain ⟨rfl,rfl⟩:=hx;obtain ⟨hck,r',hf,en,m0,s1,s2,s3,s4,rfl⟩:=ZIQ (P:=P) (w:=w) hk hes hs;refine fin x1 m0.val true (by rw [s4];exact s3.2.1) ?_;rcases hms with ⟨hv,rfl⟩|⟨r,hv,hb⟩
    ·simp at s2
    ·simp [Instr.lookup,run_underlying ht,hv,Go.MapKept.run_getObj_map hb,hck,hf]
   ·rename_i zz hlk hz;obtain ⟨es,ms,c,r0,hes,hms,hs,hr0⟩:=hmap _ hlk;clear hlk;obtain rfl:r0=none:=by
     cases r0 with
     | none=>rfl
     | some jx=>cases hr0
    simp only [qB,qF] at hx;obtain ⟨rfl,rfl⟩:=hx;obtain ⟨hck,r',hf,hn⟩:=ZIQ (P:=P) (w:=w) hk hes hs;simp only at hn;subst hn;obtain ⟨inf,zv,z1,z2,z3⟩:=ZHB hz;refine fin zz zv false (ofConst_rel g zv z3) ?_;rcases hms with ⟨hv,rfl⟩|⟨r,hv,hb⟩
    ·simp [Instr.lookup,run_underlying ht,hv,hck,hf,Am.Zcs z1 z2]
    ·simp [Instr.lookup,run_underlying ht,hv,Go.MapKept.run_getObj_map hb,hck,hf,Am.Zcs z1 z2]
   ·cases hx
 ·cases hx
theorem Zug {t:TypeId} {m k x:Operand} (ho:o.op= .mapUpdate t m k x∨o.op= .insert t m k x) (hx:opV P F e h (.mapUpdate t m k x)=some (ov,h')):OpOK P o a w g ov h':=by
 simp only [opV] at hx;split at hx
 ·rename_i b kk vv h1 h2 h3;simp only [qC,qF] at hx;obtain ⟨h1',hu,rfl,rfl⟩:=hx;have hm:=ZG6 he h1;simp only [Rel] at hm;obtain ⟨w',r1,r2,r3⟩:=ZNe (P:=P) hh hm.1 (ZG6 he h2) (ZG6 he h3) hu;refine ⟨.skip,undef,w',g,?_,.inr ⟨rfl,rfl⟩,by simp only [Option.getD_none,Rel];exact ⟨[],rfl,rfl⟩,r2,Le.refl g,r3⟩;rcases ho with ho|ho<;>
  ·simp only [execOp,ho,hm.2];rw [qD,r1,qA];rfl
 ·cases hx
end
section
variable (hh:HR g h w) (he:EnvR g e a)
include hh he
theorem ZLb {c:Call} {b:Builtin} {vs:List V} {z:V} (ho:o.op= .call c) (hc:c.callee= .builtin b) (hvs:evs e c.args.toList=some vs) (hx:ZH3 P b c.argTypes.toList vs h=some (z,h')):OpOK P o a w g (some z) h':=by
 have hr:=ZI5 he hvs;rw [<-jM] at hr;have hargs:c.args.map a.eval=(c.args.map a.eval).toList.toArray:=(yS).symm;generalize hA:(c.args.map a.eval).toList=A at hr hargs;have hty:c.argTypes=c.argTypes.toList.toArray:=(yS).symm;generalize hT:c.argTypes.toList=T at hx hty;have hB:=ZKE (P:=P) (w:=w) (a:=a) ho hc;rw [hargs,hty] at hB;have fin: ∀r w' g',(builtin b T.toArray o.type (ZLi c) A.toArray).run P w= .ok (.value r) w'->Rel g' z r->HR g' h' w'->Le g g'->Grew g w g' w'->OpOK P o a w g (some z) h':=
  fun r w' g' h1 h2 h3 h4 h5=>⟨_,r,w',g',by rw [hB];exact h1,.inl rfl,h2,h3,h4,h5⟩
 unfold ZH3 at hx;split at hx
 ·rename_i t ts x;simp only [Rels] at hr;obtain ⟨u,us,rfl,hu,rfl⟩:=hr;unfold ZJf at hx;split at hx
  ·simp only [qC,qF] at hx;obtain ⟨v,hv,rfl,rfl⟩:=hx;obtain ⟨r,r1,r2⟩:=ZNF (P:=P) (ts:=ts) (ty:=o.type) hh he hu hv;refine fin r w g ?_ r2 hh (Le.refl g) (Grew.refl _ _);simp only [builtin];rw [Zaw,r1,qA]
  ·simp only [qC,qF] at hx;obtain ⟨v,hv,rfl,rfl⟩:=hx;obtain ⟨r,r1,r2⟩:=ZJG (P:=P) (w:=w) hu hv (t::ts).toArray o.type;refine fin r w g ?_ r2 hh (Le.refl g) (Grew.refl _ _);simp only [builtin];rw [Zaw,r1,qA]
  ·cases hx
 ·rename_i t r x y;simp only [Rels] at hr;obtain ⟨u,us,rfl,hu,v,vs',rfl,hv,rfl⟩:=hr;unfold ZJb at hx;split at hx
  ·split at hx
   ·rename_i t2 ts;obtain ⟨r,w',g',r1,r2,r3,r4,r5⟩:=ZNr (P:=P) (ty:=o.type) hh ts hu hv hx;refine fin r w' g' ?_ r2 r3 r4 r5;simp only [builtin];rw [Zaw,r1,qA]
   ·cases hx
  ·split at hx
   ·obtain ⟨r',w',r1,r2,r3,r4⟩:=ZJm (P:=P) (ty:=o.type) hh hu hv hx;refine fin r' w' g ?_ r2 r3 (Le.refl g) r4;simp only [builtin];rw [Zaw,r1,qA]
   ·cases hx
  ·cases hx
 ·cases hx
end
end Go.Cm
end
section
namespace Go.Cm
open Go.Am (ZbJ)
attribute [local instance] wi0
variable {P:Program} {F:ZaQ} {e e2:Env} {h h':H} {ov:Option V}
def Zrf: ∀{a b:List Nat},Am.eqS a b=true->a=b
 | [],[],_=>rfl
 | x::a,y::b,h=>by
   simp only [Am.eqS,Yb] at h;rw [qE h.1,Zrf h.2]
 | [],_::_,h=>by cases h
 | _::_,[],h=>by cases h
mutual
def eqP_eq: ∀{a b:Go.Am.P},eqP a b=true->a=b
  | .int k a,b,h=>by cases b<;>simp [eqP] at h;rw [h.1,h.2]
  | .bool a,b,h=>by cases b<;>simp [eqP] at h;rw [h]
  | .str a,b,h=>by
    cases b<;>simp only [eqP] at h<;>first|(cases h;done)|skip
    rw [Zrf h]
  | .sl s r,b,h=>by
    cases b<;>simp only [eqP,Yb] at h<;>first|(cases h;done)|skip
    rw [qE h.1,eqPss_eq h.2]
def eqPs_eq: ∀{a b:List Go.Am.P},eqPs a b=true->a=b
  | [],b,h=>by cases b<;>simp [eqPs] at h;rfl
  | x::a,b,h=>by
    cases b with
    | nil=>simp [eqPs] at h
    | cons y b=>
      simp only [eqPs,Yb] at h;rw [eqP_eq h.1,eqPs_eq h.2]
def eqPss_eq: ∀{a b:List (List Go.Am.P)},eqPss a b=true->a=b
  | [],b,h=>by cases b<;>simp [eqPss] at h;rfl
  | x::a,b,h=>by
    cases b with
    | nil=>simp [eqPss] at h
    | cons y b=>
      simp only [eqPss,Yb] at h;rw [eqPs_eq h.1,eqPss_eq h.2]
end
mutual
def eqV_eq: ∀{a b:V},eqV a b=true->a=b
  | .int k a,b,h=>by
    cases b<;>simp [eqV] at h;rw [h.1,h.2]
  | .bool a,b,h=>by cases b<;>simp [eqV] at h;rw [h]
  | .str a,b,h=>by
    cases b<;>simp only [eqV] at h<;>first|cases h|skip
    rw [Zrf h]
  | .nilp,b,h=>by cases b<;>simp [eqV] at h;rfl
  | .ptr x y,b,h=>by
    cases b<;>simp [eqV] at h;rw [h.1,h.2]
  | .nils,b,h=>by cases b<;>simp [eqV] at h;rfl
  | .sl a b c d e x,.sl a' b' c' d' e' x',h=>by
    simp only [eqV,Yb,beq_iff_eq] at h;obtain ⟨⟨⟨⟨⟨h1,h2⟩,h3⟩,h4⟩,h5⟩,h6⟩:=h;rw [qE h1,qE h2,qE h3,qE h4,qE h5,h6]
  | .sl a b c d e x,.int ..,h| .sl a b c d e x,.bool ..,h| .sl a b c d e x,.str ..,h| .sl a b c d e x,.nilp,h| .sl a b c d e x,.ptr ..,h| .sl a b c d e x,.nils,h| .sl a b c d e x,.emp,h| .sl a b c d e x,.nilm,h| .sl a b c d e x,.map ..,h
  | .sl a b c d e x,.nilf,h| .sl a b c d e x,.nili,h| .sl a b c d e x,.fn ..,h| .sl a b c d e x,.yld ..,h| .sl a b c d e x,.dat ..,h| .sl a b c d e x,.dp ..,h| .sl a b c d e x,.agg ..,h| .sl a b c d e x,.tup ..,h=>by simp [eqV] at h
  | .emp,b,h=>by cases b<;>simp [eqV] at h;rfl
  | .nilm,b,h=>by cases b<;>simp [eqV] at h;rfl
  | .map a,b,h=>by cases b<;>simp [eqV] at h;rw [h]
  | .nilf,b,h=>by cases b<;>simp [eqV] at h;rfl
  | .nili,b,h=>by cases b<;>simp [eqV] at h;rfl
  | .yld a,b,h=>by cases b<;>simp [eqV] at h;rw [h]
  | .dat s r,b,h=>by
    cases b<;>simp only [eqV,Yb] at h<;>first|(cases h;done)|skip
    rw [qE h.1,eqPss_eq h.2]
  | .dp r,b,h=>by
    cases b<;>simp only [eqV] at h<;>first|(cases h;done)|skip
    rw [eqPs_eq h]
  | .fn f x y,b,h=>by
    cases b<;>simp only [eqV,Yb] at h<;>first|(cases h;done)|skip
    obtain ⟨⟨h1,h2⟩,h3⟩:=h;rw [qE h1,eqVs_eq h2,eqVs_eq h3]
  | .agg a,b,h=>by
    cases b<;>simp only [eqV] at h<;>first|cases h|skip
    rw [eqVs_eq h]
  | .tup a,b,h=>by
    cases b<;>simp only [eqV] at h<;>first|cases h|skip
    rw [eqVs_eq h]
def eqVs_eq: ∀{a b:List V},eqVs a b=true->a=b
  | [],b,h=>by cases b<;>simp [eqVs] at h;rfl
  | x::a,b,h=>by
    cases b with
    | nil=>simp [eqVs] at h
    | cons y b=>
      simp only [eqVs,Yb] at h;rw [eqV_eq h.1,eqVs_eq h.2]
end
def ZMc {v:V} {o:Option V} (h:eqOV v o=true):o=some v:=by
 cases o with
 | none=>cases h
 | some y=>rw [eqV_eq (show eqV v y=true from h)]
def ZNa {x:Option O} {o:O} (h:eqOb x o=true):x=some o:=by
 unfold eqOb at h;split at h
 ·simp only [Yb] at h;obtain ⟨⟨⟨h1,h2⟩,h3⟩,h4⟩:=h;rw [eqVs_eq h1,qE h2,qE h3,eq_of_beq h4]
 ·rw [qE h]
 ·cases h
def ZNo {x y:Option (Nat×Nat)} (h:eqTy x y=true):x=y:=by
 unfold eqTy at h;split at h
 ·rfl
 ·simp only [Yb] at h;rw [qE h.1,qE h.2]
 ·cases h
def Agr (e e2:Env) (l:List Operand):Prop:= ∀x∈l,ev e x=ev e2 x
def Agr.of {l:List Operand} (ht: ∀t∈ZIr l,e.get t=e2.get t):Agr e e2 l:=by
 induction l with
 | nil=>intro x hx;cases hx
 | cons y l ih=>
   intro x hx;have hl: ∀t∈ZIr l,e.get t=e2.get t:=fun t h=>ht t (by cases y<;>simp [ZIr,h]);rcases List.mem_cons.1 hx with rfl|hx
   · cases x with
     | tmp t=>exact ht t (by simp [ZIr])
     | _=>rfl
   · exact ih hl x hx
def ZIw: ∀{xs:List Operand},Agr e e2 xs->evs e xs=evs e2 xs
 | [],_=>rfl
 | x::xs,h=>by simp only [evs,h x Zs,ZIw (xs:=xs) fun y hy=>h y (Yk _ hy)]
def ZHZ: ∀{ps:List (Nat×Operand)},Agr e e2 (ps.map (·.2))->ZJg e ps=ZJg e2 ps
 | [],_=>rfl
 | (i,x)::ps,h=>by simp only [ZJg,h x Zs,ZHZ (ps:=ps) fun y hy=>h y (Yk _ hy)]
def ZH7 {x:Option Operand} (h:Agr e e2 x.toList):optV e x=optV e2 x:=by
 cases x with
 | none=>rfl
 | some x=>simp only [optV,h x Zs]
def ZIe {op:Op} (h:Agr e e2 (ZHr op)):mkV P e op=mkV P e2 op:=by
 cases op with
 | alloc el=>rfl
 | box t x=>simp only [mkV,h x (by simp [ZHr])]
 | buildSlice t n ps=>simp only [mkV,ZHZ (show Agr e e2 (ps.toList.map (·.2)) from h)]
 | makeMap t r=>simp only [mkV,ZH7 (show Agr e e2 r.toList from h)]
 | makeSlice t l c=>simp only [mkV,h l (by simp [ZHr]),h c (by simp [ZHr])]
 | _=>rfl
def ZKn {op:Op} (ha:Agr e e2 (ZHr op)):opV P F e h op=opV P F e2 h op:=by
 cases op with
 | move x=>simp only [opV,ha x (by simp [ZHr])]
 | assign x=>simp only [opV,ha x (by simp [ZHr])]
 | pick c x y=>simp only [opV,ha c (by simp [ZHr]),ha x (by simp [ZHr]),ha y (by simp [ZHr])]
 | alloc el=>rfl
 | box t x=>simp only [opV,ZIe ha]
 | build t ps=>simp only [opV,ZHZ (show Agr e e2 (ps.toList.map (·.2)) from ha)]
 | buildSlice t n ps=>simp only [opV,ZIe ha]
 | load t x=>simp only [opV,ha x (by simp [ZHr])]
 | store t x y=>simp only [opV,ha x (by simp [ZHr]),ha y (by simp [ZHr])]
 | nilCheck x=>simp only [opV,ha x (by simp [ZHr])]
 | binOp op t x y t'=>simp only [opV,ha x (by simp [ZHr]),ha y (by simp [ZHr])]
 | unOp op t x=>simp only [opV,ha x (by simp [ZHr])]
 | convert s d x=>simp only [opV,ha x (by simp [ZHr])]
 | makeFunc f x y=>
   cases f with
   | func f=>
     have h1:evs e x.toList=evs e2 x.toList:=ZIw fun z hz=>ha z (by simp [ZHr] at hz⊢;exact .inl hz);have h2:evs e y.toList=evs e2 y.toList:=ZIw fun z hz=>ha z (by simp [ZHr] at hz⊢;exact .inr hz);simp only [opV,h1,h2]
   | _=>rfl
 | makeMap t r=>simp only [opV,ZIe ha]
 | makeSlice t l c=>simp only [opV,ZIe ha]
 | slice t x lo hi mx=>
   have h1:optV e lo=optV e2 lo:=ZH7 fun z hz=>ha z (by simp [ZHr] at hz⊢;simp [hz]);have h2:optV e hi=optV e2 hi:=ZH7 fun z hz=>ha z (by simp [ZHr] at hz⊢;simp [hz]);have h3:optV e mx=optV e2 mx:=ZH7 fun z hz=>ha z (by simp [ZHr] at hz⊢;simp [hz]);simp only [opV,ha x (by simp [ZHr]),h1,h2,h3]
 | fieldAddr t x f=>simp only [opV,ha x (by simp [ZHr])]
 | field t x f=>simp only [opV,ha x (by simp [ZHr])]
 | indexAddr t x i=>simp only [opV,ha x (by simp [ZHr]),ha i (by simp [ZHr])]
 | index t x i=>simp only [opV,ha x (by simp [ZHr]),ha i (by simp [ZHr])]
 | lookup t x i ok=>simp only [opV,ha x (by simp [ZHr]),ha i (by simp [ZHr])]
 | mapUpdate t m k x=>simp only [opV,ha m (by simp [ZHr]),ha k (by simp [ZHr]),ha x (by simp [ZHr])]
 | insert t m k x=>simp only [opV,ha m (by simp [ZHr]),ha k (by simp [ZHr]),ha x (by simp [ZHr])]
 | range t x=>rfl
 | next x isS=>rfl
 | entry x=>rfl
 | extract t i=>simp only [opV,ha t (by simp [ZHr])]
 | call c=>
   have h1:evs e c.args.toList=evs e2 c.args.toList:=ZIw fun z hz=>ha z (by simp only [ZHr,Ys];exact .inr hz);simp only [opV,h1];cases hc:c.callee with
   | value f=>
     have h2:=ha f (by simp [ZHr,hc]);cases evs e2 c.args.toList with
     | none=>rfl
     | some args=>simp only [h2]
   | _=>cases evs e2 c.args.toList<;>rfl
 | _=>rfl
def ZKe {op:Op} (hc:ZIo op=0) (hx:opV P F e h op=some (ov,h')):h'=h/\ ∀h2,opV P F e h2 op=some (ov,h2):=by
 cases op with
 | move x=>
   simp only [opV] at hx⊢
   repeat' split at hx
   all_goals first
     | (cases hx;done)
     | (simp only [Ye,YM] at hx;obtain ⟨rfl,rfl⟩:=hx;exact ⟨rfl,fun _=>by simp_all⟩)
     | (simp only [YG,YM] at hx;obtain ⟨v,h1,rfl,rfl⟩:=hx;exact ⟨rfl,fun _=>by simp_all⟩)
 | assign x=>
   simp only [opV] at hx⊢
   repeat' split at hx
   all_goals first
     | (cases hx;done)
     | (simp only [Ye,YM] at hx;obtain ⟨rfl,rfl⟩:=hx;exact ⟨rfl,fun _=>by simp_all⟩)
     | (simp only [YG,YM] at hx;obtain ⟨v,h1,rfl,rfl⟩:=hx;exact ⟨rfl,fun _=>by simp_all⟩)
 | pick c x y=>
   simp only [opV] at hx⊢
   repeat' split at hx
   all_goals first
     | (cases hx;done)
     | (simp only [Ye,YM] at hx;obtain ⟨rfl,rfl⟩:=hx;exact ⟨rfl,fun _=>by simp_all⟩)
     | (simp only [YG,YM] at hx;obtain ⟨v,h1,rfl,rfl⟩:=hx;exact ⟨rfl,fun _=>by simp_all⟩)
 | build t ps=>
   simp only [opV] at hx⊢
   repeat' split at hx
   all_goals first
     | (cases hx;done)
     | (simp only [Ye,YM] at hx;obtain ⟨rfl,rfl⟩:=hx;exact ⟨rfl,fun _=>by simp_all⟩)
     | (simp only [YG,YM] at hx;obtain ⟨v,h1,rfl,rfl⟩:=hx;exact ⟨rfl,fun _=>by simp_all⟩)
 | nilCheck x=>
   simp only [opV] at hx⊢
   repeat' split at hx
   all_goals first
     | (cases hx;done)
     | (simp only [Ye,YM] at hx;obtain ⟨rfl,rfl⟩:=hx;exact ⟨rfl,fun _=>by simp_all⟩)
     | (simp only [YG,YM] at hx;obtain ⟨v,h1,rfl,rfl⟩:=hx;exact ⟨rfl,fun _=>by simp_all⟩)
 | binOp op t x y t'=>
   simp only [opV] at hx⊢
   repeat' split at hx
   all_goals first
     | (cases hx;done)
     | (simp only [Ye,YM] at hx;obtain ⟨rfl,rfl⟩:=hx;exact ⟨rfl,fun _=>by simp_all⟩)
     | (simp only [YG,YM] at hx;obtain ⟨v,h1,rfl,rfl⟩:=hx;exact ⟨rfl,fun _=>by simp_all⟩)
 | unOp op t x=>
   simp only [opV] at hx⊢
   repeat' split at hx
   all_goals first
     | (cases hx;done)
     | (simp only [Ye,YM] at hx;obtain ⟨rfl,rfl⟩:=hx;exact ⟨rfl,fun _=>by simp_all⟩)
     | (simp only [YG,YM] at hx;obtain ⟨v,h1,rfl,rfl⟩:=hx;exact ⟨rfl,fun _=>by simp_all⟩)
 | slice t x lo hi mx=>
   simp only [opV] at hx⊢
   repeat' split at hx
   all_goals first
     | (cases hx;done)
     | (simp only [Ye,YM] at hx;obtain ⟨rfl,rfl⟩:=hx;exact ⟨rfl,fun _=>by simp_all⟩)
     | (simp only [YG,YM] at hx;obtain ⟨v,h1,rfl,rfl⟩:=hx;exact ⟨rfl,fun _=>by simp_all⟩)
 | fieldAddr t x f=>
   simp only [opV] at hx⊢
   repeat' split at hx
   all_goals first
     | (cases hx;done)
     | (simp only [Ye,YM] at hx;obtain ⟨rfl,rfl⟩:=hx;exact ⟨rfl,fun _=>by simp_all⟩)
     | (simp only [YG,YM] at hx;obtain ⟨v,h1,rfl,rfl⟩:=hx;exact ⟨rfl,fun _=>by simp_all⟩)
 | field t x f=>
   simp only [opV] at hx⊢
   repeat' split at hx
   all_goals first
     | (cases hx;done)
     | (simp only [Ye,YM] at hx;obtain ⟨rfl,rfl⟩:=hx;exact ⟨rfl,fun _=>by simp_all⟩)
     | (simp only [YG,YM] at hx;obtain ⟨v,h1,rfl,rfl⟩:=hx;exact ⟨rfl,fun _=>by simp_all⟩)
 | indexAddr t x i=>
   simp only [opV] at hx⊢
   repeat' split at hx
   all_goals first
     | (cases hx;done)
     | (simp only [Ye,YM] at hx;obtain ⟨rfl,rfl⟩:=hx;exact ⟨rfl,fun _=>by simp_all⟩)
     | (simp only [YG,YM] at hx;obtain ⟨v,h1,rfl,rfl⟩:=hx;exact ⟨rfl,fun _=>by simp_all⟩)
 | index t x i=>
   simp only [opV] at hx⊢
   repeat' split at hx
   all_goals first
     | (cases hx;done)
     | (simp only [Ye,YM] at hx;obtain ⟨rfl,rfl⟩:=hx;exact ⟨rfl,fun _=>by simp_all⟩)
     | (simp only [YG,YM] at hx;obtain ⟨v,h1,rfl,rfl⟩:=hx;exact ⟨rfl,fun _=>by simp_all⟩)
 | extract t i=>
   simp only [opV] at hx⊢
   repeat' split at hx
   all_goals first
     | (cases hx;done)
     | (simp only [Ye,YM] at hx;obtain ⟨rfl,rfl⟩:=hx;exact ⟨rfl,fun _=>by simp_all⟩)
     | (simp only [YG,YM] at hx;obtain ⟨v,h1,rfl,rfl⟩:=hx;exact ⟨rfl,fun _=>by simp_all⟩)
 | makeFunc f x y=>
   cases f with
   | func f=>
     simp only [opV] at hx⊢
     repeat' split at hx
     all_goals first
       | (cases hx;done)
       | (simp only [Ye,YM] at hx;obtain ⟨rfl,rfl⟩:=hx;exact ⟨rfl,fun _=>by simp_all⟩)
       | (simp only [YG,YM] at hx;obtain ⟨v,h1,rfl,rfl⟩:=hx;exact ⟨rfl,fun _=>by simp_all⟩)
   | _=>simp [opV] at hx
 | call c=>
   simp only [ZIo] at hc;split at hc<;>cases hc
 | _=>simp [ZIo] at hc
def ZKV {op:Op} (hc:ZIo op=1) (hx:opV P F e h op=some (ov,h')):h'=h:=by
 cases op with
 | load t x=>
   simp only [opV] at hx;split at hx
   · simp only [YG,YM] at hx;obtain ⟨_,_,_,rfl⟩:=hx;rfl
   · cases hx
 | convert s d x=>
   simp only [opV] at hx;split at hx
   · simp only [YG,YM] at hx;obtain ⟨_,_,_,rfl⟩:=hx;rfl
   · cases hx
 | lookup t x i ok=>
   simp only [opV] at hx;repeat' split at hx
   all_goals simp_all
 | entry x=>simp [opV] at hx
 | call c=>
   simp only [ZIo] at hc;have key: ∀(b:Builtin) (ts:List TypeId) (vs:List V) (z:V) (h1:H),(b= .len∨b= .min∨b= .max∨b= .unsafeSliceData)->ZH3 P b ts vs h=some (z,h1)->h1=h:=fun b ts vs z h1 hb hz=>by
     unfold ZH3 at hz;rcases hb with rfl|rfl|rfl|rfl<;>
     · split at hz
       · simp only [ZJf,YG,YM] at hz
         first|(obtain ⟨_,_,_,rfl⟩:=hz;rfl)|cases hz
       · simp only [ZJb,YG,YM] at hz
         first|(obtain ⟨_,_,_,rfl⟩:=hz;rfl)|cases hz
       · cases hz
   simp only [opV] at hx;split at hc
   all_goals first|cases hc|skip
   all_goals
     rename_i hcal;simp only [hcal] at hx;split at hx
     · rename_i hh _;cases hh
     · rename_i b args hb hargs;cases hb;simp only [YG,YM] at hx;obtain ⟨⟨z,h1⟩,hz,rfl,rfl⟩:=hx;exact key _ _ _ _ _ Zs hz
     · cases hx
 | _=>simp [ZIo] at hc
def ZM3 {op:Op} (hc:ZIo op=2):opV P F e h op=mkR h (mkV P e op):=by
 cases op with
 | alloc el=>rfl
 | box t x=>rfl
 | buildSlice t n ps=>rfl
 | makeMap t r=>rfl
 | makeSlice t l c=>rfl
 | call c=>
   simp only [ZIo] at hc;split at hc<;>cases hc
 | _=>simp [ZIo] at hc
def ZHz (F:ZaQ):Prop:= ∀f args h v h',F f args h=some (v,h')->h.next<=h'.next
def ZMn {b o:Nat} {xs:List V} (hx:h.wr b o xs=some h'):h.next<=h'.next:=by
 unfold H.wr at hx
 repeat' split at hx
 all_goals first|cases hx|skip
 all_goals exact Yc _
def ZLf {t:TypeId} {b:Nat} {k x:V} (hx:ZKB P h t b k x=some h'):h.next<=h'.next:=by
 unfold ZKB at hx
 repeat' split at hx
 all_goals first|cases hx|skip
 all_goals exact Yc _
def ZMt {el s:Nat} {a x z:V} (hx:ZKk h el s a x=some (z,h')):h.next<=h'.next:=by
 unfold ZKk ZOg at hx
 repeat' split at hx
 all_goals first|(cases hx;done)|skip
 all_goals first
    | (simp only [Ye,YM] at hx;obtain ⟨_,rfl⟩:=hx;first|exact Yc _|exact Nat.le_succ _|exact ZMn Za)
def ZNk {b:Builtin} {ts:List TypeId} {vs:List V} {z:V} (hx:ZH3 P b ts vs h=some (z,h')):h.next<=h'.next:=by
 unfold ZH3 at hx;split at hx
 ·unfold ZJf at hx;split at hx
  ·simp only [YG,YM] at hx;obtain ⟨_,_,_,rfl⟩:=hx;exact Yc _
  ·simp only [YG,YM] at hx;obtain ⟨_,_,_,rfl⟩:=hx;exact Yc _
  ·cases hx
 ·unfold ZJb at hx;split at hx
  ·split at hx
   ·unfold appV at hx
    repeat' split at hx
    all_goals first|(cases hx;done)|exact ZMt hx
   ·cases hx
  ·split at hx
   ·unfold ZId at hx
    repeat' split at hx
    all_goals first
          | (cases hx;done)
          | (cases hx;exact Yc _)
          | (simp only [YG,YM] at hx;obtain ⟨_,_,_,rfl⟩:=hx;exact Yc _)
   ·cases hx
  ·cases hx
 ·cases hx
def ZJU (hF:ZHz F) {op:Op} (hx:opV P F e h op=some (ov,h')):h.next<=h'.next:=by
 by_cases h0:ZIo op=0
 · rw [(ZKe h0 hx).1];exact Yc _
 by_cases h1:ZIo op=1
 · rw [ZKV h1 hx];exact Yc _
 by_cases h2:ZIo op=2
 · rw [ZM3 h2] at hx;simp only [mkR,YG,YM] at hx;obtain ⟨_,_,_,rfl⟩:=hx;exact Nat.le_succ _
 cases op with
 | store t x y=>
   simp only [opV] at hx;split at hx
   · simp only [YG,YM] at hx;obtain ⟨h1,hs,_,rfl⟩:=hx;unfold ZJd at hs
     repeat' split at hs
     all_goals first|(cases hs;done)|exact ZMn hs
   · cases hx
 | mapUpdate t m k x=>
   simp only [opV] at hx;split at hx
   · simp only [YG,YM] at hx;obtain ⟨h1,hs,_,rfl⟩:=hx;exact ZLf hs
   · cases hx
 | insert t m k x=>
   simp only [opV] at hx;split at hx
   · simp only [YG,YM] at hx;obtain ⟨h1,hs,_,rfl⟩:=hx;exact ZLf hs
   · cases hx
 | call c=>
   simp only [opV] at hx;split at hx
   · split at hx
     · simp only [YG,YM] at hx;obtain ⟨⟨z,h1⟩,hs,_,rfl⟩:=hx;unfold ZN5 at hs;split at hs
       · rename_i f first caps _
         cases hlt:Nat.blt f YB with
         | true=>rw [hlt] at hs;exact hF _ _ _ _ _ hs
         | false=>rw [hlt] at hs;cases hs
       · exact hF _ _ _ _ _ hs
       · cases hs
     · cases hx
   · simp only [YG,YM] at hx;obtain ⟨⟨z,h1⟩,hs,_,rfl⟩:=hx;exact ZNk hs
   · cases hx
 | _=>first|(exact absurd rfl h0)|(exact absurd rfl h1)|(exact absurd rfl h2)|(simp [opV] at hx;done)
end Go.Cm
end
