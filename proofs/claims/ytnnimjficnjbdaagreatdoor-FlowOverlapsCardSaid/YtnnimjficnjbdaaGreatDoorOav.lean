/- Part. -/
import Derived.Test.YtnnimjficnjbdaaGreatDoorOau
import Derived.Test.YtnnimjficnjbdaaGreatDoorOan
set_option maxRecDepth 999999
set_option maxHeartbeats 0
set_option linter.all false
section
namespace Go.Cm
open Go.Am (ZbJ Ze7 Zaw Addr.add_eq)
open Go.MapKept
attribute [local instance] wi0
variable {P:Program} {F:ZaQ} {g:G} {e:Env} {a:Act} {w:World} {h h':H} {ov:Option V} {o:Oper}
def ZJc (base:Option Addr) (news:List Value):Sem Unit:=
 match base with
 | some a=>storeCells a news
 | none=>pure ()
theorem ZLu {t ty el:TypeId} {i:TypeInfo} (ht:P.underlying t=some (.slice el)) (hi:P.info? el=some i) (ts:List TypeId) {base:Option Addr} {len cap n:Nat} {x:Value} {news:List Value} (hs:Src P i.size x n news w):
  (Builtin.copy_ (t::ts).toArray ty #[.slice base len cap,x]).run P w=((ZJc base (news.take (Nat.min n len*i.size))).run P w).andThen fun _ w'=> .ok (goInt (Nat.min n len)) w':=by
 have hc:=hs.cells (Nat.min n len) (Nat.min_le_left _ _)
 cases base<;>simp [ZJc,Builtin.copy_,run_underlying ht,sizeOf,typeInfo,hi,hs.len,hc]
theorem ZOR (hh:HR g h w) {t ty:TypeId} (ts:List TypeId) {x y z:V} {p q:Value} (hp:Rel g x p) (hq:Rel g y q) (hx:ZQd P h t x y=some (z,h')):
  ∃r w' g',(Builtin.copy_ (t::ts).toArray ty #[p,q]).run P w= .ok r w'/\Rel g' z r/\HR g' h' w'/\Le g g'/\Grew g w g' w':=by
 unfold ZQd at hx
 split at hx
 ·rename_i el ht
  split at hx
  ·rename_i s hs
   obtain ⟨i,hi,rfl⟩:=Option.map_eq_some_iff.1 hs
   split at hx
   ·rename_i b off s' len lo ex n cs hcell
    obtain ⟨news,hn,hsrc⟩:=ZJU (P:=P) hh hq hcell
    split at hx
    ·rename_i hss
     subst hss
     obtain ⟨hb,cap,rfl,c1,c2,c3,c4⟩:=ZIZ hp
     have hrun:=ZLu (w:=w) (ty:=ty) ht hi ts (base:=some (g.at b off)) (len:=len) (cap:=cap) hsrc
     have hmin:Nat.min n len=min n len:=rfl
     split at hx
     ·rename_i h0
      cases hx
      rw [hmin,h0] at hrun
      simp only [Nat.zero_mul,List.take_zero,ZJc] at hrun
      exact ⟨.int .i64 0,w,g,by rw [hrun];simp [storeCells,goInt],by simp only [Rel],hh,Le.refl g,Grew.refl _ _⟩
     ·split at hx
      ·rename_i h1 hwr
       cases hx
       have hn':=hn.take (min n len*i.size)
       obtain ⟨w1,vs,tt,w2,w3,w4,w5⟩:=hh.write hb hwr hn'
       refine ⟨.int .i64 (min (n:Int) len),_,g,?_,by simp only [Rel],w4,Le.refl g,w5⟩
       rw [hrun,hmin]
       have:=ZHw (P:=P) w2 w3 w1
       simp only [ZJc,G.at]
       rw [this]
       simp only [goInt,Result.andThen_ok]
       congr 2
       omega
      ·cases hx
    ·cases hx
   ·rename_i r hcell
    cases hx
    obtain ⟨n,cs⟩:=r
    obtain ⟨news,hn,hsrc⟩:=ZJU (P:=P) hh hq hcell
    have:p= .slice none 0 0:=by simpa only [Rel] using hp
    subst this
    have hrun:=ZLu (w:=w) (ty:=ty) ht hi ts (base:=none) (len:=0) (cap:=0) hsrc
    refine ⟨.int .i64 0,w,g,?_,by simp only [Rel],hh,Le.refl g,Grew.refl _ _⟩
    rw [hrun]
    simp [ZJc,goInt]
   ·cases hx
  ·cases hx
 ·cases hx
theorem HR.putObj (hh:HR g h w) {b:Nat} {o o':O} (hbn:g.ex b) (hb:h.obs.get b=some o) (hc:ZJD o=false) (hc':ZJD o'=false) {ob:Obj} (hob:ObOK g h.low {w with heap:=w.heap.setIfInBounds (g.β b).1 ob} b o'):
  HR g (h.setObj b o') {w with heap:=w.heap.setIfInBounds (g.β b).1 ob}:=by
 have hobs: ∀k,(h.setObj b o').obs.get k=if k=b then some o' else h.obs.get k:=fun k=>T.get_set _ _ _ _
 have hal: ∀k gr ver kid cs,(h.setObj b o').obs.get k=some (.cells cs gr ver kid)->h.obs.get k=some (.cells cs gr ver kid):=fun k gr ver kid cs h1=>by
  rw [hobs] at h1
  split at h1
  ·cases h1;cases hc'
  ·exact h1
 have ha: ∀{k gr ver kid cs},ZHG g (h.setObj b o') k gr ver kid cs->ZHG g h k gr ver kid cs:=fun ⟨h1,h2⟩=>⟨hal _ _ _ _ _ h1,h2⟩
 refine ⟨by simpa using hh.bs,hh.nx,hh.top,hh.mins,fun k cs gr ver kid hx hk=>hh.grp k cs gr ver kid hx (hal _ _ _ _ _ hk),fun k hk=>by simpa using hh.blk k hk,fun k o1 hx hk=>?_,hh.tl,fun k t n hx hk=>?_,
  fun b1 b2 gr ver kid cs gr' ver' kid' cs' h1 h2=>hh.i1 b1 b2 gr ver kid cs gr' ver' kid' cs' (ha h1) (ha h2),fun b1 b2 gr ver cs ver' kid' cs' h1 h2=>hh.i2 b1 b2 gr ver cs ver' kid' cs' (ha h1) (ha h2),
  fun b1 b2 gr ver cs ver' cs' x1 x2 h1 h2=>hh.i4 b1 b2 gr ver cs ver' cs' x1 x2 (hal _ _ _ _ _ h1) (hal _ _ _ _ _ h2),fun k o1 k' hx hk hc1 hk' hne=>?_,hh.dt.at hbn Zs fun k hk=>by simp only [Array.getElem?_setIfInBounds];rw [if_neg (Ne.symm hk)]⟩
 ·rw [hobs] at hk
  split at hk
  ·rename_i e;cases hk;rw [e];exact hob
  ·rename_i hne
   refine (hh.ob k o1 hx hk).mono (Le.refl g).toLe0 hx ?_
   have:=hh.dm b o k hbn hb hc hx hne
   simp only [Array.getElem?_setIfInBounds]
   rw [if_neg this]
 ·obtain ⟨q1,vs,fz,q2,q3⟩:=hh.ty k t n hx hk
  have hkb:k≠b:=fun e=>by
   rw [e] at q2
   have hbo:=hh.ob b o hbn hb
   cases o with
   | cells=>cases hc
   | map=>unfold ObOK at hbo;obtain ⟨_,z1,_⟩:=hbo;rw [q2] at z1;cases z1
   | siter=>unfold ObOK at hbo;obtain ⟨_,z1,_⟩:=hbo;rw [q2] at z1;cases z1
   | miter=>unfold ObOK at hbo;have z1:=hbo.1;rw [q2] at z1;cases z1
   | loop=>unfold ObOK at hbo;obtain ⟨_,z1,_⟩:=hbo;rw [q2] at z1;cases z1
   | mapU=>unfold ObOK at hbo;obtain ⟨_,_,_,z1,_⟩:=hbo;rw [q2] at z1;cases z1
  have:=hh.dm b o k hbn hb hc hx hkb
  refine ⟨q1,vs,fz,?_,q3⟩
  simp only [Array.getElem?_setIfInBounds]
  rw [if_neg this]
  exact q2
 ·rw [hobs] at hk
  split at hk
  ·rename_i e;rw [e] at hne⊢;exact hh.dm b o k' hbn hb hc hk' hne
  ·exact hh.dm k o1 k' hx hk hc1 hk' hne
theorem ZHA (hh:HR g h w) {b:Nat} (hb:g.ex b) (ob:Obj):Grew g w g {w with heap:=w.heap.setIfInBounds (g.β b).1 ob}:=
 ⟨rfl,rfl,rfl,by simp,fun k hk hn=>by
  simp only [Array.getElem?_setIfInBounds]
  rw [if_neg (hn b hb)],fun b hb=> .inl ⟨b,hb,rfl⟩,fun _ _=>rfl⟩
theorem Zyb (hh:HR g h w) {b:Nat} (hb:g.ex b) (ob:Obj):({w with heap:=w.heap.setIfInBounds (g.β b).1 ob}:World).heap[(g.β b).1]? =some ob:=by
 have:=(hh.blk b hb).2
 simp [Array.getElem?_setIfInBounds,this]
theorem ZKz {z:List V} {zv:Value} (hz:Rels g z zv.cells.toList) (h0:0<z.length) (n:Nat):Rels g (List.replicate n z).flatten (Builtin.zeroCells zv.cells n).toList:=by
 have hsz:zv.cells.size=z.length:=by have:=hz.len;simp at this;omega
 rw [Rels.iff]
 refine ⟨by simp [Builtin.zeroCells,hsz],fun i x v hx hv=>?_⟩
 rw [ZKL z h0] at hx
 split at hx
 ·rename_i hi
  have hlt:i % z.length<z.length:=Nat.mod_lt _ h0
  have hv':v=zv.cells[i % z.length]'(by omega):=by
   rw [Array.getElem?_toList] at hv
   simp only [Builtin.zeroCells,Array.getElem?_map,Array.getElem?_range,hsz,hi,if_true,Option.map_some,Option.some.injEq] at hv
   rw [<-hv,getElem!_pos]
  rw [hv']
  exact (Rels.iff.1 hz).2 (i % z.length) x _ hx (by simp [List.getElem?_eq_getElem,hsz,hlt])
 ·cases hx
theorem ZNz (hh:HR g h w) {t ty:TypeId} (ts:List TypeId) {x:V} {p:Value} (hp:Rel g x p) (hx:ZNI P h t x=some h'):
  ∃w',(Builtin.clear_ (t::ts).toArray ty #[p]).run P w= .ok (.tuple #[]) w'/\HR g h' w'/\Grew g w g w':=by
 unfold ZNI at hx
 split at hx
 ·rename_i d ht
  cases hx
  have:p= .map none:=by simpa only [Rel] using hp
  subst this
  exact ⟨w,by cases d<;>simp [Builtin.clear_,run_underlying ht],hh,Grew.refl _ _⟩
 ·rename_i d ht
  cases hx
  have:p= .slice none 0 0:=by simpa only [Rel] using hp
  subst this
  exact ⟨w,by cases d<;>simp [Builtin.clear_,run_underlying ht],hh,Grew.refl _ _⟩
 ·rename_i k el b ht
  split at hx
  ·rename_i es c hb
   cases hx
   simp only [Rel] at hp
   obtain ⟨hbn,rfl⟩:=hp
   obtain ⟨ms,q1,q2,q3⟩:=hh.ob b _ hbn hb
   refine ⟨_,?_,hh.putObj hbn hb rfl rfl (ob:= .map #[] c) ⟨#[],Zyb hh hbn _,⟨rfl,fun i e he=>by simp at he⟩,q3⟩,ZHA hh hbn _⟩
   simp [Builtin.clear_,run_underlying ht,Go.MapKept.run_getObj_map q1,Go.MapKept.run_setObj_map _ q1]
  ·cases hx
 ·rename_i el b off s n lo ex ht
  split at hx
  ·rename_i s' z hel
   split at hx
   ·rename_i hc
    obtain ⟨rfl,hn0⟩:=hc
    obtain ⟨i,zv,zV,hi,hz,hzc,rfl,rfl,hzl,h0,hby⟩:=ZHV hel
    obtain ⟨hb,cap,rfl,c1,c2,c3,c4⟩:=ZIZ hp
    have hzr:=ZKz (ofConst_rel g zv hzc).cells Zo n
    obtain ⟨w1,vs,tt,w2,w3,w4,w5⟩:=hh.write hb hx hzr
    refine ⟨_,?_,w4,w5⟩
    have:=ZHw (P:=P) w2 w3 w1
    obtain ⟨n',rfl⟩: ∃n',n=n'+1:=⟨n-1,by omega⟩
    simp only [Builtin.clear_,List.getElem?_toArray,List.getElem?_cons_zero,Sem.run_bind,run_underlying ht,Result.andThen_ok,Am.Zcs hi hz,G.at,this,Sem.run_pure]
   ·cases hx
  ·cases hx
 ·cases hx
theorem ZIx {t:TypeId} {d:TypeDesc} (ht:P.underlying t=some d) {u v:Value} {b:Bool} (hs:Instr.sameNow d u v=some b):(Op.equal t u v).run P w= .ok b w:=by
 unfold Op.equal
 cases d<;>simp only [Instr.sameNow] at hs<;>try cases hs
 ·cases u<;>cases v<;>simp only [Option.some.injEq] at hs<;>first|cases hs|skip
  exact run_equalIn_bool' w _ t _ _ ht
 ·cases u<;>cases v<;>simp only at hs<;>first|cases hs|skip
  split at hs
  ·rename_i e;subst e;cases hs;exact run_equalIn_int w _ t _ _ _ _ ht
  ·cases hs
 ·cases u<;>cases v<;>simp only [Option.some.injEq] at hs<;>first|cases hs|skip
  refine Eq.trans (run_equalIn_string (P:=P) w (Op.maxDepth-1) t _ _ ht) (congrArg (Result.ok · w) ?_)
  exact (Bool.eq_iff_iff.2 ((Go.MapKept.bytes_beq _ _).trans ⟨fun h=>by rw [h];simp,fun h=>Am.ZsC (by rw [Am.ZbU,Am.ZbU,beq_iff_eq.1 h])⟩)).symm
theorem ZJE {t:TypeId} {d:TypeDesc} (ht:P.underlying t=some d) {k:Value}: ∀(ms:List MapEntry) (i:Nat) {q r:Option (Nat×Value)},Instr.findNow d k ms i=some q->(Instr.findAsking t k ms i).run P w= .ok r w->q=r
 | [],i,q,r,h1,h2=>by
   simp only [Instr.findNow,Option.some.injEq] at h1
   simp only [Instr.findAsking,Sem.run_pure,Result.ok.injEq] at h2
   rw [<-h1,<-h2.1]
 | m::ms,i,q,r,h1,h2=>by
   simp only [Instr.findNow] at h1
   simp only [Instr.findAsking] at h2
   split at h1
   · rename_i hs
     rw [Sem.run_bind,ZIx ht hs,Result.andThen_ok] at h2
     simp only [if_true,Sem.run_pure,Result.ok.injEq] at h2
     simp only [Option.some.injEq] at h1
     rw [<-h1,<-h2.1]
   · rename_i hs
     rw [Sem.run_bind,ZIx ht hs,Result.andThen_ok] at h2
     exact ZJE ht ms (i+1) h1 (by simpa using h2)
   · cases h1
theorem ZLx {t:TypeId} {k:V} {kv:Value} (hk:Rel g k kv): ∀(es:List En) (ms:List MapEntry) (i:Nat) {r:Option (Nat×V)},es.length=ms.length->(∀(j:Nat) e m,es[j]? =some e->ms[j]? =some m->RelE g e m)->ZNf P t k es i=some r->
   ∃r',(Instr.findAsking t kv ms i).run P w= .ok r' w/\match r with
     | none=>r'=none
     | some (j,x)=> ∃e m,i<=j/\es[j-i]? =some e/\ms[j-i]? =some m/\x=e.x/\r'=some (j,m.val)
 | [],[],i,r,_,_,hf=>by
   simp only [ZNf,Option.some.injEq] at hf;subst hf
   exact ⟨none,by simp [Instr.findAsking],rfl⟩
 | e::es,m::ms,i,r,hl,hr,hf=>by
   obtain ⟨h1,h2,h3⟩:=hr 0 e m rfl rfl
   simp only [ZNf] at hf
   split at hf
   · rename_i he
     simp only [Option.some.injEq] at hf;subst hf
     have hq:(Op.equal t kv m.key).run P w= .ok true w:=ZMW (w:=w) DEEP 10000 Zd t k e.k kv m.key true he hk h1
     exact ⟨some (i,m.val),by simp [Instr.findAsking,hq],e,m,Nat.le_refl _,by simp,by simp,rfl,rfl⟩
   · rename_i he
     have hq:(Op.equal t kv m.key).run P w= .ok false w:=ZMW (w:=w) DEEP 10000 Zd t k e.k kv m.key false he hk h1
     obtain ⟨r',q1,q2⟩:=ZLx hk es ms (i+1) (by simpa using hl) (fun j e m he hm=>hr (j+1) e m (by simpa using he) (by simpa using hm)) hf
     refine ⟨r',by simp only [Instr.findAsking];rw [Sem.run_bind,hq,Result.andThen_ok];simpa using q1,?_⟩
     cases r with
     | none=>exact q2
     | some jx=>
       obtain ⟨j,x⟩:=jx
       obtain ⟨e',m',z1,z2,z3,z4,z5⟩:=q2
       have hj:j-i=(j-(i+1))+1:=by omega
       exact ⟨e',m',by omega,by rw [hj];simpa using z2,by rw [hj];simpa using z3,z4,z5⟩
   · cases hf
 | [],_::_,_,_,hl,_,_=>by simp at hl
 | _::_,[],_,_,hl,_,_=>by simp at hl
theorem ZNZ (em:Bool): ∀(n m:Nat),n≤m→ ∀(t:TypeId) (x:V) (v:Value),ckT P n t x=true→Rel g x v→(Instr.checkKey em m t v).run P w= .ok () w
  | 0,_,_,_,_,_,h,_=>by cases h
  | n+1,m,hm,t,x,v,h,hv=>by
    obtain ⟨m,rfl⟩: ∃m',m=m'+1:=⟨m-1,by omega⟩
    simp only [ckT] at h
    split at h
    · rename_i fs xs ht
      obtain ⟨us,rfl,hu⟩:=ZJg hv
      rw [Instr.checkKey]
      simp only [Sem.run_bind,run_underlying ht,Result.andThen_ok]
      rw [←Array.forIn_toList]
      generalize fs.toList=L at h
      induction L with
      | nil=>simp
      | cons f L ih=>
        simp only [ckF] at h
        by_cases hn : f.name = "_"
        · rw [if_pos hn] at h
          simp only [List.forIn_cons,Sem.run_bind,hn,ne_eq,not_true_eq_false,if_false,Sem.run_pure,Result.andThen_ok]
          exact ih h
        · rw [if_neg hn] at h
          split at h
          · rename_i y hy
            simp only [Bool.and_eq_true] at h
            obtain ⟨u,p1,p2⟩:=ZH8 (w:=w) hu hy
            have p3:=ZNZ em n m Zo f.type y u h.1 p2
            simp only [List.forIn_cons,Sem.run_bind,hn,ne_eq,not_false_eq_true,if_true,Result.andThen_ok,p1,p3,Sem.run_pure]
            exact ih h.2
          · cases h
    · rename_i ht
      rw [Instr.checkKey]
      simp only [Sem.run_bind,run_underlying ht,Result.andThen_ok]
      cases v<;>rfl
    · rename_i ht
      rw [Instr.checkKey]
      simp only [Sem.run_bind,run_underlying ht,Result.andThen_ok]
      cases v<;>rfl
    · rename_i ht
      rw [Instr.checkKey]
      simp only [Sem.run_bind,run_underlying ht,Result.andThen_ok]
      cases v<;>rfl
    · rename_i ht
      rw [Instr.checkKey]
      simp only [Sem.run_bind,run_underlying ht,Result.andThen_ok]
      cases v<;>rfl
    · cases h
theorem ZQB {n:Nat} {t:TypeId} {x:V} (h:ckT P n t x=true): ∃d,P.underlying t=some d:=by
 cases n with
 | zero=>cases h
 | succ n=>
   simp only [ckT] at h
   split at h<;>first|exact ⟨_,by assumption⟩|cases h
theorem ZHY {t:TypeId} {k:V} {kv:Value} (hk:Rel g k kv) {es:List En} {ms:Array MapEntry} (hes:RelEs g es ms) {r:Option (Nat×V)} (hs:ZMC P t k es=some r):
   (∀em,(Instr.checkKey em 10000 t kv).run P w= .ok () w)/\ ∃r',(Instr.findKey t kv ms.toList).run P w= .ok r' w/\match r with
     | none=>r'=none
     | some (j,x)=> ∃e m,es[j]? =some e/\ms[j]? =some m/\RelE g e m/\x=e.x/\r'=some (j,m.val):=by
 unfold ZMC at hs
 split at hs
 · rename_i hck
   obtain ⟨d,ht⟩:=ZQB hck
   refine ⟨fun em=>ZNZ em DEEP 10000 Zd t k kv hck hk,?_⟩
   have hrel: ∀(j:Nat) e m,es[j]? =some e->ms.toList[j]? =some m->RelE g e m:=fun j e m he hm=>by
     obtain ⟨m',q1,q2⟩:=hes.2 j e he
     rw [Array.getElem?_toList,q1] at hm
     cases hm;exact q2
   obtain ⟨r',q1,q2⟩:=ZLx (P:=P) (w:=w) (t:=t) hk es ms.toList 0 (by simpa using hes.1) hrel hs
   refine ⟨r',?_,?_⟩
   · unfold Instr.findKey
     rw [Sem.run_bind,run_underlying ht,Result.andThen_ok]
     split
     · rename_i q hq
       rw [ZJE ht _ _ hq q1];simp
     · exact q1
   · cases r with
     | none=>exact q2
     | some jx=>
       obtain ⟨j,x⟩:=jx
       obtain ⟨e,m,z1,z2,z3,z4,z5⟩:=q2
       simp only [Nat.sub_zero] at z2 z3
       exact ⟨e,m,z2,by simpa using z3,hrel j e m z2 z3,z4,z5⟩
 · cases hs
theorem ZKB {x y:V} {u v:Value} (hx:Rel g x u) (hy:Rel g y v) (h:ZQr x y=true) (n:Nat):Instr.sameBits n u v=true:=by
 unfold ZQr at h
 split at h
 ·simp only [Bool.and_eq_true,beq_iff_eq] at h
  rw [ZHv hx,ZHv hy,h.1,h.2];simp [Instr.sameBits]
 ·have:=beq_iff_eq.1 h
  rw [ZHr hx,ZHr hy,this];simp [Instr.sameBits]
 ·obtain ⟨bs,rfl,rfl⟩:=ZHk hx
  obtain ⟨bs',rfl,rfl⟩:=ZHk hy
  rw [Am.ZoX] at h
  have hb:bs=bs':=Am.ZsC (by rw [Am.ZbU,Am.ZbU,beq_iff_eq.1 h])
  subst hb
  cases n<;>simp [Instr.sameBits,(Go.MapKept.bytes_beq bs bs).2 rfl]
 ·cases h
theorem ZJx (n:Nat): ∀{xs ys:List V} {us vs:List Value},Rels g xs us->Rels g ys vs->ZNE xs ys=true->us.length=vs.length/\(us.zip vs).all (fun (x,y)=>Instr.sameBits n x y)=true
 | [],[],us,vs,h1,h2,_=>by
   have e1:us=[]:=h1
   have e2:vs=[]:=h2
   subst e1;subst e2;exact ⟨rfl,rfl⟩
 | x::xs,y::ys,us,vs,h1,h2,h=>by
   simp only [Rels] at h1 h2
   obtain ⟨u,us,rfl,a1,a2⟩:=h1
   obtain ⟨v,vs,rfl,b1,b2⟩:=h2
   simp only [ZNE,Bool.and_eq_true] at h
   obtain ⟨q1,q2⟩:=ZJx n a2 b2 h.2
   refine ⟨by simp [q1],?_⟩
   simp only [List.zip_cons_cons,List.all_cons,Bool.and_eq_true]
   exact ⟨ZKB a1 b1 h.1 n,q2⟩
 | [],_::_,_,_,_,_,h=>by cases h
 | _::_,[],_,_,_,_,h=>by cases h
theorem ZMo {x y:V} {u v:Value} (hx:Rel g x u) (hy:Rel g y v) (h:ZQL x y=true) (n:Nat):Instr.sameBits (n+1) u v=true:=by
 unfold ZQL at h
 split at h
 ·obtain ⟨us,rfl,h1⟩:=ZJg hx
  obtain ⟨vs,rfl,h2⟩:=ZJg hy
  obtain ⟨q1,q2⟩:=ZJx n h1 h2 h
  simp only [Instr.sameBits,Bool.and_eq_true]
  exact ⟨by simpa using q1,by simpa using q2⟩
 ·exact ZKB hx hy h _
theorem ZP5 (hh:HR g h w) {t:TypeId} {b:Nat} {k x:V} {kv xv:Value} (hb0:g.ex b) (hk:Rel g k kv) (hx:Rel g x xv) (hu:ZL7 P h t b k x=some h'):
  ∃w',(Instr.mapUpdate t (.map (some (g.β b).1)) kv xv).run P w= .ok () w'/\HR g h' w'/\Grew g w g w':=by
 unfold ZL7 at hu
 split at hu
 ·rename_i kt el es c ht hb
  obtain ⟨ms,q1,q2,q3⟩:=hh.ob b _ hb0 hb
  split at hu
  ·rename_i i x0 hs
   obtain ⟨hck,r',hf,en,m,s1,s2,s3,s4,rfl⟩:=ZHY (P:=P) (w:=w) hk q2 hs
   rw [s1] at hu
   simp only at hu
   split at hu
   ·rename_i hsame
    cases hu
    have hbits:Instr.sameBits 10000 m.key kv=true:=ZMo s3.1 hk hsame 9999
    refine ⟨_,?_,hh.putObj hb0 hb rfl rfl (ob:= .map (ms.modify i fun e=>{e with key:=kv,val:=xv}) c) ⟨_,Zyb hh hb0 _,?_,q3⟩,ZHA hh hb0 _⟩
    ·unfold Instr.mapUpdate
     simp only [Sem.run_bind,run_underlying ht,Result.andThen_ok,Go.MapKept.run_getObj_map q1,hck,hf,Instr.keyThatStays,s2,Option.map_some,Option.getD_some,hbits,if_true,Sem.run_pure,Go.MapKept.run_setObj_map _ q1]
    ·refine ⟨by simp [q2.1],fun j e he=>?_⟩
     rw [List.getElem?_set] at he
     rw [Array.getElem?_modify]
     split at he
     ·rename_i hij
      subst hij
      split at he
      ·cases he
       rw [if_pos rfl,s2]
       exact ⟨_,rfl,hk,hx,s3.2.2⟩
      ·cases he
     ·rename_i hij
      rw [if_neg hij]
      obtain ⟨m',z1,z2⟩:=q2.2 j e he
      exact ⟨m',z1,z2⟩
   ·cases hu
  ·rename_i hs
   obtain ⟨hck,r',hf,hn⟩:=ZHY (P:=P) (w:=w) hk q2 hs
   simp only at hn
   subst hn
   cases hu
   refine ⟨_,?_,hh.putObj hb0 hb rfl rfl (ob:= .map (ms.push {key:=kv,val:=xv,born:=c}) (c+1)) ⟨_,Zyb hh hb0 _,?_,q3⟩,ZHA hh hb0 _⟩
   ·unfold Instr.mapUpdate
    simp only [Sem.run_bind,run_underlying ht,Result.andThen_ok,Go.MapKept.run_getObj_map q1,hck,hf,Sem.run_pure,Go.MapKept.run_setObj_map _ q1]
   ·refine ⟨by simp [q2.1],fun j e he=>?_⟩
    rw [Array.getElem?_push]
    rw [List.getElem?_append] at he
    split at he
    ·rename_i hj
     rw [if_neg (by have:=q2.1;omega)]
     exact q2.2 j e he
    ·rename_i hj
     have hj0:j-es.length=0:=by
      have:=Am.Zaq he
      simpa using this
     rw [hj0] at he
     simp at he
     subst he
     have:=q2.1
     rw [if_pos Zo]
     exact ⟨_,rfl,hk,hx,rfl⟩
  ·cases hu
 ·cases hu
theorem ZMk (hh:HR g h w) {t ty:TypeId} (ts:List TypeId) {m k:V} {mv kv:Value} (hm:Rel g m mv) (hk:Rel g k kv) (hu:ZLC P h t m k=some h'):
  ∃w',(Builtin.delete_ (t::ts).toArray ty #[mv,kv]).run P w= .ok (.tuple #[]) w'/\HR g h' w'/\Grew g w g w':=by
 unfold ZLC at hu
 split at hu
 ·rename_i b
  simp only [Rel] at hm
  obtain ⟨hb0,rfl⟩:=hm
  split at hu
  ·rename_i kt el es c ht hb
   obtain ⟨ms,q1,q2,q3⟩:=hh.ob b _ hb0 hb
   split at hu
   ·rename_i i x0 hs
    obtain ⟨hck,r',hf,en,m,s1,s2,s3,s4,rfl⟩:=ZHY (P:=P) (w:=w) hk q2 hs
    cases hu
    refine ⟨_,?_,hh.putObj hb0 hb rfl rfl (ob:= .map (ms.eraseIdxIfInBounds i) c) ⟨_,Zyb hh hb0 _,?_,q3⟩,ZHA hh hb0 _⟩
    ·simp [Builtin.delete_,run_underlying ht,Go.MapKept.run_getObj_map q1,hck,hf,Go.MapKept.run_setObj_map _ q1]
    ·have hil:=Am.Zaq s1
     have hms:i<ms.size:=by have:=q2.1;omega
     have htl:(ms.eraseIdxIfInBounds i).toList=ms.toList.eraseIdx i:=by simp
     refine ⟨?_,fun j e he=>?_⟩
     ·have:=congrArg List.length htl
      rw [Array.length_toList] at this
      rw [this,List.length_eraseIdx,List.length_eraseIdx]
      have:=q2.1
      simp [hil,hms,this]
     ·rw [<-Array.getElem?_toList,htl]
      rw [List.getElem?_eraseIdx] at he⊢
      split at he
      ·rename_i hj
       rw [if_pos hj,Array.getElem?_toList];exact q2.2 j e he
      ·rename_i hj
       rw [if_neg hj,Array.getElem?_toList];exact q2.2 (j+1) e he
   ·rename_i hs
    obtain ⟨hck,r',hf,hn⟩:=ZHY (P:=P) (w:=w) hk q2 hs
    simp only at hn
    subst hn
    cases hu
    refine ⟨_,?_,?_,ZHA hh hb0 (.map ms c)⟩
    ·simp [Builtin.delete_,run_underlying ht,Go.MapKept.run_getObj_map q1,hck,hf,Go.MapKept.run_setObj_map _ q1]
    ·have hsame:({w with heap:=w.heap.setIfInBounds (g.β b).1 (.map ms c)}:World).heap=w.heap:=by
      apply Array.ext_getElem?
      intro j
      simp only [Array.getElem?_setIfInBounds]
      split
      ·rename_i e
       subst e
       rw [q1]
       have:=(hh.blk b hb0).2
       simp [this]
      ·rfl
     exact hh.sameHeap hsame
   ·cases hu
  ·cases hu
 ·cases hu
end Go.Cm
end
section
namespace Go.Cm
open Go.Am (ZbJ Ze7 Zaw Addr.add_eq)
attribute [local instance] wi0
variable {P:Program} {F:ZaQ} {g:G} {e:Env} {a:Act} {w:World} {h h':H} {ov:Option V} {o:Oper}
theorem ZID (w:World) (ad:Addr) (n:Nat) {k:Nat} (hk:k≠ad.block):(w.freeze ad n).heap[k]? =w.heap[k]? :=by
 unfold World.freeze
 split
 ·rfl
 ·simp only [Array.getElem?_modify]
  rw [if_neg (fun he=>hk he.symm)]
theorem ZLB (w:World) (ad:Addr) (n:Nat) {vs:Array Value} {t:TypeId} {fz:Nat×Nat} (hb:w.heap[ad.block]? =some (.cells vs t fz)): ∃fz',(w.freeze ad n).heap[ad.block]? =some (.cells vs t fz'):=by
 unfold World.freeze
 split
 ·exact ⟨fz,hb⟩
 ·simp only [Array.getElem?_modify]
  rw [if_pos trivial,hb]
  exact ⟨_,rfl⟩
theorem ZHU (w:World) (ad:Addr) (n:Nat):(w.freeze ad n).heap.size=w.heap.size:=by
 unfold World.freeze
 split<;>simp
theorem ZNN (w:World) (ad:Addr) (n:Nat):(w.freeze ad n).os=w.os:=by unfold World.freeze;split<;>rfl
theorem ZL2 (w:World) (ad:Addr) (n:Nat):(w.freeze ad n).tape=w.tape:=by unfold World.freeze;split<;>rfl
theorem ZKo (w:World) (ad:Addr) (n:Nat):(w.freeze ad n).output=w.output:=by unfold World.freeze;split<;>rfl
theorem ZOl (h:H) (grp ver k:Nat):(h.kill grp ver).low k=if k=grp then ver+1 else h.low k:=by
 unfold H.low H.kill
 simp only
 rw [T.get_set]
 split<;>rfl
theorem HR.kill (hh:HR g h w) {b grp ver:Nat} {cs:List V} (hx:g.ex b) (hb:h.obs.get b=some (.cells cs grp ver false)) (ha:h.low grp<=ver) (ad:Addr) (n:Nat) (hab:ad.block=(g.β b).1):HR g (h.kill grp ver) (w.freeze ad n):=by
 have hal:ZHG g h b grp ver false cs:=⟨hb,ha,hx⟩
 have down: ∀{k gr v kid c},ZHG g (h.kill grp ver) k gr v kid c->ZHG g h k gr v kid c/\gr≠grp:=fun {k gr v kid c} ⟨h1,h2,h3⟩=>by
   rw [ZOl] at h2
   by_cases hg:gr=grp
   · subst hg
     rw [if_pos rfl] at h2
     have:=(hh.i2 b k gr ver cs v kid c hal ⟨h1,by omega,h3⟩).1
     omega
   · rw [if_neg hg] at h2
     exact ⟨⟨h1,h2,h3⟩,hg⟩
 refine ⟨by rw [ZHU];exact hh.bs,hh.nx,hh.top,fun k m hk=>?_,hh.grp,fun k hk=>by rw [ZHU];exact hh.blk k hk,fun k o' hk hko=>?_,hh.tl,fun k t m hk hkt=>?_,
   fun b1 b2 gr v kid c gr' v' kid' c' h1 h2=>hh.i1 b1 b2 gr v kid c gr' v' kid' c' (down h1).1 (down h2).1,fun b1 b2 gr v c v' kid' c' h1 h2=>hh.i2 b1 b2 gr v c v' kid' c' (down h1).1 (down h2).1,hh.i4,hh.dm,hh.dt.at hx (by rw [ZHU];exact Nat.le_refl _) fun k hk=>ZID w ad n (by rw [hab];exact hk)⟩
 · simp only [H.kill] at hk
   rw [T.get_set] at hk
   split at hk
   · rename_i e;rw [e];exact hh.grp b _ _ _ _ hx hb
   · exact hh.mins k m hk
 · have hko:h.obs.get k=some o':=hko
   have hob:=hh.ob k o' hk hko
   by_cases heq:(g.β k).1=ad.block
   · cases o' with
     | cells c gr v kid=>
       obtain ⟨vs,t,fz,z1,z2,z3⟩:=hob
       obtain ⟨fz',z4⟩:=ZLB w ad n (by rw [<-heq];exact z1)
       refine ⟨vs,t,fz',by rw [heq];exact z4,z2,fun hl=>?_⟩
       obtain ⟨a1,a2⟩:=down (⟨hko,hl,hk⟩:ZHG g (h.kill grp ver) k gr v kid c)
       by_cases hkb:k=b
       · subst hkb;rw [hb] at hko;cases hko;exact absurd rfl a2
       · exact absurd (hh.i1 k b gr v kid c grp ver false cs a1 hal hkb (heq.trans hab)).1 a2
     | map=>exact absurd (hab.symm.trans heq.symm) (Ne.symm (hh.dm k _ b hk hko rfl hx (fun hkb=>by rw [hkb,hko] at hb;cases hb)))
     | siter=>exact absurd (hab.symm.trans heq.symm) (Ne.symm (hh.dm k _ b hk hko rfl hx (fun hkb=>by rw [hkb,hko] at hb;cases hb)))
     | miter=>exact absurd (hab.symm.trans heq.symm) (Ne.symm (hh.dm k _ b hk hko rfl hx (fun hkb=>by rw [hkb,hko] at hb;cases hb)))
     | mapU=>exact absurd (hab.symm.trans heq.symm) (Ne.symm (hh.dm k _ b hk hko rfl hx (fun hkb=>by rw [hkb,hko] at hb;cases hb)))
     | loop=>exact absurd (hab.symm.trans heq.symm) (Ne.symm (hh.dm k _ b hk hko rfl hx (fun hkb=>by rw [hkb,hko] at hb;cases hb)))
   · have hr:=ZID w ad n heq
     cases o' with
     | cells c gr v kid=>
       obtain ⟨vs,t,fz,z1,z2,z3⟩:=hob
       exact ⟨vs,t,fz,hr.trans z1,z2,fun hl=>z3 (down (⟨hko,hl,hk⟩:ZHG g (h.kill grp ver) k gr v kid c)).1.2.1⟩
     | map=>obtain ⟨ms,z1,z2⟩:=hob;exact ⟨ms,hr.trans z1,z2⟩
     | siter=>obtain ⟨ms,z1,z2⟩:=hob;exact ⟨ms,hr.trans z1,z2⟩
     | miter=>obtain ⟨z1,z2⟩:=hob;exact ⟨hr.trans z1,z2⟩
     | mapU=>obtain ⟨ms,c,es,z1,z2⟩:=hob;exact ⟨ms,c,es,hr.trans z1,z2⟩
     | loop=>obtain ⟨r,z1,z2⟩:=hob;exact ⟨r,hr.trans z1,z2⟩
 · obtain ⟨q1,vs,fz,q2,q3⟩:=hh.ty k t m hk hkt
   by_cases heq:(g.β k).1=ad.block
   · obtain ⟨fz',z4⟩:=ZLB w ad n (by rw [<-heq];exact q2)
     exact ⟨q1,vs,fz',by rw [heq];exact z4,q3⟩
   · exact ⟨q1,vs,fz,(ZID w ad n heq).trans q2,q3⟩
theorem ZLM {b:Nat} (hx:g.ex b) (ad:Addr) (n:Nat) (hab:ad.block=(g.β b).1):Grew g w g (w.freeze ad n):=
 ⟨ZNN w ad n,ZL2 w ad n,ZKo w ad n,by rw [ZHU];exact Nat.le_refl _,fun k _ hn=>ZID w ad n fun he=>hn b hx (hab.symm.trans he.symm),fun b' hb'=> .inl ⟨b',hb',rfl⟩,fun _ _=>rfl⟩
theorem ZKs {x z:V} {u:Value} (hu:Rel g x u) (hx:ZIV x=some z) (ts:Array TypeId) (ty:TypeId): ∃r,(Builtin.unsafeSliceData_ ts ty #[u]).run P w= .ok r w/\Rel g z r:=by
 unfold ZIV at hx
 split at hx
 ·cases hx
  have:u= .slice none 0 0:=by simpa only [Rel] using hu
  subst this
  exact ⟨_,Lib.run_unsafeSliceData_nil w ts ty 0 0,by simp only [Rel]⟩
 ·split at hx
  ·cases hx
  ·rename_i b i s len lo ex hc
   cases hx
   obtain ⟨hb,cap,rfl,c1,c2,_⟩:=ZIZ hu
   have hlo:lo≠0:=fun he=>by rw [he] at hc;exact hc rfl
   exact ⟨_,Lib.run_unsafeSliceData_row w ts ty (g.at b i) len cap Zo,by unfold Rel;exact ⟨hb,rfl⟩⟩
 ·cases hx
theorem ZKy (hh:HR g h w) {pt it ty:TypeId} {x y z:V} {p q:Value} (hp:Rel g x p) (hq:Rel g y q) (hx:ZIb P h pt x y=some (z,h')):
  ∃r w',(Builtin.unsafeString_ #[pt,it] ty #[p,q]).run P w= .ok r w'/\Rel g z r/\HR g h' w'/\Grew g w g w':=by
 unfold ZIb at hx
 split at hx
 ·rename_i el n hpt
  split at hx
  ·rename_i hn
   cases hx
   have h1:p= .pointer none:=by simpa only [Rel] using hp
   have h2:q= .int .i64 n:=by simpa only [Rel] using hq
   subst h1;subst h2;subst hn
   exact ⟨_,w,Lib.run_unsafeString_none w pt it ty none,by simp only [Rel];exact ⟨_,rfl,rfl⟩,hh,Grew.refl _ _⟩
  ·cases hx
 ·rename_i el b o' n hpt
  obtain ⟨hb,h1⟩:g.ex b/\p= .pointer (some (g.at b o')):=by unfold Rel at hp;exact hp
  have h2:q= .int .i64 n:=by simpa only [Rel] using hq
  subst h1;subst h2
  split at hx
  ·rename_i hn
   cases hx
   subst hn
   exact ⟨_,w,Lib.run_unsafeString_none w pt it ty _,by simp only [Rel];exact ⟨_,rfl,rfl⟩,hh,Grew.refl _ _⟩
  ·split at hx
   ·rename_i cs grp ver e m hob hty
    split at hx
    ·rename_i hc
     obtain ⟨ha,rfl,hce,hn0,hn1,rfl⟩:=hc
     split at hx
     ·rename_i xs hcut
      simp only [Option.map_eq_some_iff,Prod.mk.injEq] at hx
      obtain ⟨l,hl,rfl,rfl⟩:=hx
      have hrd:h.rd b=some cs:=by unfold H.rd;rw [hob];simp [ha]
      obtain ⟨vs,tt,r1,r2,r3,r4⟩:=hh.read hb hrd
      obtain ⟨us,u1,u2,u3,u4,u5⟩:=r4.cut hcut
      obtain ⟨q1,vs',fz,q2,_⟩:=hh.ty b _ _ hb hty
      rw [r1] at q2;cases q2
      obtain ⟨bs,rfl,rfl⟩:=ZK2 u2 hl
      have hbl:bs.length=n.toNat:=by simpa using u1
      have hat:g.at b 0=⟨(g.β b).1,0,none⟩:=by simp [G.at,q1]
      have hn:n=(bs.length:Int):=by omega
      have hrun:=Lib.run_unsafeString_row (P:=P) w pt it ty _ hpt hce (g.β b).1 vs.size (by simp [World.shape?,r1]) bs (fun he=>by rw [he] at hbl;simp at hbl;omega) (by rw [hbl];omega) Zo (fun j x hj=>by
       rw [Addr.add_eq,Am.ZG6 r1]
       have:=u3 j (.int .u8 x.toNat) (by rw [List.getElem?_map,hj];rfl)
       simpa [q1] using this)
      refine ⟨_,_,by rw [hat,hn];exact hrun,by simp only [Rel];exact ⟨_,rfl,by simp [ZbJ]⟩,hh.kill hb hob ha _ _ rfl,ZLM hb _ _ rfl⟩
     ·cases hx
    ·cases hx
   ·cases hx
 ·cases hx
end Go.Cm
end
section
namespace Go.Cm
open Go.Am (ZbJ Ze7 Zaw Addr.add_eq)
open Go.MapKept
attribute [local instance] wi0
variable {P:Program} {F:ZaQ} {g:G} {e:Env} {a:Act} {w:World} {h h':H} {ov:Option V} {o:Oper}
theorem ZMf {x:V} {v:Value} (h:Rel g x v):Rel g (.tup [x]) (.tuple #[v]):=by
 simp only [Rel];exact ⟨[v],rfl,v,[],rfl,h,rfl⟩
theorem ZM5 {x y:V} {u v:Value} (h:Rel g x u) (h':Rel g y v):Rel g (.tup [x,y]) (.tuple #[u,v]):=by
 simp only [Rel];exact ⟨[u,v],rfl,u,[v],rfl,h,v,[],rfl,h',rfl⟩
theorem ZOs {x y z:V} {u v s:Value} (h:Rel g x u) (h':Rel g y v) (h'':Rel g z s):Rel g (.tup [x,y,z]) (.tuple #[u,v,s]):=by
 simp only [Rel];exact ⟨[u,v,s],rfl,u,_,rfl,h,v,_,rfl,h',s,[],rfl,h'',rfl⟩
theorem ZQo {b:Bool}:Rel g (.bool b) (.bool b):=by simp only [Rel]
theorem ZM6 {t:TypeId} {k:V}: ∀{l l':List (V×V)},l.Perm l'-> ∀{r:Option V},ZNj P t k l=some r->ZNj P t k l'=some r:=by
 intro l l' hp
 induction hp with
 | nil=>exact fun h=>h
 | cons x _ ih=>
   intro r h
   simp only [ZNj] at h⊢
   split at h
   · rename_i h1 h2
     rw [h1,ih h2];exact h
   · rename_i h1
     rw [h1,ih h]
   · cases h
 | swap x y l=>
   intro r h
   simp only [ZNj] at h⊢
   cases h1:eqT P DEEP t k x.1 with
   | none=>rw [h1] at h;simp at h;split at h<;>simp_all
   | some b1=>
     cases h2:eqT P DEEP t k y.1 with
     | none=>rw [h1,h2] at h;simp at h
     | some b2=>
       cases h3:ZNj P t k l with
       | none=>rw [h1,h2,h3] at h;cases b1<;>cases b2<;>simp at h
       | some r3=>rw [h1,h2,h3] at h;cases b1<;>cases b2<;>cases r3<;>simp_all
 | trans _ _ ih1 ih2=>exact fun h=>ih2 (ih1 h)
theorem ZJC {t:TypeId} {k:V}: ∀{es:List En} {r:Option V},ZNj P t k (es.map fun e=>(e.k,e.x))=some r-> ∀i,∃r',ZNf P t k es i=some r'/\r=r'.map (·.2)
 | [],r,h,i=>by
   simp only [List.map_nil,ZNj,Option.some.injEq] at h
   subst h
   exact ⟨none,rfl,rfl⟩
 | e::es,r,h,i=>by
   simp only [List.map_cons,ZNj] at h
   split at h
   · rename_i h1 h2
     cases h
     exact ⟨some (i,e.x),by simp only [ZNf,h1],rfl⟩
   · rename_i h1
     obtain ⟨r',q1,q2⟩:=ZJC h (i+1)
     exact ⟨r',by simp only [ZNf,h1];exact q1,q2⟩
   · cases h
theorem ZOE (hh:HR g h w) {t:TypeId} {m k:V} {mv:Value} (hm:Rel g m mv) {r:Option V} (hr:ZQn P h t m k=some r): ∃(es:List En) (ms:Array MapEntry) (c:Nat) (r':Option (Nat×V)),RelEs g es ms/\(mv= .map none/\ms= #[]∨ ∃r,mv= .map (some r)/\w.heap[r]? =some (.map ms c))/\ZMC P t k es=some r'/\r=r'.map (·.2):=by
 unfold ZQn at hr
 split at hr
 ·simp only [Option.map_eq_some_iff] at hr
  obtain ⟨r',h1,rfl⟩:=hr
  exact ⟨[],#[],0,r',⟨rfl,fun i e he=>by simp at he⟩,.inl ⟨by simpa only [Rel] using hm,rfl⟩,h1,rfl⟩
 ·rename_i b
  simp only [Rel] at hm
  obtain ⟨hb0,rfl⟩:=hm
  split at hr
  ·rename_i es c hb
   simp only [Option.map_eq_some_iff] at hr
   obtain ⟨r',h1,rfl⟩:=hr
   obtain ⟨ms,q1,q2,_⟩:=hh.ob b _ hb0 hb
   exact ⟨es,ms,c,r',q2,.inr ⟨_,rfl,q1⟩,h1,rfl⟩
  ·rename_i ps hb
   split at hr
   ·rename_i hck
    obtain ⟨ms,c,es,q1,q2,q3,_⟩:=hh.ob b _ hb0 hb
    obtain ⟨r',z1,z2⟩:=ZJC (ZM6 q2.symm hr) 0
    exact ⟨es,ms,c,r',q3,.inr ⟨_,rfl,q1⟩,by unfold ZMC;rw [if_pos hck];exact z1,z2⟩
   ·cases hr
  ·cases hr
 ·cases hr
section
variable (hh:HR g h w) (he:EnvR g e a)
include hh he
theorem ZtP {t:TypeId} {x i:Operand} {ok:Bool} (ho:o.op= .lookup t x i ok) (hx:opV P F e h (.lookup t x i ok)=some (ov,h')):OpOK P o a w g ov h':=by
 simp only [opV] at hx
 split at hx
 ·rename_i kt el m k ht h1 h2
  ·have hk:=ZG2 he h2
   have hmv:=ZG2 he h1
   have fin: ∀(z:V) (v:Value) (b:Bool),Rel g z v->(Instr.lookup t (a.eval x) (a.eval i) ok).run P w= .ok (if ok then .tuple #[v,.bool b] else v) w->OpOK P o a w g (some (if ok then .tup [z,.bool b] else z)) h:=fun z v b hz hr=>by
    refine ZG3 hh (v:=if ok then .tuple #[v,.bool b] else v) ?_ ?_
    ·simp only [execOp,ho]
     rw [Zaw,hr,Result.andThen_ok]
    ·cases ok
     ·exact hz
     ·exact ZM5 hz ZQo
   have hmap: ∀r,ZQn P h kt m k=some r-> ∃(es:List En) (ms:Array MapEntry) (c:Nat) (r':Option (Nat×V)),RelEs g es ms/\(a.eval x= .map none/\ms= #[]∨ ∃r,a.eval x= .map (some r)/\w.heap[r]? =some (.map ms c))/\ZMC P kt k es=some r'/\r=r'.map (·.2):=fun r hr=>ZOE hh hmv hr
   split at hx
   ·rename_i x0 hlk
    obtain ⟨es,ms,c,r0,hes,hms,hs,hr0⟩:=hmap _ hlk
    clear hlk
    obtain ⟨⟨j,x1⟩,rfl,hx1⟩: ∃jx,r0=some jx/\jx.2=x0:=by
     cases r0 with
     | none=>cases hr0
     | some jx=>exact ⟨jx,rfl,by cases hr0;rfl⟩
    simp only at hx1
    subst hx1
    simp only [Option.some.injEq,Prod.mk.injEq] at hx
    obtain ⟨rfl,rfl⟩:=hx
    obtain ⟨hck,r',hf,en,m0,s1,s2,s3,s4,rfl⟩:=ZHY (P:=P) (w:=w) hk hes hs
    refine fin x1 m0.val true (by rw [s4];exact s3.2.1) ?_
    rcases hms with ⟨hv,rfl⟩|⟨r,hv,hb⟩
    ·simp at s2
    ·simp [Instr.lookup,run_underlying ht,hv,Go.MapKept.run_getObj_map hb,hck,hf]
   ·rename_i zz hlk hz
    obtain ⟨es,ms,c,r0,hes,hms,hs,hr0⟩:=hmap _ hlk
    clear hlk
    obtain rfl:r0=none:=by
     cases r0 with
     | none=>rfl
     | some jx=>cases hr0
    simp only [Option.some.injEq,Prod.mk.injEq] at hx
    obtain ⟨rfl,rfl⟩:=hx
    obtain ⟨hck,r',hf,hn⟩:=ZHY (P:=P) (w:=w) hk hes hs
    simp only at hn
    subst hn
    obtain ⟨inf,zv,z1,z2,z3⟩:=ZHt hz
    refine fin zz zv false (ofConst_rel g zv z3) ?_
    rcases hms with ⟨hv,rfl⟩|⟨r,hv,hb⟩
    ·simp [Instr.lookup,run_underlying ht,hv,hck,hf,Am.Zcs z1 z2]
    ·simp [Instr.lookup,run_underlying ht,hv,Go.MapKept.run_getObj_map hb,hck,hf,Am.Zcs z1 z2]
   ·cases hx
 ·cases hx
theorem Zug {t:TypeId} {m k x:Operand} (ho:o.op= .mapUpdate t m k x∨o.op= .insert t m k x) (hx:opV P F e h (.mapUpdate t m k x)=some (ov,h')):OpOK P o a w g ov h':=by
 simp only [opV] at hx
 split at hx
 ·rename_i b kk vv h1 h2 h3
  simp only [Option.map_eq_some_iff,Prod.mk.injEq] at hx
  obtain ⟨h1',hu,rfl,rfl⟩:=hx
  have hm:=ZG2 he h1
  simp only [Rel] at hm
  obtain ⟨w',r1,r2,r3⟩:=ZP5 (P:=P) hh hm.1 (ZG2 he h2) (ZG2 he h3) hu
  refine ⟨.skip,undef,w',g,?_,.inr ⟨rfl,rfl⟩,by simp only [Option.getD_none,Rel];exact ⟨[],rfl,rfl⟩,r2,Le.refl g,r3⟩
  rcases ho with ho|ho<;>
  ·simp only [execOp,ho,hm.2]
   rw [Sem.run_bind,r1,Result.andThen_ok];rfl
 ·cases hx
theorem ZOC {t:TypeId} {x:Operand} (ho:o.op= .range t x) (hx:opV P F e h (.range t x)=some (ov,h')):OpOK P o a w g ov h':=by
 have fin: ∀(o1:O) (ob:Obj),ZJD o1=false->ObOK (g.grow h.next w.heap.size 0) h.low {w with heap:=w.heap.push ob} h.next o1->(Instr.range t (a.eval x)).run P w= .ok (.pointer (some ⟨w.heap.size,0,none⟩)) (w.alloc ob)->
   OpOK P o a w g (some (.ptr h.next 0)) (h.new o1):=fun o1 ob hc hob hr=>by
  refine ⟨_,.pointer (some ⟨w.heap.size,0,none⟩),_,g.grow h.next w.heap.size 0,?_,.inl rfl,?_,hh.push o1 ob 0 hob (fun _ _ _ _ e=>(by rw [e] at hc;cases hc)) none (fun _ _ e=>(by cases e)),hh.le_grow _ _,ZHx hh.fresh _ _⟩
  ·simp only [execOp,ho]
   rw [Zaw,hr,Result.andThen_ok];rfl
  ·simp only [Option.getD_some,Rel,ZHa,G.at]
   exact ⟨.inr rfl,trivial⟩
 have hget: ∀ob:Obj,({w with heap:=w.heap.push ob}:World).heap[((g.grow h.next w.heap.size 0).β h.next).1]? =some ob:=fun ob=>by rw [ZHa];simp
 simp only [opV] at hx
 split at hx
 ·rename_i s ht h1
  simp only [Option.some.injEq,Prod.mk.injEq] at hx
  obtain ⟨rfl,rfl⟩:=hx
  obtain ⟨bs,hv,hs⟩:=ZHk (ZG2 he h1)
  refine fin (.siter s 0) (.stringIter bs 0) rfl ⟨bs,hget _,hs,by rw [ZHa]⟩ ?_
  simp [Instr.range,run_underlying ht,hv]
 ·rename_i kt el ht h1
  simp only [Option.some.injEq,Prod.mk.injEq] at hx
  obtain ⟨rfl,rfl⟩:=hx
  have hv:a.eval x= .map none:=by simpa only [Rel] using ZG2 he h1
  refine fin (.miter none 0 [] 0) (.mapIter none 0 #[] 0) rfl ⟨hget _,⟨fun i hi=>(by cases hi),by rw [ZHa]⟩⟩ ?_
  simp [Instr.range,run_underlying ht,hv]
 ·rename_i kt el b ht h1
  split at hx
  ·rename_i es c hb
   simp only [Option.some.injEq,Prod.mk.injEq] at hx
   obtain ⟨rfl,rfl⟩:=hx
   have hr:=ZG2 he h1
   simp only [Rel] at hr
   obtain ⟨hbn,hv⟩:=hr
   obtain ⟨ms,q1,q2,q3⟩:=hh.ob b _ hbn hb
   refine fin (.miter (some b) c [] c) (.mapIter (some (g.β b).1) c #[] c) rfl ⟨?_,⟨fun i hi=>(by cases hi;exact .inl hbn),by rw [ZHa]⟩⟩ ?_
   ·rw [hget]
    simp only [Option.map_some]
    rw [(hh.le_grow w.heap.size 0).β b hbn]
   ·simp [Instr.range,run_underlying ht,hv,Go.MapKept.run_getObj_map q1]
  ·cases hx
 ·cases hx
end
def RelL (g:G):List En->List MapEntry->Prop
 | [],ms=>ms=[]
 | e::es,ms=> ∃m r,ms=m::r/\RelE g e m/\RelL g es r
theorem ZMi: ∀{es:List En} {ms:List MapEntry},es.length=ms.length->(∀(i:Nat) e,es[i]? =some e-> ∃m,ms[i]? =some m/\RelE g e m)->RelL g es ms
 | [],[],_,_=>rfl
 | e::es,m::ms,hl,h=>by
   obtain ⟨m',h1,h2⟩:=h 0 e rfl
   simp at h1;subst h1
   exact ⟨m,ms,rfl,h2,ZMi (by simpa using hl) fun i e he=>by simpa using h (i+1) e (by simpa using he)⟩
 | [],_::_,hl,_=>by simp at hl
 | _::_,[],hl,_=>by simp at hl
theorem RelL.filter (p:Nat->Bool): ∀{es:List En} {ms:List MapEntry},RelL g es ms->RelL g (es.filter fun e=>p e.born) (ms.filter fun m=>p m.born)
 | [],ms,h=>by simp only [RelL] at h;subst h;rfl
 | e::es,ms,h=>by
   simp only [RelL] at h
   obtain ⟨m,r,rfl,h1,h2⟩:=h
   have ih:=RelL.filter p h2
   simp only [List.filter_cons,h1.2.2]
   split
   · exact ⟨m,_,rfl,h1,ih⟩
   · exact ih
theorem RelL.all (p:Nat->Bool): ∀{es:List En} {ms:List MapEntry},RelL g es ms->(ms.all fun m=>p m.born)=es.all fun e=>p e.born
 | [],ms,h=>by simp only [RelL] at h;subst h;rfl
 | e::es,ms,h=>by
   simp only [RelL] at h
   obtain ⟨m,r,rfl,h1,h2⟩:=h
   simp only [List.all_cons,h1.2.2,RelL.all p h2]
theorem RelL.emp {es:List En} {ms:List MapEntry} (h:RelL g es ms):ms.isEmpty=es.isEmpty:=by
 cases es with
 | nil=>simp only [RelL] at h;subst h;rfl
 | cons e es=>simp only [RelL] at h;obtain ⟨m,r,rfl,_⟩:=h;rfl
theorem ZHh {r:Nat} {m:Option Nat} {s l:Nat} {seen:Array Nat} (hb:w.heap[r]? =some (.mapIter m s seen l)):(getObj r).run P w= .ok (.mapIter m s seen l) w:=by simp [getObj,Sem.run,hb]
theorem ZOK (hh:HR g h w) {b:Nat} (hbn:g.ex b) {isS:Bool} {ty:TypeId} {z:V} (hx:ZQu h b isS=some (z,h')):
  ∃r w',(Instr.next (.pointer (some (g.at b 0))) isS ty).run P w= .ok r w'/\Rel g z r/\HR g h' w'/\Grew g w g w':=by
 unfold ZQu at hx
 split at hx
 ·rename_i since seen stepped hb
  obtain ⟨q1,q2,q3⟩:=hh.ob b _ hbn hb
  split at hx
  ·cases hx
  ·rename_i hi
   have hi:isS=false:=by simpa using hi
   subst hi
   cases hx
   refine ⟨.tuple #[.bool false],w,?_,ZMf ZQo,hh,Grew.refl _ _⟩
   simp only [G.at,q3,Nat.add_zero,Instr.next,Sem.run_bind,ZHh q1,Result.andThen_ok,Option.map_none]
   rfl
 ·rename_i m since seen stepped hb
  obtain ⟨q1,q2,q3⟩:=hh.ob b _ hbn hb
  split at hx
  ·cases hx
  ·rename_i hi
   have hi:isS=false:=by simpa using hi
   subst hi
   split at hx
   ·rename_i es clock hm
    obtain ⟨ms,m1,m2,m3⟩:=hh.ob m _ (q2 m rfl) hm
    obtain ⟨L⟩:=ms
    have hL:RelL g es L:=ZMi (by simpa using m2.1) (fun i e he=>by simpa using m2.2 i e he)
    split at hx
    ·cases hx
    ·rename_i htest
     have ht0:(!seen.toArray.isEmpty && !L.toArray.isEmpty && L.toArray.all (fun x=>decide (x.born>=stepped)))=false:=by
      have h1:=hL.all (fun n=>decide (stepped<=n))
      have h2:=hL.emp
      simp only [List.isEmpty_toArray,List.all_toArray,ge_iff_le,h1,h2]
      simpa using htest
     have hold:=(hL.filter (fun n=> !seen.contains n)).filter (fun n=>decide (n<since))
     have hnew:=(hL.filter (fun n=> !seen.contains n)).filter (fun n=>decide (since<=n))
     simp only at hx
     split at hx
     ·rename_i ho hn
      cases hx
      simp only [ho,hn,RelL] at hold hnew
      refine ⟨.tuple #[.bool false],w,?_,ZMf ZQo,hh,Grew.refl _ _⟩
      simp only [G.at,q3,Nat.add_zero,Instr.next,Sem.run_bind,ZHh q1,Result.andThen_ok,Option.map_some,Go.MapKept.run_getObj_map m1,ht0,Bool.false_eq_true,if_false,Sem.run_pure,List.filter_toArray,List.contains_toArray,hold,hnew,ge_iff_le]
      simp [choose,Sem.run,Question.forced]
     ·rename_i en ho hn
      cases hx
      simp only [ho,hn,RelL] at hold hnew
      obtain ⟨m0,r0,hmr,hme,hr0⟩:=hold
      subst hr0
      refine ⟨.tuple #[.bool true,m0.key,m0.val],_,?_,ZOs ZQo hme.1 hme.2.1,hh.putObj hbn hb rfl rfl (ob:= .mapIter (some (g.β m).1) since (seen.toArray.push m0.born) clock) ⟨?_,⟨q2,q3⟩⟩,ZHA hh hbn _⟩
      ·simp only [G.at,q3,Nat.add_zero,Instr.next,Sem.run_bind,ZHh q1,Result.andThen_ok,Option.map_some,Go.MapKept.run_getObj_map m1,ht0,Bool.false_eq_true,if_false,Sem.run_pure,List.filter_toArray,List.contains_toArray,hmr,hnew,ge_iff_le]
       simp [choose,Sem.run,Question.forced,setObj,q1]
      ·rw [Zyb hh hbn]
       simp [hme.2.2]
     ·cases hx
   ·cases hx
 ·cases hx
theorem RelL.find {es:List En} {ms:List MapEntry} (hr:RelL g es ms) (st:Nat): ∀{e:En},es.find? (fun e=>e.born==st)=some e-> ∃m,ms.find? (fun m=>m.born==st)=some m/\RelE g e m:=by
 induction es generalizing ms with
 | nil=>intro e h;simp at h
 | cons a es ih=>
   intro e h
   simp only [RelL] at hr
   obtain ⟨m,r,rfl,h1,h2⟩:=hr
   rw [List.find?_cons] at h⊢
   rw [h1.2.2]
   split at h
   · rename_i hb
     cases h
     exact ⟨m,rfl,h1⟩
   · exact ih h2 h
theorem ZNM (hh:HR g h w) {b:Nat} (hbn:g.ex b) {z:V} (hx:ZOZ h b=some z): ∃u,(Instr.entry (.pointer (some (g.at b 0)))).run P w= .ok u w/\Rel g z u:=by
 unfold ZOZ at hx
 split at hx
 ·rename_i m since seen stepped hb
  obtain ⟨q1,q2,q3⟩:=hh.ob b _ hbn hb
  split at hx
  ·rename_i es clock st hm hl
   obtain ⟨ms,m1,m2,m3⟩:=hh.ob m _ (q2 m rfl) hm
   obtain ⟨L⟩:=ms
   have hL:RelL g es L:=ZMi (by simpa using m2.1) (fun i e he=>by simpa using m2.2 i e he)
   split at hx
   ·rename_i hc
    have hc:clock=stepped:=by simpa using hc
    subst hc
    simp only [Option.map_eq_some_iff] at hx
    obtain ⟨en,hf,rfl⟩:=hx
    obtain ⟨me,f1,f2⟩:=hL.find st hf
    refine ⟨.tuple #[me.key,me.val],?_,ZM5 f2.1 f2.2.1⟩
    have hback:seen.toArray.back? =some st:=by rw [List.back?_toArray];exact hl
    simp only [G.at,q3,Nat.add_zero,Instr.entry,Sem.run_bind,ZHh q1,Result.andThen_ok,Option.map_some,hback,Go.MapKept.run_getObj_map m1,bne_self_eq_false,Bool.false_eq_true,if_false,List.find?_toArray,f1,Sem.run_pure]
   ·cases hx
  ·cases hx
 ·cases hx
section
variable (hh:HR g h w) (he:EnvR g e a)
include hh he
theorem ZO5 {x:Operand} (ho:o.op= .entry x) (hx:opV P F e h (.entry x)=some (ov,h')):OpOK P o a w g ov h':=by
 simp only [opV] at hx
 split at hx
 ·rename_i b h1
  simp only [Option.map_eq_some_iff,Prod.mk.injEq] at hx
  obtain ⟨z,hz,rfl,rfl⟩:=hx
  obtain ⟨hb,hv⟩:=ZIy (ZG2 he h1)
  obtain ⟨u,r1,r2⟩:=ZNM (P:=P) hh hb hz
  refine ZG3 hh (v:=u) ?_ r2
  simp only [execOp,ho,hv]
  rw [Zaw,r1,Result.andThen_ok]
 ·cases hx
theorem ZP7 {x:Operand} {isS:Bool} (ho:o.op= .next x isS) (hx:opV P F e h (.next x isS)=some (ov,h')):OpOK P o a w g ov h':=by
 simp only [opV] at hx
 split at hx
 ·rename_i b h1
  simp only [Option.map_eq_some_iff,Prod.mk.injEq] at hx
  obtain ⟨⟨z,h1'⟩,hz,rfl,rfl⟩:=hx
  obtain ⟨hb,hv⟩:=ZIy (ZG2 he h1)
  obtain ⟨r,w',r1,r2,r3,r4⟩:=ZOK (P:=P) (ty:=o.type) hh hb hz
  refine ⟨.value r,r,w',g,?_,.inl rfl,r2,r3,Le.refl g,r4⟩
  simp only [execOp,ho,hv]
  rw [Zaw,r1,Result.andThen_ok]
 ·cases hx
theorem ZMT {c:Call} {b:Builtin} {vs:List V} {z:V} (ho:o.op= .call c) (hc:c.callee= .builtin b) (hvs:evs e c.args.toList=some vs) (hx:ZHZ P b c.argTypes.toList vs h=some (z,h')):OpOK P o a w g (some z) h':=by
 have hr:=ZIQ he hvs
 rw [<-Array.toList_map] at hr
 have hargs:c.args.map a.eval=(c.args.map a.eval).toList.toArray:=(Array.toArray_toList).symm
 generalize hA:(c.args.map a.eval).toList=A at hr hargs
 have hty:c.argTypes=c.argTypes.toList.toArray:=(Array.toArray_toList).symm
 generalize hT:c.argTypes.toList=T at hx hty
 have hB:=ZLO (P:=P) (w:=w) (a:=a) ho hc
 rw [hargs,hty] at hB
 have fin: ∀r w' g',(builtin b T.toArray o.type (ZMz c) A.toArray).run P w= .ok (.value r) w'->Rel g' z r->HR g' h' w'->Le g g'->Grew g w g' w'->OpOK P o a w g (some z) h':=
  fun r w' g' h1 h2 h3 h4 h5=>⟨_,r,w',g',by rw [hB];exact h1,.inl rfl,h2,h3,h4,h5⟩
 unfold ZHZ at hx
 split at hx
 ·rename_i t ts x
  simp only [Rels] at hr
  obtain ⟨u,us,rfl,hu,rfl⟩:=hr
  unfold ZJQ at hx
  split at hx
  ·simp only [Option.map_eq_some_iff,Prod.mk.injEq] at hx
   obtain ⟨v,hv,rfl,rfl⟩:=hx
   obtain ⟨r,r1,r2⟩:=ZPj (P:=P) (ts:=ts) (ty:=o.type) hh he hu hv
   refine fin r w g ?_ r2 hh (Le.refl g) (Grew.refl _ _)
   simp only [builtin]
   rw [Zaw,r1,Result.andThen_ok]
  ·simp only [Option.map_eq_some_iff,Prod.mk.injEq] at hx
   obtain ⟨h1,hv,rfl,rfl⟩:=hx
   obtain ⟨w',r1,r2,r3⟩:=ZNz (P:=P) (ty:=o.type) hh ts hu hv
   refine fin _ w' g ?_ (by simp only [Rel];exact ⟨[],rfl,rfl⟩) r2 (Le.refl g) r3
   simp only [builtin]
   rw [Zaw,r1,Result.andThen_ok]
  ·simp only [Option.map_eq_some_iff,Prod.mk.injEq] at hx
   obtain ⟨v,hv,rfl,rfl⟩:=hx
   obtain ⟨r,r1,r2⟩:=ZKs (P:=P) (w:=w) hu hv (t::ts).toArray o.type
   refine fin r w g ?_ r2 hh (Le.refl g) (Grew.refl _ _)
   simp only [builtin]
   rw [Zaw,r1,Result.andThen_ok]
  ·cases hx
 ·rename_i t r x y
  simp only [Rels] at hr
  obtain ⟨u,us,rfl,hu,v,vs',rfl,hv,rfl⟩:=hr
  unfold ZJV at hx
  split at hx
  ·split at hx
   ·rename_i t2 ts
    obtain ⟨r,w',g',r1,r2,r3,r4,r5⟩:=ZPY (P:=P) (ty:=o.type) hh ts hu hv hx
    refine fin r w' g' ?_ r2 r3 r4 r5
    simp only [builtin]
    rw [Zaw,r1,Result.andThen_ok]
   ·cases hx
  ·obtain ⟨r1',w',g',r1,r2,r3,r4,r5⟩:=ZOR (P:=P) (ty:=o.type) hh r hu hv hx
   refine fin r1' w' g' ?_ r2 r3 r4 r5
   simp only [builtin]
   rw [Zaw,r1,Result.andThen_ok]
  ·simp only [Option.map_eq_some_iff,Prod.mk.injEq] at hx
   obtain ⟨h1,hd,rfl,rfl⟩:=hx
   obtain ⟨w',r1,r2,r3⟩:=ZMk (P:=P) (ty:=o.type) hh r hu hv hd
   refine fin _ w' g ?_ (by simp only [Rel];exact ⟨[],rfl,rfl⟩) r2 (Le.refl g) r3
   simp only [builtin]
   rw [Zaw,r1,Result.andThen_ok]
  ·simp only [Option.map_eq_some_iff,Prod.mk.injEq] at hx
   obtain ⟨z',hz,rfl,rfl⟩:=hx
   obtain ⟨r',r1,r2⟩:=ZNR (P:=P) (w:=w) hh he hu hv hz (t::r).toArray o.type
   refine fin r' w g ?_ r2 hh (Le.refl g) (Grew.refl _ _)
   simp only [builtin]
   rw [Zaw]
   simp only [if_true] at r1
   rw [r1,Result.andThen_ok]
  ·simp only [Option.map_eq_some_iff,Prod.mk.injEq] at hx
   obtain ⟨z',hz,rfl,rfl⟩:=hx
   obtain ⟨r',r1,r2⟩:=ZNR (P:=P) (w:=w) hh he hu hv hz (t::r).toArray o.type
   refine fin r' w g ?_ r2 hh (Le.refl g) (Grew.refl _ _)
   simp only [builtin]
   rw [Zaw]
   simp only [Bool.false_eq_true,if_false] at r1
   rw [r1,Result.andThen_ok]
  ·split at hx
   ·obtain ⟨r',w',r1,r2,r3,r4⟩:=ZKy (P:=P) (ty:=o.type) hh hu hv hx
    refine fin r' w' g ?_ r2 r3 (Le.refl g) r4
    simp only [builtin]
    rw [Zaw,r1,Result.andThen_ok]
   ·cases hx
  ·cases hx
 ·cases hx
end
end Go.Cm
end
section
namespace Go.Cm
open Go.Am (ZbJ)
attribute [local instance] wi0
variable {P:Program} {F:ZaQ} {e e2:Env} {h h':H} {ov:Option V}
theorem Zrf: ∀{a b:List Nat},Am.eqS a b=true->a=b
 | [],[],_=>rfl
 | x::a,y::b,h=>by
   simp only [Am.eqS,Bool.and_eq_true] at h
   rw [Nat.eq_of_beq_eq_true h.1,Zrf h.2]
 | [],_::_,h=>by cases h
 | _::_,[],h=>by cases h
mutual
theorem eqP_eq: ∀{a b:Go.Am.P},eqP a b=true->a=b
  | .int k a,b,h=>by cases b<;>simp [eqP] at h;rw [h.1,h.2]
  | .bool a,b,h=>by cases b<;>simp [eqP] at h;rw [h]
  | .str a,b,h=>by
    cases b<;>simp only [eqP] at h<;>first|(cases h;done)|skip
    rw [Zrf h]
  | .sl s r,b,h=>by
    cases b<;>simp only [eqP,Bool.and_eq_true] at h<;>first|(cases h;done)|skip
    rw [Nat.eq_of_beq_eq_true h.1,eqPss_eq h.2]
theorem eqPs_eq: ∀{a b:List Go.Am.P},eqPs a b=true->a=b
  | [],b,h=>by cases b<;>simp [eqPs] at h;rfl
  | x::a,b,h=>by
    cases b with
    | nil=>simp [eqPs] at h
    | cons y b=>
      simp only [eqPs,Bool.and_eq_true] at h
      rw [eqP_eq h.1,eqPs_eq h.2]
theorem eqPss_eq: ∀{a b:List (List Go.Am.P)},eqPss a b=true->a=b
  | [],b,h=>by cases b<;>simp [eqPss] at h;rfl
  | x::a,b,h=>by
    cases b with
    | nil=>simp [eqPss] at h
    | cons y b=>
      simp only [eqPss,Bool.and_eq_true] at h
      rw [eqPs_eq h.1,eqPss_eq h.2]
end
mutual
theorem eqV_eq: ∀{a b:V},eqV a b=true->a=b
  | .int k a,b,h=>by
    cases b<;>simp [eqV] at h
    rw [h.1,h.2]
  | .bool a,b,h=>by cases b<;>simp [eqV] at h;rw [h]
  | .str a,b,h=>by
    cases b<;>simp only [eqV] at h<;>first|cases h|skip
    rw [Zrf h]
  | .nilp,b,h=>by cases b<;>simp [eqV] at h;rfl
  | .ptr x y,b,h=>by
    cases b<;>simp [eqV] at h
    rw [h.1,h.2]
  | .nils,b,h=>by cases b<;>simp [eqV] at h;rfl
  | .sl a b c d e x,.sl a' b' c' d' e' x',h=>by
    simp only [eqV,Bool.and_eq_true,beq_iff_eq] at h
    obtain ⟨⟨⟨⟨⟨h1,h2⟩,h3⟩,h4⟩,h5⟩,h6⟩:=h
    rw [Nat.eq_of_beq_eq_true h1,Nat.eq_of_beq_eq_true h2,Nat.eq_of_beq_eq_true h3,Nat.eq_of_beq_eq_true h4,Nat.eq_of_beq_eq_true h5,h6]
  | .sl a b c d e x,.int ..,h| .sl a b c d e x,.bool ..,h| .sl a b c d e x,.str ..,h| .sl a b c d e x,.nilp,h| .sl a b c d e x,.ptr ..,h| .sl a b c d e x,.nils,h| .sl a b c d e x,.emp,h| .sl a b c d e x,.nilm,h| .sl a b c d e x,.map ..,h
  | .sl a b c d e x,.nilf,h| .sl a b c d e x,.nili,h| .sl a b c d e x,.fn ..,h| .sl a b c d e x,.yld ..,h| .sl a b c d e x,.dat ..,h| .sl a b c d e x,.dp ..,h| .sl a b c d e x,.agg ..,h| .sl a b c d e x,.tup ..,h=>by simp [eqV] at h
  | .emp,b,h=>by cases b<;>simp [eqV] at h;rfl
  | .nilm,b,h=>by cases b<;>simp [eqV] at h;rfl
  | .map a,b,h=>by cases b<;>simp [eqV] at h;rw [h]
  | .nilf,b,h=>by cases b<;>simp [eqV] at h;rfl
  | .nili,b,h=>by cases b<;>simp [eqV] at h;rfl
  | .yld a,b,h=>by cases b<;>simp [eqV] at h;rw [h]
  | .dat s r,b,h=>by
    cases b<;>simp only [eqV,Bool.and_eq_true] at h<;>first|(cases h;done)|skip
    rw [Nat.eq_of_beq_eq_true h.1,eqPss_eq h.2]
  | .dp r,b,h=>by
    cases b<;>simp only [eqV] at h<;>first|(cases h;done)|skip
    rw [eqPs_eq h]
  | .fn f x y,b,h=>by
    cases b<;>simp only [eqV,Bool.and_eq_true] at h<;>first|(cases h;done)|skip
    obtain ⟨⟨h1,h2⟩,h3⟩:=h
    rw [Nat.eq_of_beq_eq_true h1,eqVs_eq h2,eqVs_eq h3]
  | .agg a,b,h=>by
    cases b<;>simp only [eqV] at h<;>first|cases h|skip
    rw [eqVs_eq h]
  | .tup a,b,h=>by
    cases b<;>simp only [eqV] at h<;>first|cases h|skip
    rw [eqVs_eq h]
theorem eqVs_eq: ∀{a b:List V},eqVs a b=true->a=b
  | [],b,h=>by cases b<;>simp [eqVs] at h;rfl
  | x::a,b,h=>by
    cases b with
    | nil=>simp [eqVs] at h
    | cons y b=>
      simp only [eqVs,Bool.and_eq_true] at h
      rw [eqV_eq h.1,eqVs_eq h.2]
end
theorem ZN3 {v:V} {o:Option V} (h:eqOV v o=true):o=some v:=by
 cases o with
 | none=>cases h
 | some y=>rw [eqV_eq (show eqV v y=true from h)]
theorem ZP6 {x:Option O} {o:O} (h:eqOb x o=true):x=some o:=by
 unfold eqOb at h
 split at h
 ·simp only [Bool.and_eq_true] at h
  obtain ⟨⟨⟨h1,h2⟩,h3⟩,h4⟩:=h
  rw [eqVs_eq h1,Nat.eq_of_beq_eq_true h2,Nat.eq_of_beq_eq_true h3,eq_of_beq h4]
 ·rw [Nat.eq_of_beq_eq_true h]
 ·cases h
theorem ZPX {x y:Option (Nat×Nat)} (h:eqTy x y=true):x=y:=by
 unfold eqTy at h
 split at h
 ·rfl
 ·simp only [Bool.and_eq_true] at h
  rw [Nat.eq_of_beq_eq_true h.1,Nat.eq_of_beq_eq_true h.2]
 ·cases h
def Agr (e e2:Env) (l:List Operand):Prop:= ∀x∈l,ev e x=ev e2 x
theorem Agr.of {l:List Operand} (ht: ∀t∈ZIA l,e.get t=e2.get t):Agr e e2 l:=by
 induction l with
 | nil=>intro x hx;cases hx
 | cons y l ih=>
   intro x hx
   have hl: ∀t∈ZIA l,e.get t=e2.get t:=fun t h=>ht t (by cases y<;>simp [ZIA,h])
   rcases List.mem_cons.1 hx with rfl|hx
   · cases x with
     | tmp t=>exact ht t (by simp [ZIA])
     | _=>rfl
   · exact ih hl x hx
theorem ZIN: ∀{xs:List Operand},Agr e e2 xs->evs e xs=evs e2 xs
 | [],_=>rfl
 | x::xs,h=>by simp only [evs,h x Zs,ZIN (xs:=xs) fun y hy=>h y (List.mem_cons_of_mem _ hy)]
theorem ZH2: ∀{ps:List (Nat×Operand)},Agr e e2 (ps.map (·.2))->ZJO e ps=ZJO e2 ps
 | [],_=>rfl
 | (i,x)::ps,h=>by simp only [ZJO,h x Zs,ZH2 (ps:=ps) fun y hy=>h y (List.mem_cons_of_mem _ hy)]
theorem ZH4 {x:Option Operand} (h:Agr e e2 x.toList):optV e x=optV e2 x:=by
 cases x with
 | none=>rfl
 | some x=>simp only [optV,h x Zs]
theorem ZIf {op:Op} (h:Agr e e2 (ZHj op)):mkV P e op=mkV P e2 op:=by
 cases op with
 | alloc el=>rfl
 | box t x=>simp only [mkV,h x (by simp [ZHj])]
 | buildSlice t n ps=>simp only [mkV,ZH2 (show Agr e e2 (ps.toList.map (·.2)) from h)]
 | makeMap t r=>simp only [mkV,ZH4 (show Agr e e2 r.toList from h)]
 | makeSlice t l c=>simp only [mkV,h l (by simp [ZHj]),h c (by simp [ZHj])]
 | _=>rfl
theorem ZLl {op:Op} (ha:Agr e e2 (ZHj op)):opV P F e h op=opV P F e2 h op:=by
 cases op with
 | move x=>simp only [opV,ha x (by simp [ZHj])]
 | assign x=>simp only [opV,ha x (by simp [ZHj])]
 | pick c x y=>simp only [opV,ha c (by simp [ZHj]),ha x (by simp [ZHj]),ha y (by simp [ZHj])]
 | alloc el=>rfl
 | box t x=>simp only [opV,ZIf ha]
 | build t ps=>simp only [opV,ZH2 (show Agr e e2 (ps.toList.map (·.2)) from ha)]
 | buildSlice t n ps=>simp only [opV,ZIf ha]
 | load t x=>simp only [opV,ha x (by simp [ZHj])]
 | store t x y=>simp only [opV,ha x (by simp [ZHj]),ha y (by simp [ZHj])]
 | nilCheck x=>simp only [opV,ha x (by simp [ZHj])]
 | binOp op t x y t'=>simp only [opV,ha x (by simp [ZHj]),ha y (by simp [ZHj])]
 | unOp op t x=>simp only [opV,ha x (by simp [ZHj])]
 | convert s d x=>simp only [opV,ha x (by simp [ZHj])]
 | makeFunc f x y=>
   cases f with
   | func f=>
     have h1:evs e x.toList=evs e2 x.toList:=ZIN fun z hz=>ha z (by simp [ZHj] at hz⊢;exact .inl hz)
     have h2:evs e y.toList=evs e2 y.toList:=ZIN fun z hz=>ha z (by simp [ZHj] at hz⊢;exact .inr hz)
     simp only [opV,h1,h2]
   | _=>rfl
 | makeMap t r=>simp only [opV,ZIf ha]
 | makeSlice t l c=>simp only [opV,ZIf ha]
 | slice t x lo hi mx=>
   have h1:optV e lo=optV e2 lo:=ZH4 fun z hz=>ha z (by simp [ZHj] at hz⊢;simp [hz])
   have h2:optV e hi=optV e2 hi:=ZH4 fun z hz=>ha z (by simp [ZHj] at hz⊢;simp [hz])
   have h3:optV e mx=optV e2 mx:=ZH4 fun z hz=>ha z (by simp [ZHj] at hz⊢;simp [hz])
   simp only [opV,ha x (by simp [ZHj]),h1,h2,h3]
 | fieldAddr t x f=>simp only [opV,ha x (by simp [ZHj])]
 | field t x f=>simp only [opV,ha x (by simp [ZHj])]
 | indexAddr t x i=>simp only [opV,ha x (by simp [ZHj]),ha i (by simp [ZHj])]
 | index t x i=>simp only [opV,ha x (by simp [ZHj]),ha i (by simp [ZHj])]
 | lookup t x i ok=>simp only [opV,ha x (by simp [ZHj]),ha i (by simp [ZHj])]
 | mapUpdate t m k x=>simp only [opV,ha m (by simp [ZHj]),ha k (by simp [ZHj]),ha x (by simp [ZHj])]
 | insert t m k x=>simp only [opV,ha m (by simp [ZHj]),ha k (by simp [ZHj]),ha x (by simp [ZHj])]
 | range t x=>simp only [opV,ha x (by simp [ZHj])]
 | next x isS=>simp only [opV,ha x (by simp [ZHj])]
 | entry x=>simp only [opV,ha x (by simp [ZHj])]
 | extract t i=>simp only [opV,ha t (by simp [ZHj])]
 | call c=>
   have h1:evs e c.args.toList=evs e2 c.args.toList:=ZIN fun z hz=>ha z (by simp only [ZHj,List.mem_append];exact .inr hz)
   simp only [opV,h1]
   cases hc:c.callee with
   | value f=>
     have h2:=ha f (by simp [ZHj,hc])
     cases evs e2 c.args.toList with
     | none=>rfl
     | some args=>simp only [h2]
   | _=>cases evs e2 c.args.toList<;>rfl
 | _=>rfl
theorem ZK8 {op:Op} (hc:ZIi op=0) (hx:opV P F e h op=some (ov,h')):h'=h/\ ∀h2,opV P F e h2 op=some (ov,h2):=by
 cases op with
 | move x=>
   simp only [opV] at hx⊢
   repeat' split at hx
   all_goals first
     | (cases hx;done)
     | (simp only [Option.some.injEq,Prod.mk.injEq] at hx;obtain ⟨rfl,rfl⟩:=hx;exact ⟨rfl,fun _=>by simp_all⟩)
     | (simp only [Option.map_eq_some_iff,Prod.mk.injEq] at hx;obtain ⟨v,h1,rfl,rfl⟩:=hx;exact ⟨rfl,fun _=>by simp_all⟩)
 | assign x=>
   simp only [opV] at hx⊢
   repeat' split at hx
   all_goals first
     | (cases hx;done)
     | (simp only [Option.some.injEq,Prod.mk.injEq] at hx;obtain ⟨rfl,rfl⟩:=hx;exact ⟨rfl,fun _=>by simp_all⟩)
     | (simp only [Option.map_eq_some_iff,Prod.mk.injEq] at hx;obtain ⟨v,h1,rfl,rfl⟩:=hx;exact ⟨rfl,fun _=>by simp_all⟩)
 | pick c x y=>
   simp only [opV] at hx⊢
   repeat' split at hx
   all_goals first
     | (cases hx;done)
     | (simp only [Option.some.injEq,Prod.mk.injEq] at hx;obtain ⟨rfl,rfl⟩:=hx;exact ⟨rfl,fun _=>by simp_all⟩)
     | (simp only [Option.map_eq_some_iff,Prod.mk.injEq] at hx;obtain ⟨v,h1,rfl,rfl⟩:=hx;exact ⟨rfl,fun _=>by simp_all⟩)
 | build t ps=>
   simp only [opV] at hx⊢
   repeat' split at hx
   all_goals first
     | (cases hx;done)
     | (simp only [Option.some.injEq,Prod.mk.injEq] at hx;obtain ⟨rfl,rfl⟩:=hx;exact ⟨rfl,fun _=>by simp_all⟩)
     | (simp only [Option.map_eq_some_iff,Prod.mk.injEq] at hx;obtain ⟨v,h1,rfl,rfl⟩:=hx;exact ⟨rfl,fun _=>by simp_all⟩)
 | nilCheck x=>
   simp only [opV] at hx⊢
   repeat' split at hx
   all_goals first
     | (cases hx;done)
     | (simp only [Option.some.injEq,Prod.mk.injEq] at hx;obtain ⟨rfl,rfl⟩:=hx;exact ⟨rfl,fun _=>by simp_all⟩)
     | (simp only [Option.map_eq_some_iff,Prod.mk.injEq] at hx;obtain ⟨v,h1,rfl,rfl⟩:=hx;exact ⟨rfl,fun _=>by simp_all⟩)
 | binOp op t x y t'=>
   simp only [opV] at hx⊢
   repeat' split at hx
   all_goals first
     | (cases hx;done)
     | (simp only [Option.some.injEq,Prod.mk.injEq] at hx;obtain ⟨rfl,rfl⟩:=hx;exact ⟨rfl,fun _=>by simp_all⟩)
     | (simp only [Option.map_eq_some_iff,Prod.mk.injEq] at hx;obtain ⟨v,h1,rfl,rfl⟩:=hx;exact ⟨rfl,fun _=>by simp_all⟩)
 | unOp op t x=>
   simp only [opV] at hx⊢
   repeat' split at hx
   all_goals first
     | (cases hx;done)
     | (simp only [Option.some.injEq,Prod.mk.injEq] at hx;obtain ⟨rfl,rfl⟩:=hx;exact ⟨rfl,fun _=>by simp_all⟩)
     | (simp only [Option.map_eq_some_iff,Prod.mk.injEq] at hx;obtain ⟨v,h1,rfl,rfl⟩:=hx;exact ⟨rfl,fun _=>by simp_all⟩)
 | slice t x lo hi mx=>
   simp only [opV] at hx⊢
   repeat' split at hx
   all_goals first
     | (cases hx;done)
     | (simp only [Option.some.injEq,Prod.mk.injEq] at hx;obtain ⟨rfl,rfl⟩:=hx;exact ⟨rfl,fun _=>by simp_all⟩)
     | (simp only [Option.map_eq_some_iff,Prod.mk.injEq] at hx;obtain ⟨v,h1,rfl,rfl⟩:=hx;exact ⟨rfl,fun _=>by simp_all⟩)
 | fieldAddr t x f=>
   simp only [opV] at hx⊢
   repeat' split at hx
   all_goals first
     | (cases hx;done)
     | (simp only [Option.some.injEq,Prod.mk.injEq] at hx;obtain ⟨rfl,rfl⟩:=hx;exact ⟨rfl,fun _=>by simp_all⟩)
     | (simp only [Option.map_eq_some_iff,Prod.mk.injEq] at hx;obtain ⟨v,h1,rfl,rfl⟩:=hx;exact ⟨rfl,fun _=>by simp_all⟩)
 | field t x f=>
   simp only [opV] at hx⊢
   repeat' split at hx
   all_goals first
     | (cases hx;done)
     | (simp only [Option.some.injEq,Prod.mk.injEq] at hx;obtain ⟨rfl,rfl⟩:=hx;exact ⟨rfl,fun _=>by simp_all⟩)
     | (simp only [Option.map_eq_some_iff,Prod.mk.injEq] at hx;obtain ⟨v,h1,rfl,rfl⟩:=hx;exact ⟨rfl,fun _=>by simp_all⟩)
 | indexAddr t x i=>
   simp only [opV] at hx⊢
   repeat' split at hx
   all_goals first
     | (cases hx;done)
     | (simp only [Option.some.injEq,Prod.mk.injEq] at hx;obtain ⟨rfl,rfl⟩:=hx;exact ⟨rfl,fun _=>by simp_all⟩)
     | (simp only [Option.map_eq_some_iff,Prod.mk.injEq] at hx;obtain ⟨v,h1,rfl,rfl⟩:=hx;exact ⟨rfl,fun _=>by simp_all⟩)
 | index t x i=>
   simp only [opV] at hx⊢
   repeat' split at hx
   all_goals first
     | (cases hx;done)
     | (simp only [Option.some.injEq,Prod.mk.injEq] at hx;obtain ⟨rfl,rfl⟩:=hx;exact ⟨rfl,fun _=>by simp_all⟩)
     | (simp only [Option.map_eq_some_iff,Prod.mk.injEq] at hx;obtain ⟨v,h1,rfl,rfl⟩:=hx;exact ⟨rfl,fun _=>by simp_all⟩)
 | extract t i=>
   simp only [opV] at hx⊢
   repeat' split at hx
   all_goals first
     | (cases hx;done)
     | (simp only [Option.some.injEq,Prod.mk.injEq] at hx;obtain ⟨rfl,rfl⟩:=hx;exact ⟨rfl,fun _=>by simp_all⟩)
     | (simp only [Option.map_eq_some_iff,Prod.mk.injEq] at hx;obtain ⟨v,h1,rfl,rfl⟩:=hx;exact ⟨rfl,fun _=>by simp_all⟩)
 | makeFunc f x y=>
   cases f with
   | func f=>
     simp only [opV] at hx⊢
     repeat' split at hx
     all_goals first
       | (cases hx;done)
       | (simp only [Option.some.injEq,Prod.mk.injEq] at hx;obtain ⟨rfl,rfl⟩:=hx;exact ⟨rfl,fun _=>by simp_all⟩)
       | (simp only [Option.map_eq_some_iff,Prod.mk.injEq] at hx;obtain ⟨v,h1,rfl,rfl⟩:=hx;exact ⟨rfl,fun _=>by simp_all⟩)
   | _=>simp [opV] at hx
 | call c=>
   simp only [ZIi] at hc
   split at hc<;>cases hc
 | _=>simp [ZIi] at hc
theorem ZMe {op:Op} (hc:ZIi op=1) (hx:opV P F e h op=some (ov,h')):h'=h:=by
 cases op with
 | load t x=>
   simp only [opV] at hx
   split at hx
   · simp only [Option.map_eq_some_iff,Prod.mk.injEq] at hx;obtain ⟨_,_,_,rfl⟩:=hx;rfl
   · cases hx
 | convert s d x=>
   simp only [opV] at hx
   split at hx
   · simp only [Option.map_eq_some_iff,Prod.mk.injEq] at hx;obtain ⟨_,_,_,rfl⟩:=hx;rfl
   · cases hx
 | lookup t x i ok=>
   simp only [opV] at hx;repeat' split at hx
   all_goals simp_all
 | entry x=>
   simp only [opV] at hx
   split at hx
   · simp only [Option.map_eq_some_iff,Prod.mk.injEq] at hx;obtain ⟨_,_,_,rfl⟩:=hx;rfl
   · cases hx
 | call c=>
   simp only [ZIi] at hc
   have key: ∀(b:Builtin) (ts:List TypeId) (vs:List V) (z:V) (h1:H),(b= .len∨b= .min∨b= .max∨b= .unsafeSliceData)->ZHZ P b ts vs h=some (z,h1)->h1=h:=fun b ts vs z h1 hb hz=>by
     unfold ZHZ at hz
     rcases hb with rfl|rfl|rfl|rfl<;>
     · split at hz
       · simp only [ZJQ,Option.map_eq_some_iff,Prod.mk.injEq] at hz
         first|(obtain ⟨_,_,_,rfl⟩:=hz;rfl)|cases hz
       · simp only [ZJV,Option.map_eq_some_iff,Prod.mk.injEq] at hz
         first|(obtain ⟨_,_,_,rfl⟩:=hz;rfl)|cases hz
       · cases hz
   simp only [opV] at hx
   split at hc
   all_goals first|cases hc|skip
   all_goals
     rename_i hcal
     simp only [hcal] at hx
     split at hx
     · rename_i hh _;cases hh
     · rename_i b args hb hargs
       cases hb
       simp only [Option.map_eq_some_iff,Prod.mk.injEq] at hx
       obtain ⟨⟨z,h1⟩,hz,rfl,rfl⟩:=hx
       exact key _ _ _ _ _ Zs hz
     · cases hx
 | _=>simp [ZIi] at hc
theorem ZPe {op:Op} (hc:ZIi op=2):opV P F e h op=mkR h (mkV P e op):=by
 cases op with
 | alloc el=>rfl
 | box t x=>rfl
 | buildSlice t n ps=>rfl
 | makeMap t r=>rfl
 | makeSlice t l c=>rfl
 | call c=>
   simp only [ZIi] at hc
   split at hc<;>cases hc
 | _=>simp [ZIi] at hc
def ZHn (F:ZaQ):Prop:= ∀f args h v h',F f args h=some (v,h')->h.next<=h'.next
theorem ZLg {b o:Nat} {xs:List V} (hx:h.wr b o xs=some h'):h.next<=h'.next:=by
 unfold H.wr at hx
 repeat' split at hx
 all_goals first|cases hx|skip
 all_goals exact Nat.le_refl _
theorem ZMu {t:TypeId} {b:Nat} {k x:V} (hx:ZL7 P h t b k x=some h'):h.next<=h'.next:=by
 unfold ZL7 at hx
 repeat' split at hx
 all_goals first|cases hx|skip
 all_goals exact Nat.le_refl _
theorem ZOq {el s:Nat} {a x z:V} (hx:ZLE h el s a x=some (z,h')):h.next<=h'.next:=by
 unfold ZLE ZQF at hx
 repeat' split at hx
 all_goals first|(cases hx;done)|skip
 all_goals first
    | (simp only [Option.some.injEq,Prod.mk.injEq] at hx;obtain ⟨_,rfl⟩:=hx;first|exact Nat.le_refl _|exact Nat.le_succ _|exact ZLg Za)
theorem ZPC {b:Builtin} {ts:List TypeId} {vs:List V} {z:V} (hx:ZHZ P b ts vs h=some (z,h')):h.next<=h'.next:=by
 unfold ZHZ at hx
 split at hx
 ·unfold ZJQ at hx
  split at hx
  ·simp only [Option.map_eq_some_iff,Prod.mk.injEq] at hx;obtain ⟨_,_,_,rfl⟩:=hx;exact Nat.le_refl _
  ·simp only [Option.map_eq_some_iff,Prod.mk.injEq] at hx
   obtain ⟨h1,hc,_,rfl⟩:=hx
   unfold ZNI at hc
   repeat' split at hc
   all_goals first|(cases hc;done)|(cases hc;exact Nat.le_refl _)|exact ZLg hc
  ·simp only [Option.map_eq_some_iff,Prod.mk.injEq] at hx;obtain ⟨_,_,_,rfl⟩:=hx;exact Nat.le_refl _
  ·cases hx
 ·unfold ZJV at hx
  split at hx
  ·split at hx
   ·unfold appV at hx
    repeat' split at hx
    all_goals first|(cases hx;done)|exact ZOq hx
   ·cases hx
  ·unfold ZQd at hx
   repeat' split at hx
   all_goals first|(cases hx;done)|skip
   all_goals first
        | (simp only [Option.some.injEq,Prod.mk.injEq] at hx;obtain ⟨_,rfl⟩:=hx;first|exact Nat.le_refl _|exact ZLg Za)
  ·simp only [Option.map_eq_some_iff,Prod.mk.injEq] at hx
   obtain ⟨h1,hc,_,rfl⟩:=hx
   unfold ZLC at hc
   repeat' split at hc
   all_goals first|(cases hc;done)|(cases hc;exact Nat.le_refl _)
  ·simp only [Option.map_eq_some_iff,Prod.mk.injEq] at hx;obtain ⟨_,_,_,rfl⟩:=hx;exact Nat.le_refl _
  ·simp only [Option.map_eq_some_iff,Prod.mk.injEq] at hx;obtain ⟨_,_,_,rfl⟩:=hx;exact Nat.le_refl _
  ·split at hx
   ·unfold ZIb at hx
    repeat' split at hx
    all_goals first
          | (cases hx;done)
          | (cases hx;exact Nat.le_refl _)
          | (simp only [Option.map_eq_some_iff,Prod.mk.injEq] at hx;obtain ⟨_,_,_,rfl⟩:=hx;exact Nat.le_refl _)
   ·cases hx
  ·cases hx
 ·cases hx
theorem ZKR (hF:ZHn F) {op:Op} (hx:opV P F e h op=some (ov,h')):h.next<=h'.next:=by
 by_cases h0:ZIi op=0
 · rw [(ZK8 h0 hx).1];exact Nat.le_refl _
 by_cases h1:ZIi op=1
 · rw [ZMe h1 hx];exact Nat.le_refl _
 by_cases h2:ZIi op=2
 · rw [ZPe h2] at hx
   simp only [mkR,Option.map_eq_some_iff,Prod.mk.injEq] at hx
   obtain ⟨_,_,_,rfl⟩:=hx
   exact Nat.le_succ _
 cases op with
 | store t x y=>
   simp only [opV] at hx
   split at hx
   · simp only [Option.map_eq_some_iff,Prod.mk.injEq] at hx
     obtain ⟨h1,hs,_,rfl⟩:=hx
     unfold ZJ5 at hs
     repeat' split at hs
     all_goals first|(cases hs;done)|exact ZLg hs
   · cases hx
 | mapUpdate t m k x=>
   simp only [opV] at hx
   split at hx
   · simp only [Option.map_eq_some_iff,Prod.mk.injEq] at hx
     obtain ⟨h1,hs,_,rfl⟩:=hx
     exact ZMu hs
   · cases hx
 | insert t m k x=>
   simp only [opV] at hx
   split at hx
   · simp only [Option.map_eq_some_iff,Prod.mk.injEq] at hx
     obtain ⟨h1,hs,_,rfl⟩:=hx
     exact ZMu hs
   · cases hx
 | range t x=>
   simp only [opV] at hx
   repeat' split at hx
   all_goals first|(cases hx;done)|(cases hx;exact Nat.le_succ _)
 | next x isS=>
   simp only [opV] at hx
   split at hx
   · simp only [Option.map_eq_some_iff,Prod.mk.injEq] at hx
     obtain ⟨⟨z,h1⟩,hs,_,rfl⟩:=hx
     unfold ZQu at hs
     repeat' (first|split at hs|(simp only at hs;split at hs))
     all_goals first|(cases hs;done)|(cases hs;exact Nat.le_refl _)
   · cases hx
 | call c=>
   simp only [opV] at hx
   split at hx
   · split at hx
     · simp only [Option.map_eq_some_iff,Prod.mk.injEq] at hx
       obtain ⟨⟨z,h1⟩,hs,_,rfl⟩:=hx
       unfold ZQZ at hs
       split at hs
       · rename_i f first caps _
         cases hlt:Nat.blt f YB with
         | true=>rw [hlt] at hs;exact hF _ _ _ _ _ hs
         | false=>rw [hlt] at hs;cases hs
       · exact hF _ _ _ _ _ hs
       · cases hs
     · cases hx
   · simp only [Option.map_eq_some_iff,Prod.mk.injEq] at hx
     obtain ⟨⟨z,h1⟩,hs,_,rfl⟩:=hx
     exact ZPC hs
   · cases hx
 | _=>first|(exact absurd rfl h0)|(exact absurd rfl h1)|(exact absurd rfl h2)|(simp [opV] at hx;done)
end Go.Cm
end
