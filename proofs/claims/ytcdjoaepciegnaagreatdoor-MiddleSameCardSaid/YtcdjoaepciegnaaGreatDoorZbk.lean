/- Part. -/
import Derived.Test.YtcdjoaepciegnaaGreatDoorZbj
set_option maxRecDepth 999999
set_option maxHeartbeats 0
set_option linter.all false
section
namespace Go.Cm
open Go.Am (ZbJ Ze7 Zaw Addr.add_eq Zjd ZlC)
attribute [local instance] wi0
variable {P:Program} {F:ZaQ} {g:G} {e:Env} {a:Act} {w:World} {h h':H} {ov:Option V} {o:Oper}
def byteCells (s:ByteArray):List Value:=s.data.toList.map fun b=>Value.int .u8 b.toNat
theorem ZKU (g:G): ∀l:List UInt8,Rels g ((l.map UInt8.toNat).map fun (c:Nat)=>V.int .u8 c) (l.map fun b=>Value.int .u8 b.toNat)
 | []=>rfl
 | b::l=>⟨_,_,rfl,rfl,ZKU g l⟩
theorem ZMv {b i:Nat} {vs:Array Value} {t:TypeId} (hb:w.heap[(g.β b).1]? =some (.cells vs t (0,0))) (j:Nat):w.cell? ((g.at b i).add j)=vs[(g.β b).2+i+j]? :=by
 rw [G.at,Addr.add_eq,Am.cell_of_heap hb]
structure Src (P:Program) (size:Nat) (x:Value) (n:Nat) (news:List Value) (w:World):Prop where
 len: ∀w':World,(Builtin.lenOf x).run P w'= .ok n w'
 cells: ∀m,m<=n->(Builtin.firstCells size m x).run P w= .ok (news.take (m*size)).toArray w
 cellsD:(Builtin.firstCells size n x).run P w.drew= .ok news.toArray w.drew
 newsLen:news.length=n*size
theorem Src.all {size:Nat} {x:Value} {n:Nat} {news:List Value} (h:Src P size x n news w):(Builtin.firstCells size n x).run P w= .ok news.toArray w:=by
 have:=h.cells n (Yc _);rwa [Yg (by rw [h.newsLen];exact Yc _)] at this
theorem Src.ofSlice {size n cap:Nat} {ad:Addr} {news:List Value} (hl:news.length=n*size) (hc: ∀(j:Nat) v,news[j]? =some v->w.cell? (ad.add j)=some v):Src P size (.slice (some ad) n cap) n news w:=by
 refine ⟨fun _=>rfl,fun m hm=>?_,run_firstCells_some (P:=P) w.drew size n ad n cap news hl (by simpa using hc),hl⟩;refine run_firstCells_some (P:=P) w size m ad n cap (news.take (m*size)) ?_ fun j v hj=>?_
 ·rw [List.length_take,hl];exact Nat.min_eq_left (YI _ hm)
 ·rw [YG] at hj;split at hj
  ·exact hc j v hj
  ·cases hj
theorem ZJ4 (hh:HR g h w) {x:V} {v:Value} (hr:Rel g x v) {s n:Nat} {xs:List V} (hc:cellsOf h s x=some (n,xs)): ∃news,Rels g xs news/\Src P s v n news w:=by
 unfold cellsOf at hc;split at hc
 ·cases hc;have:v= .slice none 0 0:=by simpa only [Rel] using hr
  subst this;exact ⟨[],rfl,fun _=>rfl,fun m hm=>by simpa using run_firstCells_none w s m 0 0,by simpa using run_firstCells_none w.drew s 0 0 0,by simp⟩
 ·cases hc;simp only [Rel] at hr;obtain ⟨ad,cap,rfl⟩:=hr;exact ⟨[],rfl,Src.ofSlice Zs (fun j v h=>by simp at h)⟩
 ·rename_i b i s' len lo ex;split at hc
  ·rename_i hs;subst hs;split at hc
   ·rename_i cs hrd;simp only [YF,YL] at hc;obtain ⟨xs',hcut,rfl,rfl⟩:=hc;obtain ⟨hb,cap,rfl,q1,q2,q3,q4⟩:=ZJ5 hr;obtain ⟨vs,ty,r1,r2,r3,r4⟩:=hh.read hb hrd;obtain ⟨us,u1,u2,u3,u4,u5⟩:=r4.cut hcut;exact ⟨us,u2,Src.ofSlice u1 fun j v hj=>by rw [ZMv r1];exact u3 j v hj⟩
   ·cases hc
  ·cases hc
 ·rename_i t;split at hc
  ·rename_i hs;subst hs;cases hc;obtain ⟨bs,rfl,rfl⟩:=ZH9 hr;have hln:(byteCells bs).length=(ZbJ bs).length:=by simp [byteCells,ZbJ]
   have hsz:(ZbJ bs).length=bs.size:=Ze7 bs;have hf: ∀(m:Nat) (w':World),(Builtin.firstCells 1 m (.string bs)).run P w'= .ok ((byteCells bs).take (m*1)).toArray w':=fun m w'=>by
    simp only [Builtin.firstCells,Sem.run_pure,Nat.mul_one];congr 1;apply Array.ext';simp [byteCells,List.map_take]
   refine ⟨byteCells bs,ZKU g _,fun _=>by rw [hsz];rfl,fun m _=>hf m w,?_,by rw [hln,Nat.mul_one]⟩;have:=hf (ZbJ bs).length w.drew;rwa [Yg Zo] at this
  ·cases hc
 ·cases hc
section
variable {t u ty el:TypeId} {i:TypeInfo} {d:TypeDesc} (ht:P.underlying t=some (.slice el)) (hu:P.underlying u=some d) (hd:ZNP d=true) (hi:P.info? el=some i)
include ht hu hd hi
theorem ZH7 (ts:List TypeId) {base:Option Addr} {len cap n:Nat} {x:Value} {news:List Value} (hs:Src P i.size x n news w) (hle:len+n<=cap):
  (Builtin.append_ (t::u::ts).toArray ty #[.slice base len cap,x]).run P w=((Zjd base (len*i.size) news).run P w).andThen fun _ w'=> .ok (.slice base (len+n) cap) w':=by
 cases d<;>first|cases hd|skip
 all_goals
  cases base<;>simp [Zjd,Builtin.append_,run_underlying ht,run_underlying hu,sizeOf,typeInfo,hi,hs.len,hle,hs.all]
theorem ZIw (ts:List TypeId) {z:Value} (hz:i.zero=some z) {base:Option Addr} {sLen sCap:Nat} {olds:List Value} (hold:(Builtin.firstCells i.size sLen (.slice base sLen sCap)).run P w.drew= .ok olds.toArray w.drew)
  {x:Value} {n:Nat} {news:List Value} (hs:Src P i.size x n news w) (hg:sCap<sLen+n) (h63:((sLen+n:Nat):Int)<=9223372036854775807) (hfit:Builtin.nextslicecap (sLen+n) sCap*i.bytes<=281474976710656):
  (Builtin.append_ (t::u::ts).toArray ty #[.slice base sLen sCap,x]).run P w=
   .ok (.slice (some ⟨w.heap.size,0,none⟩) (sLen+n) (grownCap w (sLen+n) sCap el))
    (w.drew.alloc (.cells ((olds++news).toArray++Builtin.zeroCells z.cells (grownCap w (sLen+n) sCap el-(sLen+n))) el)):=by
 have hn: ¬(sLen+n<=sCap):=by omega
 have h63': ¬(9223372036854775807<((sLen:Int)+(n:Int))):=by omega
 have h48': ¬(281474976710656<Builtin.nextslicecap (sLen+n) sCap*i.bytes):=by omega
 cases d<;>first|cases hd|skip
 all_goals
  simp [Builtin.append_,run_underlying ht,run_underlying hu,sizeOf,typeInfo,zeroValue,hi,hz,hs.len,hn,h63',h48',Question.forced,hs.cellsD,hold,newRow,grownCap];congr 2;apply Array.ext';simp [Yu]
end
def G.fork (g:G) (id:Nat) (p:Nat×Nat) (s:Nat):G:=⟨fun i=>g.ex i∨i=id,fun i=>if i=id then p else g.β i,fun i=>if i=id then s else g.sz i,g.base,max g.top (id+1)⟩
theorem ZI9 (g:G) {id:Nat} (hn: ¬g.ex id) (p:Nat×Nat) (s:Nat):Le0 g (g.fork id p s):=by
 have hne: ∀i,g.ex i->i≠id:=fun i hi he=>hn (he ▸ hi);exact ⟨fun i hi=> .inl hi,fun i hi=>by simp [G.fork,hne i hi],fun i hi=>by simp [G.fork,hne i hi],rfl⟩
theorem HR.le_fork (hh:HR g h w) (p:Nat×Nat) (s:Nat):Le g (g.fork h.next p s):=
 ⟨ZI9 g hh.fresh p s,Nat.le_max_left _ _,fun b hb=>hb.imp id fun e=>by rw [e,hh.top];exact Yc _⟩
theorem ZLa (g:G) (id:Nat) (p:Nat×Nat) (s:Nat):(g.fork id p s).β id=p:=by simp [G.fork]
theorem ZMA (g:G) (id:Nat) (p:Nat×Nat) (s:Nat):(g.fork id p s).sz id=s:=by simp [G.fork]
theorem HR.fork (hh:HR g h w) {b gr ver:Nat} {cs xs:List V} (hbn:g.ex b) (hb:h.obs.get b=some (.cells cs gr ver false)) (ha:h.low gr<=ver) {p:Nat×Nat} {s:Nat} {w':World} (hsz:w.heap.size<=w'.heap.size) (hp:g.base<=p.1/\p.1<w'.heap.size)
  (hold: ∀k o,g.ex k->h.obs.get k=some o->ObOK g h.low w' k o) (hnew:ObOK (g.fork h.next p s) h.low w' h.next (.cells xs gr (ver+1) false))
  (hcase:(p.1=(g.β b).1/\(g.β b).2+cs.length<=p.2+xs.length)∨w.heap.size<=p.1)
  (hkeep: ∀k vs t fz,g.ex k->w.heap[(g.β k).1]? =some (.cells vs t fz)-> ∃vs' fz',w'.heap[(g.β k).1]? =some (.cells vs' t fz')/\vs'.size=vs.size)
  {ty:Option (Nat×Nat)} (hty: ∀t n,ty=some (t,n)->p.2=0/\n=0/\ ∃vs fz,w'.heap[p.1]? =some (.cells vs t fz)):
  HR (g.fork h.next p s) ((h.setObj b (.cells cs gr ver true)).new (.cells xs gr (ver+1) false) ty) w':=by
 have hne: ∀k,g.ex k->k≠h.next:=fun k hk=>Nat.ne_of_lt (hh.nx k hk);have hal:ZIG g h b gr ver false cs:=⟨hb,ha,hbn⟩
 have hβ: ∀k,g.ex k->(g.fork h.next p s).β k=g.β k:=(ZI9 g hh.fresh p s).β;have hn1:(g.fork h.next p s).β h.next=p:=ZLa g h.next p s;have hobs: ∀k,((h.setObj b (.cells cs gr ver true)).new (.cells xs gr (ver+1) false) ty).obs.get k=if k=h.next then some (.cells xs gr (ver+1) false) else if k=b then some (.cells cs gr ver true) else h.obs.get k:=fun k=>by
  simp only [H.new,H.setObj];rw [T.get_set,T.get_set]
 have hlow: ∀k,((h.setObj b (.cells cs gr ver true)).new (.cells xs gr (ver+1) false) ty).low k=h.low k:=fun k=>rfl;have hdown: ∀k gr' ver' kid' c,ZIG (g.fork h.next p s) ((h.setObj b (.cells cs gr ver true)).new (.cells xs gr (ver+1) false) ty) k gr' ver' kid' c->
   (k=h.next/\c=xs/\gr'=gr/\ver'=ver+1)∨(g.ex k/\ ∃kid0,ZIG g h k gr' ver' kid0 c/\(kid'=false->kid0=false/\k≠b)):=fun k gr' ver' kid' c ⟨e1,e2,e3⟩=>by
  rw [hobs] at e1;rw [hlow] at e2;split at e1
  ·cases e1;exact .inl ⟨by assumption,rfl,rfl,rfl⟩
  ·rename_i hkn;have e3:g.ex k:=e3.resolve_right hkn;split at e1
   ·rename_i hk;cases e1;refine .inr ⟨e3,false,by rw [hk];exact hal,fun h=>by cases h⟩
   ·rename_i hk;exact .inr ⟨e3,kid',⟨e1,e2,e3⟩,fun h=>⟨h,hk⟩⟩
 have hver: ∀k ver' kid0 c,ZIG g h k gr ver' kid0 c->ver'<=ver/\((g.β b).1=(g.β k).1->(g.β k).2+c.length<=(g.β b).2+cs.length):=fun k ver' kid0 c hk=>hh.i2 b k gr ver cs ver' kid0 c hal hk;have hsame: ∀k gr' ver' kid0 c,ZIG g h k gr' ver' kid0 c->p.1=(g.β k).1->gr'=gr:=fun k gr' ver' kid0 c hk heq=>by
  rcases hcase with ⟨hc,_⟩|hc
  ·by_cases hkb:k=b
   ·subst hkb;have:=hk.1;rw [hb] at this;cases this;rfl
   ·exact (hh.i1 k b gr' ver' kid0 c gr ver false cs hk hal hkb (heq.symm.trans hc)).1
  ·have:=(hh.blk k hk.2.2).2;omega
 refine ⟨Yy hh.bs hsz,fun k hk=>?_,by have:=hh.top;simp only [G.fork,H.new,H.setObj];omega,fun k m hk=> .inl (hh.mins k m hk),fun k c gr' ver' kid' hx hk=>?_,fun k hk=>?_,fun k o hx hk=>?_,fun k x hk=>?_,fun k t n hx hk=>?_,fun k k' gr1 ver1 kid1 c1 gr2 ver2 kid2 c2 h1 h2 hnk hkk=>?_,fun k k' gr1 ver1 c1 ver2 kid2 c2 h1 h2=>?_,fun k k' gr1 ver1 c1 ver2 c2 x1 x2 h1 h2=>?_,fun k o k' x1 hk hc x2 hnk=>?_⟩
 ·rcases hk with hk|hk
  ·exact Nat.lt_succ_of_lt (hh.nx k hk)
  ·rw [hk];exact Yz _
 ·rw [hobs] at hk;split at hk
  ·cases hk;exact .inl (hh.grp b _ _ _ _ hbn hb)
  ·rename_i hkn;split at hk
   ·cases hk;exact .inl (hh.grp b _ _ _ _ hbn hb)
   ·exact .inl (hh.grp k _ _ _ _ (hx.resolve_right hkn) hk)
 ·rcases hk with hk|hk
  ·rw [hβ k hk];obtain ⟨q1,q2⟩:=hh.blk k hk;exact ⟨q1,Yq q2 hsz⟩
  ·rw [hk,hn1];exact hp
 ·rw [hobs] at hk;split at hk
  ·rename_i e;cases hk;rw [e];exact hnew
  ·rename_i hkn;have hx:=hx.resolve_right hkn;split at hk
   ·rename_i e;cases hk;have h0:ObOK g h.low w' b (.cells cs gr ver true):=(hold b _ hbn hb:ObOK g h.low w' b (.cells cs gr ver false))
    rw [e];exact h0.mono (ZI9 g hh.fresh p s) hbn rfl
   ·exact (hold k o hx hk).mono (ZI9 g hh.fresh p s) hx rfl
 ·rw [ZJK] at hk;split at hk
  ·rename_i e;rw [e];exact Yz _
  ·exact Nat.lt_succ_of_lt (hh.tl k x hk)
 ·by_cases e:k=h.next
  ·subst e;have hk':ty=some (t,n):=by
    rw [ZJK,if_pos (show h.next=(h.setObj b (.cells cs gr ver true)).next from rfl)] at hk;cases ty with
    | none=>have h0:=hh.ty_next;change h.tys.get h.next=some (t,n) at hk;rw [h0] at hk;cases hk
    | some x=>exact hk
   obtain ⟨q1,q2,vs,fz,q3⟩:=hty t n hk';rw [hn1];exact ⟨q1,vs,fz,q3,fun h=>absurd q2 h⟩
  ·rw [ZJK,if_neg (show¬k=(h.setObj b (.cells cs gr ver true)).next from e)] at hk;have hx:=hx.resolve_right e;obtain ⟨q1,vs,fz,q3,q4⟩:=hh.ty k t n hx hk;obtain ⟨vs',fz',q5,q6⟩:=hkeep k vs t fz hx q3;rw [hβ k hx];exact ⟨q1,vs',fz',q5,fun h=>q6.trans (q4 h)⟩
 ·rcases hdown _ _ _ _ _ h1 with ⟨e1,rfl,rfl,rfl⟩|⟨l1,kid1',a1,_⟩
  ·rcases hdown _ _ _ _ _ h2 with ⟨e2,_⟩|⟨l2,kid2',a2,_⟩
   ·exact absurd (e1.trans e2.symm) hnk
   ·rw [e1,hn1,hβ k' l2] at hkk;have hg:=hsame _ _ _ _ _ a2 hkk;subst hg;have:=(hver _ _ _ _ a2).1;exact ⟨rfl,by omega⟩
  ·rcases hdown _ _ _ _ _ h2 with ⟨e2,rfl,rfl,rfl⟩|⟨l2,kid2',a2,_⟩
   ·rw [e2,hn1,hβ k l1] at hkk;have hg:=hsame _ _ _ _ _ a1 hkk.symm;subst hg;have:=(hver _ _ _ _ a1).1;exact ⟨rfl,by omega⟩
   ·rw [hβ k l1,hβ k' l2] at hkk;exact hh.i1 k k' gr1 ver1 kid1' c1 gr2 ver2 kid2' c2 a1 a2 hnk hkk
 ·rcases hdown _ _ _ _ _ h1 with ⟨e1,rfl,rfl,rfl⟩|⟨l1,kid1',a1,hk1⟩
  ·rcases hdown _ _ _ _ _ h2 with ⟨e2,rfl,_,rfl⟩|⟨l2,kid2',a2,_⟩
   ·exact ⟨Yc _,fun _=>by rw [e1,e2];exact Yc _⟩
   ·obtain ⟨q1,q2⟩:=hver _ _ _ _ a2;refine ⟨by omega,fun hkk=>?_⟩;rw [e1,hn1,hβ k' l2] at hkk;rw [e1,hn1,hβ k' l2];rcases hcase with ⟨hc,hc2⟩|hc
    ·have:=q2 (hc.symm.trans hkk);omega
    ·have:=(hh.blk k' l2).2;omega
  ·obtain ⟨hk1,hkb⟩:=hk1 rfl;subst hk1;rcases hdown _ _ _ _ _ h2 with ⟨e2,rfl,rfl,rfl⟩|⟨l2,kid2',a2,_⟩
   ·exact absurd (hh.i4 k b gr1 ver1 c1 ver cs l1 hbn a1.1 hb) hkb
   ·rw [hβ k l1,hβ k' l2];exact hh.i2 k k' gr1 ver1 c1 ver2 kid2' c2 a1 a2
 ·rw [hobs] at h1 h2;split at h1
  ·rename_i e1;cases h1;split at h2
   ·rename_i e2;exact e1.trans e2.symm
   ·rename_i e2;split at h2
    ·cases h2
    ·rename_i hkb;exact absurd (hh.i4 k' b gr ver2 c2 ver cs (x2.resolve_right e2) hbn h2 hb) hkb
  ·rename_i e1;split at h1
   ·cases h1
   ·rename_i hkb;split at h2
    ·cases h2;exact absurd (hh.i4 k b gr ver1 c1 ver cs (x1.resolve_right e1) hbn h1 hb) hkb
    ·rename_i e2;split at h2
     ·cases h2
     ·exact hh.i4 k k' gr1 ver1 c1 ver2 c2 (x1.resolve_right e1) (x2.resolve_right e2) h1 h2
 ·rw [hobs] at hk;split at hk
  ·cases hk;cases hc
  ·rename_i e1;split at hk
   ·cases hk;cases hc
   ·rename_i hkb;have hkn:=x1.resolve_right e1;rw [hβ k hkn];rcases x2 with q|q
    ·rw [hβ k' q];exact hh.dm k o k' hkn hk hc q hnk
    ·rw [q,hn1];rcases hcase with ⟨hcs,_⟩|hcs
     ·rw [hcs];exact hh.dm k o b hkn hk hc hbn (Ne.symm hkb)
     ·have:=(hh.blk k hkn).2;omega
theorem HR.sameHeap (hh:HR g h w) {w':World} (hw:w'.heap=w.heap):HR g h w':=by
 refine ⟨by rw [hw];exact hh.bs,hh.nx,hh.top,hh.mins,hh.grp,fun b hb=>by rw [hw];exact hh.blk b hb,fun b o hx hb=>?_,hh.tl,fun b t n hx hb=>by rw [hw];exact hh.ty b t n hx hb,hh.i1,hh.i2,hh.i4,hh.dm⟩;exact (hh.ob b o hx hb).mono (Le.refl g).toLe0 hx (by rw [hw])
theorem ZIm {b off:Nat} {t:TypeId} {us:List Value} {cur:Array Value} (hb:w.heap[b]? =some (.cells cur t (0,0))) (hl:off+us.length<=cur.size) (h1: ∀v∈us,v.oneCell'=true):
  (storeCells ⟨b,off,none⟩ us).run P w= .ok () (w.setRow b (cur.toList.take off++us++cur.toList.drop (off+us.length)).toArray):=by
 have:=run_storeCells_at P b off t us 0 cur w hb (by simpa using hl) h1;simpa using this
theorem ZJj (hh:HR g h w) {xs:List V} {news:List Value} (hr:Rels g xs news) {z:Value} (t:TypeId) {m cap s:Nat} (hm:xs.length=m*s) (hz:z.cells.size=s) (hc:m<=cap):
  HR (g.grow h.next w.heap.size (news.toArray++Builtin.zeroCells z.cells (cap-m)).size) (h.newCells xs (some (t,0))) (w.drew.alloc (.cells (news.toArray++Builtin.zeroCells z.cells (cap-m)) t))/\cap*s<=(news.toArray++Builtin.zeroCells z.cells (cap-m)).size:=by
 have hl:=hr.len;have h0:HR g h w.drew:=hh.sameHeap rfl;refine ⟨?_,?_⟩
 ·have:=h0.newCells (cs:=xs) (vs:=news.toArray++Builtin.zeroCells z.cells (cap-m)) t Ze (fun i x hx=>by
   have hi:=Am.Zaq hx;have hu:news[i]? =some (news[i]'(by omega)):=Ya _;exact ⟨_,by rw [Nat.zero_add,Array.getElem?_append_left Ze];simpa using hu,(Rels.iff.1 hr).2 i x _ hx hu⟩) (some (t,0)) (fun t' n e=>by cases e;exact ⟨rfl,rfl⟩)
  exact this
 ·have hz':(Builtin.zeroCells z.cells (cap-m)).size=(cap-m)*s:=by simp [Builtin.zeroCells,hz]
  rw [Array.size_append,hz',List.size_toArray,<-hl,hm,<-Nat.add_mul];exact YI _ Zo
theorem ZJO {el b o t n:Nat} (hg:ZM4 h el b o=some (t,n)):t=el/\n=0/\o=0/\ ∃m,h.tys.get b=some (el,m):=by
 unfold ZM4 at hg;split at hg
 ·rename_i t' m ht;split at hg
  ·rename_i hc;obtain ⟨rfl,rfl⟩:=hc;cases hg;exact ⟨rfl,rfl,rfl,m,ht⟩
  ·cases hg
 ·cases hg
theorem ZIF {id:Nat} (hn: ¬g.ex id) (o:Obj) (s:Nat):Grew g w (g.grow id w.heap.size s) (w.drew.alloc o):=
 ⟨rfl,rfl,rfl,by show _<=(w.heap.push o).size;simp,fun b hb _=>by show (w.heap.push o)[b]? =_;rw [Array.getElem?_push];rw [if_neg Zo],fun b hb=>hb.elim (fun hx=> .inl ⟨b,hx,by rw [(ZH6 g hn _ s).β b hx]⟩) fun he=> .inr (by rw [he,ZHR];exact Yc _)⟩
theorem ZNT (hh:HR g h w) {t u ty:TypeId} (ts:List TypeId) {x y z:V} {p q:Value} (hp:Rel g x p) (hq:Rel g y q) (hx:appV P h t u x y=some (z,h')):
   ∃r w' g',(Builtin.append_ (t::u::ts).toArray ty #[p,q]).run P w= .ok r w'/\Rel g' z r/\HR g' h' w'/\Le g g'/\Grew g w g' w':=by
 unfold appV at hx;split at hx
 · rename_i el d ht hu;split at hx
   · rename_i hd;split at hx
     · rename_i s zz hel;obtain ⟨i,zv,zV,hi,hz,hzc,rfl,rfl,hzl,h0,hby⟩:=ZID hel;have hzs:zv.cells.size=i.size:=by have:=(ofConst_rel g zv hzc).cells.len;simp at this;omega
       unfold ZKW at hx;split at hx
       · cases hx
       · rename_i n new hcell;obtain ⟨news,hn,hsrc⟩:=ZJ4 (P:=P) hh hq hcell;have hnl:=hn.len;have hnl2:=hsrc.newsLen;split at hx
         · have:p= .slice none 0 0:=by simpa only [Rel] using hp
           subst this;split at hx
           · rename_i hn0;subst hn0;cases hx;have hnil:news=[]:=by simpa using hnl2
             subst hnil;refine ⟨.slice none 0 0,w,g,?_,by simp only [Rel],hh,Le.refl g,Grew.refl _ _⟩;have:=ZH7 (ty:=ty) ht hu hd hi ts (base:=none) (len:=0) (cap:=0) hsrc Zo;rw [this,ZlC];rfl
           · rename_i hn0;split at hx
             · rename_i hroom;cases hx;unfold ROOM at hroom;have hbytes:n*i.bytes<=140737488355328:=by
                 have:n*i.bytes<=1000000*65536:=Nat.mul_le_mul hroom hby;omega
               have hrun:=ZIw (w:=w) (ty:=ty) ht hu hd hi ts hz (base:=none) (sLen:=0) (sCap:=0) (olds:=[]) (by simpa using run_firstCells_none w.drew i.size 0 0 0) hsrc Zo Zo (growslice_fits Zo (by simpa using hbytes));simp only [YO,Nat.zero_add] at hrun;have hcap:n<=grownCap w n 0 el:=by unfold grownCap Question.cut;exact Nat.le_add_right _ _
               obtain ⟨q1,q2⟩:=ZJj hh hn (z:=zv) el (m:=n) (cap:=grownCap w n 0 el) (s:=i.size) Zo hzs hcap;refine ⟨_,_,_,hrun,?_,q1,hh.le_grow _ _,ZIF hh.fresh _ _⟩;simp only [Rel,ZHR,ZKm,G.at];exact ⟨.inr rfl,_,rfl,Yc _,hcap,fun hh=>by simp at hh,by simpa using q2⟩
             · cases hx
         · rename_i b off s' len lo ex;split at hx
           · rename_i hss;subst hss;obtain ⟨hb,cap,rfl,c1,c2,c3,c4⟩:=ZJ5 hp;split at hx
             · rename_i hle;have hrun:=ZH7 (w:=w) (ty:=ty) ht hu hd hi ts (base:=some (g.at b off)) (len:=len) (cap:=cap) hsrc Zo;split at hx
               · rename_i hn0;subst hn0;cases hx;have hnil:news=[]:=by simpa using hnl2
                 subst hnil;refine ⟨.slice (some (g.at b off)) len cap,w,g,?_,hp,hh,Le.refl g,Grew.refl _ _⟩;rw [hrun,ZlC];rfl
               · split at hx
                 · rename_i hn0 h1 hwr;cases hx;obtain ⟨w1,vs,tt,w2,w3,w4,w5⟩:=hh.write hb hwr hn;refine ⟨.slice (some (g.at b off)) (len+n) cap,_,g,?_,?_,w4,Le.refl g,w5⟩
                   · rw [hrun];have:=ZIm (P:=P) w2 w3 w1;have hst:(Zjd (some (g.at b off)) (len*i.size) news).run P w= .ok () (w.setRow (g.β b).1 (vs.toList.take ((g.β b).2+(off+len*i.size))++news++vs.toList.drop ((g.β b).2+(off+len*i.size)+news.length)).toArray):=by
                       simp only [Zjd,G.at,Addr.add_eq,Nat.add_assoc] at this⊢;exact this
                     rw [hst];rfl
                   · simp only [Rel];exact ⟨hb,cap,rfl,hle,c2,c3,c4⟩
                 · cases hx
             · rename_i hgt;have hn0:0<n:=by omega
               unfold ZOj at hx;split at hx
               · rename_i hroom;unfold ROOM at hroom;have hbytes:(len+n)*i.bytes<=140737488355328:=by
                   have:(len+n)*i.bytes<=1000000*65536:=Nat.mul_le_mul hroom hby;omega
                 split at hx
                 · rename_i cs grp ver kid hob;split at hx
                   · rename_i ha;split at hx
                     · cases hx
                     · rename_i old hcut;have hrd:h.rd b=some cs:=by unfold H.rd;rw [hob];simp [ha]
                       obtain ⟨vs,tt,r1,r2,r3,r4⟩:=hh.read hb hrd;obtain ⟨olds,u1,u2,u3,u4,u5⟩:=r4.cut hcut;have holds:(Builtin.firstCells i.size len (.slice (some (g.at b off)) len cap)).run P w.drew= .ok olds.toArray w.drew:=
                         run_firstCells_some (P:=P) w.drew i.size len (g.at b off) len cap olds u1 (fun j v hj=>by
                           have:=u3 j v hj;rw [<-ZMv (w:=w) (g:=g) (b:=b) (i:=off) r1 j] at this;simpa using this)
                       have hon:Rels g (old++new) (olds++news):=u2.append hn;have hlon:(old++new).length=(len+n)*i.size:=by rw [YE,u4,hnl,hnl2,Nat.add_mul]
                       have grow:cap<len+n-> ∀hN:H,HR (g.grow h.next w.heap.size ((olds++news).toArray++Builtin.zeroCells zv.cells (grownCap w (len+n) cap el-(len+n))).size) hN (w.drew.alloc (.cells ((olds++news).toArray++Builtin.zeroCells zv.cells (grownCap w (len+n) cap el-(len+n))) el))->
                           ∃r w' g',(Builtin.append_ (t::u::ts).toArray ty #[.slice (some (g.at b off)) len cap,q]).run P w= .ok r w'/\Rel g' (.sl h.next 0 i.size (len+n) (len+n) false) r/\HR g' hN w'/\Le g g'/\Grew g w g' w':=fun hg hN hhN=>by
                         have hrun:=ZIw (w:=w) (ty:=ty) ht hu hd hi ts hz holds hsrc hg Zo (growslice_fits hg hbytes);have hcap:len+n<=grownCap w (len+n) cap el:=by unfold grownCap Question.cut;exact Nat.le_add_right _ _
                         obtain ⟨_,q2⟩:=ZJj hh hon (z:=zv) el (m:=len+n) (cap:=grownCap w (len+n) cap el) (s:=i.size) hlon hzs hcap;refine ⟨_,_,_,hrun,?_,hhN,hh.le_grow _ _,ZIF hh.fresh _ _⟩;simp only [Rel,ZHR,ZKm,G.at];exact ⟨.inr rfl,_,rfl,Yc _,hcap,fun hh=>by simp at hh,by simpa using q2⟩
                       have hcapg:len+n<=grownCap w (len+n) cap el:=by unfold grownCap Question.cut;exact Nat.le_add_right _ _
                       split at hx
                       · rename_i hex;cases hx;have:=c3 hex;refine grow Zo _ ?_;exact (ZJj hh hon (z:=zv) el (m:=len+n) (cap:=grownCap w (len+n) cap el) (s:=i.size) hlon hzs hcapg).1
                       · split at hx
                         · rename_i hcond;obtain ⟨rfl,hend,hone⟩:=hcond;cases hx;rcases Yt cap (len+n) with hg|hg
                           · refine grow hg _ ?_;have hnr:=(ZJj hh hon (z:=zv) el (m:=len+n) (cap:=grownCap w (len+n) cap el) (s:=i.size) hlon hzs hcapg).1;have hbs:=hh.bs;have hob2:=hnr.ob h.next (.cells (old++new) h.next 0 false) (.inr rfl) (by rw [H.newCells,ZKF,if_pos rfl]);refine hh.fork hb hob ha (p:=(w.heap.size,0)) (s:=_) (w':=w.drew.alloc _) ?_ ?_ (fun k o' hx hk=>?_) ?_ (.inr (Yc _)) (fun k vs0 t0 fz0 hx hk=>⟨vs0,fz0,(by show (w.heap.push _)[_]? =_;rw [Array.getElem?_push,if_neg (Nat.ne_of_lt (hh.blk k hx).2)];exact hk),rfl⟩) (fun t0 n0 hg0=>(by obtain ⟨rfl,rfl,_⟩:=ZJO hg0;exact ⟨rfl,rfl,_,(0,0),(by show (w.heap.push _)[_]? =_;rw [Array.getElem?_push,if_pos rfl])⟩))
                             · show _<=(w.heap.push _).size;simp
                             · exact ⟨hbs,by show _<(w.heap.push _).size;simp⟩
                             · refine (hh.ob k o' hx hk).mono (Le.refl g).toLe0 hx ?_;show (w.heap.push _)[_]? =_;rw [Array.getElem?_push,if_neg (Nat.ne_of_lt (hh.blk k hx).2)]
                             · obtain ⟨vs',t',fz',z1,z2,z3⟩:=hob2;refine ⟨vs',t',fz',z1,z2,fun _=>z3 ?_⟩;have:(h.newCells (old++new) (some (el,0))).low h.next=0:=hh.low_un hh.fresh;rw [this];exact Yd _
                           · have hrun:=ZH7 (w:=w) (ty:=ty) ht hu hd hi ts (base:=some (g.at b off)) (len:=len) (cap:=cap) hsrc Zo;have hone': ∀v∈news,v.oneCell'=true:=fun v hv=>by
                               obtain ⟨j,hj⟩:=List.mem_iff_getElem?.1 hv;have hjl:=Am.Zaq hj;have hxj:new[j]? =some (new[j]'(by omega)):=Ya _;exact ((Rels.iff.1 hn).2 j _ v hxj hj).one (List.all_eq_true.1 hone _ (YA hxj))
                             have hmul:(len+n)*i.size<=cap*i.size:=YI _ hg;rw [Nat.add_mul] at hmul;have hfit:(g.β b).2+(off+len*i.size)+news.length<=vs.size:=by omega
                             generalize hN:(vs.toList.take ((g.β b).2+(off+len*i.size))++news++vs.toList.drop ((g.β b).2+(off+len*i.size)+news.length)).toArray=new';have hst:(Zjd (some (g.at b off)) (len*i.size) news).run P w= .ok () (w.setRow (g.β b).1 new'):=by
                               have:=ZIm (P:=P) r1 hfit hone';rw [<-hN];simp only [Zjd,G.at,Addr.add_eq,Nat.add_assoc] at this⊢;exact this
                             have hnsz:new'.size=vs.size:=by rw [<-hN];simp;omega
                             have hget: ∀j:Nat,new'[j]? =if j<(g.β b).2+(off+len*i.size) then vs[j]? else if j<(g.β b).2+(off+len*i.size)+news.length then news[j-((g.β b).2+(off+len*i.size))]? else vs[j]? :=fun j=>by
                               rw [<-hN,List.getElem?_toArray,ZKI (by simpa using hfit)];simp only [Array.getElem?_toList]
                             have hal:ZIG g h b grp ver false cs:=⟨hob,ha,hb⟩
                             refine ⟨.slice (some (g.at b off)) (len+n) cap,w.setRow (g.β b).1 new',g.fork h.next ((g.β b).1,(g.β b).2+off) (g.sz b),by rw [hrun,hst];rfl,?_,?_,hh.le_fork _ _,?_⟩
                             · simp only [Rel,ZLa,ZMA,G.at];exact ⟨.inr rfl,cap,rfl,Yc _,hg,fun hh=>by simp at hh,by simpa using c4⟩
                             · refine hh.fork hb hob ha (p:=((g.β b).1,(g.β b).2+off)) (s:=g.sz b) (w':=w.setRow (g.β b).1 new') (by rw [size_setRow];exact Yc _) (by rw [size_setRow];exact hh.blk b hb) (fun k o' hkn hk=>?_) ?_ (.inl ⟨rfl,by simp only [YE];omega⟩) (fun k vs0 t0 fz0 hx hk=>?_) (fun t0 n0 hg0=>?_)
                               · have hko:=hh.ob k o' hkn hk;by_cases heq:(g.β k).1=(g.β b).1
                                 · cases o' with
                                   | cells c gr ve kid=>
                                     obtain ⟨us',t',fz',z1,z2,z3⟩:=hko;have hv:us'=vs/\t'=tt/\fz'=(0,0):=by rw [heq,r1] at z1;cases z1;exact ⟨rfl,rfl,rfl⟩
                                     obtain ⟨rfl,rfl,rfl⟩:=hv;refine ⟨new',t',(0,0),by rw [heq];exact setRow_heap w _ us' new' t' (0,0) r1,hnsz.trans z2,fun hl=>?_⟩;obtain ⟨y1,y2,y3⟩:=z3 hl;refine ⟨rfl,by rw [hnsz];exact y2,fun j x hj=>?_⟩;have hjl:=Am.Zaq hj;have hle2:(g.β k).2+c.length<=(g.β b).2+cs.length:=by
                                       by_cases hkb:k=b
                                       · subst hkb;rw [hob] at hk;cases hk;exact Yc _
                                       · have hka:ZIG g h k gr ve kid c:=⟨hk,hl,hkn⟩
                                         have e1:=(hh.i1 k b gr ve kid c grp ver false cs hka hal hkb heq).1;subst e1;exact (hh.i2 b k gr ver cs ve kid c hal hka).2 heq.symm
                                     rw [hget,if_pos Zo];exact y3 j x hj
                                   | map=>exact absurd heq (hh.dm k _ b hkn hk rfl hb (fun hkb=>by rw [hkb,hk] at hob;cases hob))
                                   | siter=>exact absurd heq (hh.dm k _ b hkn hk rfl hb (fun hkb=>by rw [hkb,hk] at hob;cases hob))
                                   | miter=>exact absurd heq (hh.dm k _ b hkn hk rfl hb (fun hkb=>by rw [hkb,hk] at hob;cases hob))
                                   | mapU=>exact absurd heq (hh.dm k _ b hkn hk rfl hb (fun hkb=>by rw [hkb,hk] at hob;cases hob))
                                 · exact hko.mono (Le.refl g).toLe0 hkn (setRow_other w (g.β b).1 (g.β k).1 new' heq)
                               · refine ⟨new',tt,(0,0),?_,?_,fun _=>⟨rfl,?_,?_⟩⟩
                                 · rw [ZLa];exact setRow_heap w _ vs new' tt (0,0) r1
                                 · rw [ZMA,hnsz,r2]
                                 · rw [ZLa,hnsz,hlon,Nat.add_mul];simp only;omega
                                 · rw [ZLa];intro j x hj;have hmono: ∀{x:V} {v:Value},Rel g x v->Rel (g.fork h.next ((g.β b).1,(g.β b).2+off) (g.sz b)) x v:=fun hr=>hr.mono (ZI9 g hh.fresh _ _);rw [hget];by_cases hjo:j<old.length
                                   · rw [Yx hjo] at hj;have hju:olds[j]? =some (olds[j]'(by omega)):=Ya _;rw [if_pos (by simp only;omega)];exact ⟨_,u3 j _ hju,hmono ((Rels.iff.1 u2).2 j x _ hj hju)⟩
                                   · rw [Yo Zo] at hj;have hjl:=Am.Zaq hj;have hju:news[j-old.length]? =some (news[j-old.length]'(by omega)):=Ya _;rw [if_neg (by simp only;omega),if_pos (by simp only;omega)];refine ⟨_,?_,hmono ((Rels.iff.1 hn).2 _ x _ hj hju)⟩;rw [<-hju];congr 1;simp only;omega
                               · by_cases heq:(g.β k).1=(g.β b).1
                                 · rw [heq] at hk⊢;rw [r1] at hk;cases hk;exact ⟨new',(0,0),setRow_heap w _ vs new' _ (0,0) r1,hnsz⟩
                                 · exact ⟨vs0,fz0,(setRow_other w (g.β b).1 (g.β k).1 new' heq).trans hk,rfl⟩
                               · obtain ⟨rfl,rfl,rfl,n1,hg1⟩:=ZJO hg0;obtain ⟨y1,vs1,fz1,y2,_⟩:=hh.ty b _ _ hb hg1;rw [r1] at y2;cases y2;exact ⟨(by simp only;omega),rfl,new',(0,0),setRow_heap w _ vs new' _ (0,0) r1⟩
                             · exact ⟨rfl,rfl,rfl,by rw [size_setRow];exact Yc _,fun k hk hnk=>setRow_other w _ k _ fun he=>hnk b hb he.symm,fun k hk=>hk.elim (fun hx=> .inl ⟨k,hx,by rw [(ZI9 g hh.fresh _ _).β k hx]⟩) fun he=> .inl ⟨b,hb,by rw [he,ZLa]⟩⟩
                         · cases hx
                   · cases hx
                 · cases hx
               · cases hx
           · cases hx
         · cases hx
     · cases hx
   · cases hx
 · cases hx
end Go.Cm
end
