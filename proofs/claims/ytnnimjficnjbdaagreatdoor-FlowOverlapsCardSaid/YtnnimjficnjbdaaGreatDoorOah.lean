/- Part. -/
import Derived.Test.YtnnimjficnjbdaaGreatDoorOab
import Derived.Laws.World
import Derived.Laws.Rows
set_option maxRecDepth 999999
set_option maxHeartbeats 0
set_option linter.all false
section
namespace Go.Am
def ZbJ (bs:ByteArray):List Nat:=bs.data.toList.map UInt8.toNat
abbrev Loc:=Nat×Nat×Nat
structure G where
 nt:Nat
 T:Nat->Prop
 pr:Nat->Nat
 ow:Nat->Option Loc
 β:Nat->Nat
 ω:Nat->Nat
inductive RepP (pr:Nat->Nat) (w:World):Value->P->Prop where
 | int (k:IntKind) (n:Int):RepP pr w (.int k n) (.int k n)
 | bool (b:Bool):RepP pr w (.bool b) (.bool b)
 | str (bs:ByteArray) (t:List Nat) (h:ZbJ bs=t):RepP pr w (.string bs) (.str t)
 | nils (a:Option Addr) (cap s:Nat):RepP pr w (.slice a 0 cap) (.sl s [])
 | sl (b o len cap s:Nat) (rows:List (List P)) (vs:Nat->Nat->Value) (hl:len=rows.length) (hcap:len<=cap) (hpr:o+len*s<=pr b)
  (hlen: ∀(i:Nat) row,rows[i]? =some row->row.length=s)
  (hc: ∀i j,i<len->j<s->w.cell? ⟨b,o+i*s+j,none⟩=some (vs i j))
  (hr: ∀(i:Nat) row (j:Nat) x,rows[i]? =some row->row[j]? =some x->RepP pr w (vs i j) x):
  RepP pr w (.slice (some ⟨b,o,none⟩) len cap) (.sl s rows)
theorem ZdS {i j n s:Nat} (hi:i<n) (hj:j<s):i*s+j<n*s:=
 Nat.lt_of_lt_of_le (Nat.add_lt_add_left hj _) (by rw [<-Nat.succ_mul];exact Nat.mul_le_mul_right s hi)
theorem Zaq {α:Type} {l:List α} {i:Nat} {x:α} (h:l[i]? =some x):i<l.length:=by
 rcases Nat.lt_or_ge i l.length with h'|h'
 ·exact h'
 ·rw [List.getElem?_eq_none h'] at h;cases h
def Zz1 (pr:Nat->Nat) (w w':World):Prop:= ∀b o v,o<pr b->w.cell? ⟨b,o,none⟩=some v->w'.cell? ⟨b,o,none⟩=some v
theorem RepP.mono {pr pr':Nat->Nat} {w w':World} {v:Value} {x:P} (h:RepP pr w v x) (hk:Zz1 pr w w') (hp: ∀b,pr b<=pr' b):RepP pr' w' v x:=by
 induction h with
 | int=>exact .int _ _
 | bool=>exact .bool _
 | str bs t h=>exact .str bs t h
 | nils=>exact .nils _ _ _
 | sl b o len cap s rows vs hl hcap hpr hlen hc hr ih=>
   refine .sl b o len cap s rows vs hl hcap (Nat.le_trans hpr (hp b)) hlen (fun i j hi hj=>?_) ih
   refine hk _ _ _ ?_ (hc i j hi hj)
   have:=ZdS hi hj
   omega
def RepRow (pr:Nat->Nat) (w:World) (b o:Nat) (row:List P):Prop:= ∀(j:Nat) x,row[j]? =some x-> ∃v,w.cell? ⟨b,o+j,none⟩=some v/\RepP pr w v x
theorem RepRow.mono {pr pr':Nat->Nat} {w w':World} {b o:Nat} {row:List P} (h:RepRow pr w b o row) (hl:o+row.length<=pr b) (hk:Zz1 pr w w') (hp: ∀b,pr b<=pr' b):RepRow pr' w' b o row:=fun j x hx=>by
 obtain ⟨v,hv,hr⟩:=h j x hx
 have:=Zaq hx
 exact ⟨v,hk _ _ _ Zo hv,hr.mono hk hp⟩
theorem RepP.row {pr:Nat->Nat} {w:World} {a:Option Addr} {len cap s:Nat} {rows:List (List P)} (h:RepP pr w (.slice a len cap) (.sl s rows)) {i:Nat} {row:List P} (hi:rows[i]? =some row):
   ∃b o,a=some ⟨b,o,none⟩/\len=rows.length/\row.length=s/\RepRow pr w b (o+i*s) row/\o+len*s<=pr b:=by
 cases h with
 | nils=>simp at hi
 | sl b o _ _ _ _ vs hl hcap hpr hlen hc hr=>
   refine ⟨b,o,rfl,hl,hlen i row hi,fun j x hx=>⟨vs i j,hc i j (hl ▸ Zaq hi) (hlen i row hi ▸ Zaq hx),hr i row j x hi hx⟩,hpr⟩
theorem RepP.slice_inv {pr:Nat->Nat} {w:World} {v:Value} {s:Nat} {rows:List (List P)} (h:RepP pr w v (.sl s rows)):
  ∃a cap,v= .slice a rows.length cap/\(rows=[]∨rows.length<=cap):=by
 cases h with
 | nils a cap=>exact ⟨a,cap,rfl,.inl rfl⟩
 | sl b o len cap _ _ vs hl hcap=>subst hl;exact ⟨_,cap,rfl,.inr hcap⟩
def R.val (g:G) (r:R):Value:= .pointer (some ⟨if r.own then g.β r.k else g.ω r.k,r.off,none⟩)
def R.blk (g:G) (r:R):Nat:=if r.own then g.β r.k else g.ω r.k
theorem R.blk_eq {g g':G} {r r':R} (h:r'.val g'=r.val g):r'.blk g'=r.blk g:=by
 unfold R.val at h
 injection h with h
 injection h with h
 injection h with h1 _ _
def Room (g:G) (w:World) (ℓ:Loc) (b lo hi:Nat):Prop:=
 g.pr b=lo/\g.ow b=some ℓ/\ ∃cs e,w.heap[b]? =some (.cells cs e (0,0))/\hi<=cs.size
def RepC (g:G) (w:World) (ℓ:Loc) (v:Value):C->Prop
 | .p x=>RepP g.pr w v x
 | .tip s rows=>RepP g.pr w v (.sl s rows)/\ ∃a cap,v= .slice a rows.length cap/\(rows.length=cap∨ ∃b o,a=some ⟨b,o,none⟩/\rows.length<=cap/\Room g w ℓ b (o+rows.length*s) (o+cap*s))
 | .ref r=>v=r.val g
 | .view row off=> ∃b o,v= .pointer (some ⟨b,o+off,none⟩)/\RepRow g.pr w b o row/\o+row.length<=g.pr b
 | .clo f first caps=>v= .func (.func f) (first.map (R.val g)).toArray (caps.map (R.val g)).toArray
 | .closs f r=>v= .func (.func f) #[.agg #[r.val g]] #[]
 | .nilp=>v= .pointer none
 | .uniq s rows=> ∃a cap,v= .slice a rows.length cap/\((a=none/\rows=[]/\cap=0)∨ ∃b cs e,a=some ⟨b,0,none⟩/\rows.length<=cap/\g.pr b=0/\g.ow b=some ℓ/\g.T b/\w.heap[b]? =some (.cells cs e (0,0))/\cap*s<=cs.size/\ ∀(i:Nat) row,rows[i]? =some row->row.length=s/\ ∀(j:Nat) x,row[j]? =some x-> ∃u,cs[i*s+j]? =some u/\RepP g.pr w u x)
 | .bytes e t=> ∃a cap,v= .slice a t.length cap/\((a=none/\t=[]/\cap=0)∨ ∃b cs,a=some ⟨b,0,none⟩/\t.length<=cap/\cap<=9223372036854775807/\g.pr b=0/\g.ow b=some ℓ/\g.T b/\w.heap[b]? =some (.cells cs e (0,0))/\cs.size=cap/\cs.toList.take t.length=t.map fun (c:Nat)=>Value.int .u8 c)
 | .own r s n=> ∃cap,v= .slice (some ⟨if r.own then g.β r.k else g.ω r.k,r.off,none⟩) n cap/\n<=cap/\ ∃cs e,w.heap[if r.own then g.β r.k else g.ω r.k]? =some (.cells cs e (0,0))/\r.off+cap*s<=cs.size
 | .junk=>v.cells= #[v]/\(∀vs,v≠ .agg vs)/\(∀vs,v≠ .tuple vs)
 | .hdr n=> ∃a cap,v= .slice a n cap
 | .mptr r=>v= .map (some (r.blk g))
 | .mapc _=>False
 | .mapl _=>False
 | .map r es=> ∃mes clock,v= .map (some (r.blk g))/\g.pr (r.blk g)=0/\g.ow (r.blk g)=some ℓ/\g.T (r.blk g)/\w.heap[r.blk g]? =some (.map mes clock)/\mes.size=es.length/\
  ∀(i:Nat) k x,es[i]? =some (k,x)-> ∃e,mes[i]? =some e/\RepP g.pr w e.key k/\RepP g.pr w e.val x
def RepCells (g:G) (w:World) (k c:Nat) (vs:List Value) (cs:List C):Prop:=
 vs.length=cs.length/\ ∀(i:Nat) u x,vs[i]? =some u->cs[i]? =some x->RepC g w (k,c,i) u x
def RepA (g:G) (w:World) (k c:Nat) (v:Value):A->Prop
 | .one x=>RepC g w (k,c,0) v x
 | .agg cs=> ∃vs:Array Value,v= .agg vs/\RepCells g w k c vs.toList cs
def RepAs (g:G) (w:World) (k c:Nat) (vs:List Value) (xs:List A):Prop:=
 vs.length=xs.length/\ ∀(j:Nat) u x,vs[j]? =some u->xs[j]? =some x->RepA g w k (c+j) u x
def RepD (g:G) (w:World) (k:Nat) (v:Value):D->Prop
 | .undef=>True
 | .a x=>RepA g w k 0 v x
 | .tup xs=> ∃vs:Array Value,v= .tuple vs/\RepAs g w k 1 vs.toList xs
 | .objs _=>False
def BoxC (g:G) (w:World) (b k c:Nat) (cs:List C):Prop:=
 ∃vs e,w.heap[b]? =some (.cells vs e (0,0))/\(cs.length<=vs.size/\RepCells g w k c (vs.toList.take cs.length) cs)/\g.pr b=0/\g.ow b=none
def RepMV (pr:Nat->Nat) (w:World) (v:Value):MV->Prop
 | .one x=>RepP pr w v x
 | .agg xs=> ∃vs:Array Value,v= .agg vs/\vs.size=xs.length/\ ∀(i:Nat) u x,vs[i]? =some u->xs[i]? =some x->RepP pr w u x
theorem RepMV.mono {pr pr':Nat->Nat} {w w':World} {v:Value} {x:MV} (h:RepMV pr w v x) (hk:Zz1 pr w w') (hp: ∀b,pr b<=pr' b):RepMV pr' w' v x:=by
 cases x with
 | one x=>exact RepP.mono h hk hp
 | agg xs=>obtain ⟨vs,h1,h2,h3⟩:=h;exact ⟨vs,h1,h2,fun i u x hu hx=>(h3 i u x hu hx).mono hk hp⟩
def MapO (g:G) (w:World) (b:Nat) (es:List (MV×MV)):Prop:=
 ∃mes clock,w.heap[b]? =some (.map mes clock)/\mes.size=es.length/\(∀(i:Nat) k x,es[i]? =some (k,x)-> ∃e,mes[i]? =some e/\RepMV g.pr w e.key k/\RepMV g.pr w e.val x)/\g.pr b=0/\g.ow b=none
def MapL (g:G) (w:World) (b:Nat) (es:List (Int×MV)):Prop:=
 ∃mes clock,w.heap[b]? =some (.map mes clock)/\(∃es0:List (Int×MV),es0.Perm es/\(es.map (·.1)).Nodup/\mes.size=es0.length/\ ∀(i:Nat) n x,es0[i]? =some (n,x)-> ∃e,mes[i]? =some e/\RepP g.pr w e.key (.int .i64 n)/\RepMV g.pr w e.val x)/\g.pr b=0/\g.ow b=none
def MapB (g:G) (w:World) (b:Nat):C->Prop
 | .mapc es=>MapO g w b es
 | .mapl es=>MapL g w b es
 | _=>False
theorem MapB.obj {g:G} {w:World} {b:Nat} {c:C} (h:MapB g w b c): ∃mes clock,w.heap[b]? =some (.map mes clock)/\g.pr b=0/\g.ow b=none:=by
 cases c with
 | mapc es=>obtain ⟨m,t,h1,_,_,h2,h3⟩:=h;exact ⟨m,t,h1,h2,h3⟩
 | mapl es=>obtain ⟨m,t,h1,_,h2,h3⟩:=h;exact ⟨m,t,h1,h2,h3⟩
 | _=>exact h.elim
theorem MapB.is {g:G} {w:World} {b:Nat} {c:C} (h:MapB g w b c):ZH1 [c]=true:=by
 cases c with
 | mapc es=>rfl
 | mapl es=>rfl
 | _=>exact h.elim
def Box (g:G) (w:World) (b k c:Nat) (cs:List C):Prop:=(∃x,cs=[x]/\MapB g w b x)∨BoxC g w b k c cs
theorem Box.cells {g:G} {w:World} {b k c:Nat} {cs:List C} (h:Box g w b k c cs) (hm:ZH1 cs=false):BoxC g w b k c cs:=by
 rcases h with ⟨es,rfl,h⟩|h
 ·rw [h.is] at hm;cases hm
 ·exact h
theorem Box.cells_at {g:G} {w:World} {b k c:Nat} {cs:List C} {vs:Array Value} {t:TypeId} {fz:Nat×Nat} (h:Box g w b k c cs) (hb:w.heap[b]? =some (.cells vs t fz)):BoxC g w b k c cs:=by
 rcases h with ⟨_,_,h⟩|h
 ·obtain ⟨m,t,h1,_⟩:=h.obj;rw [hb] at h1;cases h1
 ·exact h
theorem BoxC.no {g:G} {w:World} {b k c:Nat} {x:C} (hx: ∀g w ℓ v,¬RepC g w ℓ v x) (h:BoxC g w b k c [x]):False:=by
 obtain ⟨vs,e,_,⟨hl,h2⟩,_⟩:=h
 have hs:0<vs.toList.length:=by
  rw [Array.length_toList]
  simp at hl
  omega
 exact hx _ _ _ _ (h2.2 0 vs.toList[0] _ (by rw [List.getElem?_take,if_pos Zs,List.getElem?_eq_getElem hs]) rfl)
theorem Box.map {g:G} {w:World} {b k c:Nat} {es:List (MV×MV)} (h:Box g w b k c [.mapc es]):MapO g w b es:=by
 rcases h with ⟨es',e,h⟩|h
 ·injection e with e _
  subst e
  exact h
 ·exact (h.no (x:= .mapc es) fun _ _ _ _ h=>(show False from h)).elim
theorem Box.mapL {g:G} {w:World} {b k c:Nat} {es:List (Int×MV)} (h:Box g w b k c [.mapl es]):MapL g w b es:=by
 rcases h with ⟨es',e,h⟩|h
 ·injection e with e _
  subst e
  exact h
 ·exact (h.no (x:= .mapl es) fun _ _ _ _ h=>(show False from h)).elim
theorem Box.bk {g:G} {w:World} {b k c:Nat} {cs:List C} (h:Box g w b k c cs): ∃o,w.heap[b]? =some o/\g.pr b=0/\g.ow b=none:=by
 rcases h with ⟨_,_,h⟩|⟨vs,e,h1,_,h2,h3⟩
 ·obtain ⟨m,t,h1,h2,h3⟩:=h.obj;exact ⟨_,h1,h2,h3⟩
 ·exact ⟨_,h1,h2,h3⟩
theorem Box.lift {g g':G} {w w':World} {b k c k' c':Nat} {cs cs':List C} (h:Box g w b k c cs) (hb:w'.heap[b]? =w.heap[b]?) (hpb:g'.pr b=g.pr b) (hob:g'.ow b=none) (hk:Zz1 g.pr w w') (hp: ∀b,g.pr b<=g'.pr b)
   (hm: ∀x,cs=[x]->ZH1 [x]=true->cs'=[x]) (hc:BoxC g w b k c cs->BoxC g' w' b k' c' cs'):Box g' w' b k' c' cs':=by
 rcases h with ⟨x,e,h⟩|h
 · refine .inl ⟨x,hm x e h.is,?_⟩
   cases x with
   | mapc es=>
     obtain ⟨mes,t,h1,h2,h3,h4,h5⟩:=h
     exact ⟨mes,t,hb.trans h1,h2,fun i k x hi=>by
       obtain ⟨e,q1,q2,q3⟩:=h3 i k x hi
       exact ⟨e,q1,q2.mono hk hp,q3.mono hk hp⟩,hpb.trans h4,hob⟩
   | mapl es=>
     obtain ⟨mes,t,h1,⟨es0,h2,h3,h4,h5⟩,h6,h7⟩:=h
     exact ⟨mes,t,hb.trans h1,⟨es0,h2,h3,h4,fun i n x hi=>by
       obtain ⟨e,q1,q2,q3⟩:=h5 i n x hi
       exact ⟨e,q1,q2.mono hk hp,q3.mono hk hp⟩⟩,hpb.trans h6,hob⟩
   | _=>exact h.elim
 · exact .inr (hc h)
def SameObj (n:Nat):Obj->Obj->Prop
 | .cells cs e fz,o'=> ∃cs',o'= .cells cs' e fz/\cs'.size=cs.size/\ ∀j,j<n->cs'[j]? =cs[j]?
 | .map _ _,o'=> ∃es c,o'= .map es c
 | o,o'=>o'=o
theorem SameObj.refl (n:Nat) (o:Obj):SameObj n o o:=by
 cases o<;>first|exact rfl|exact ⟨_,rfl,rfl,fun _ _=>rfl⟩|exact ⟨_,_,rfl⟩
theorem SameObj.trans {n n':Nat} {a b c:Obj} (h:SameObj n a b) (h':SameObj n' b c) (hn:n<=n'):SameObj n a c:=by
 cases a with
 | cells cs e fz=>
   obtain ⟨cs',rfl,hs,hc⟩:=h
   obtain ⟨cs'',rfl,hs',hc'⟩:=h'
   exact ⟨cs'',rfl,hs'.trans hs,fun j hj=>(hc' j (Nat.lt_of_lt_of_le hj hn)).trans (hc j hj)⟩
 | map es c=>
   obtain ⟨es',c',rfl⟩:=h
   exact h'
 | _=>cases h;exact h'
theorem SameObj.mono {n n':Nat} {a b:Obj} (h:SameObj n' a b) (hn:n<=n'):SameObj n a b:=by
 cases a with
 | cells cs e fz=>
   obtain ⟨cs',rfl,hs,hc⟩:=h
   exact ⟨cs',rfl,hs,fun j hj=>hc j (Nat.lt_of_lt_of_le hj hn)⟩
 | _=>exact h
structure Ext (T:Nat->Prop) (pr:Nat->Nat) (ow:Nat->Option Loc) (w w':World) (pr':Nat->Nat) (ow':Nat->Option Loc):Prop where
 os:w'.os=w.os
 tape:w'.tape=w.tape
 output:w'.output=w.output
 size:w.heap.size<=w'.heap.size
 blk: ∀b o,w.heap[b]? =some o-> ∃o',w'.heap[b]? =some o'/\SameObj (pr b) o o'
 prle: ∀b,b<w.heap.size->pr b<=pr' b
 keep: ∀b,b<w.heap.size->ow b=none-> ¬T b->pr' b=pr b/\ow' b=none
 hid: ∀b,b<w.heap.size->ow b=none-> ¬T b->w'.heap[b]? =w.heap[b]?
theorem Ext.refl (T:Nat->Prop) (pr:Nat->Nat) (ow:Nat->Option Loc) (w:World):Ext T pr ow w w pr ow:=
 ⟨rfl,rfl,rfl,Nat.le_refl _,fun _ o h=>⟨o,h,.refl _ _⟩,fun _ _=>Nat.le_refl _,fun _ _ h _=>⟨rfl,h⟩,fun _ _ _ _=>rfl⟩
theorem ZaB {w:World} {b:Nat} {o:Obj} (h:w.heap[b]? =some o):b<w.heap.size:=by
 rcases Nat.lt_or_ge b w.heap.size with h'|h'
 ·exact h'
 ·rw [Array.getElem?_eq_none h'] at h;cases h
theorem Ext.trans {T:Nat->Prop} {pr pr' pr'':Nat->Nat} {ow ow' ow'':Nat->Option Loc} {w w' w'':World} (h:Ext T pr ow w w' pr' ow') (h':Ext T pr' ow' w' w'' pr'' ow''):Ext T pr ow w w'' pr'' ow'':=by
 refine ⟨h'.os.trans h.os,h'.tape.trans h.tape,h'.output.trans h.output,Nat.le_trans h.size h'.size,fun b o hb=>?_,fun b hb=>Nat.le_trans (h.prle b hb) (h'.prle b (Nat.lt_of_lt_of_le hb h.size)),fun b hb ho hT=>?_,fun b hb ho hT=>(h'.hid b (Nat.lt_of_lt_of_le hb h.size) (h.keep b hb ho hT).2 hT).trans (h.hid b hb ho hT)⟩
 ·obtain ⟨o',hb',hs⟩:=h.blk b o hb
  obtain ⟨o'',hb'',hs'⟩:=h'.blk b o' hb'
  exact ⟨o'',hb'',hs.trans hs' (h.prle b (ZaB hb))⟩
 ·obtain ⟨h1,h2⟩:=h.keep b hb ho hT
  obtain ⟨h3,h4⟩:=h'.keep b (Nat.lt_of_lt_of_le hb h.size) h2 hT
  exact ⟨h3.trans h1,h4⟩
theorem Ext.keeps {T:Nat->Prop} {pr pr':Nat->Nat} {ow ow':Nat->Option Loc} {w w':World} (h:Ext T pr ow w w' pr' ow'):Zz1 pr w w':=fun b o v ho hv=>by
 unfold World.cell? at hv
 split at hv
 ·rename_i c e f hb
  obtain ⟨o',hb',hs⟩:=h.blk b _ hb
  obtain ⟨cs',rfl,hsz,hc⟩:=hs
  simp only [World.cell?,hb']
  simpa [hc o ho] using hv
 ·cases hv
def ZnQ (pr:Nat->Nat) (ow:Nat->Option Loc) (w:World):Prop:= ∀b,w.heap.size<=b->pr b=0/\ow b=none
theorem Ext.prle' {T:Nat->Prop} {pr pr':Nat->Nat} {ow ow':Nat->Option Loc} {w w':World} (h:Ext T pr ow w w' pr' ow') (hf:ZnQ pr ow w): ∀b,pr b<=pr' b:=fun b=>by
 rcases Nat.lt_or_ge b w.heap.size with hb|hb
 ·exact h.prle b hb
 ·rw [(hf b hb).1];exact Nat.zero_le _
def Ze3 (g g':G) (w w':World) (ℓ ℓ':Loc):Prop:= ∀b,g.ow b=some ℓ->g'.ow b=some ℓ'/\g'.pr b=g.pr b/\w'.heap[b]? =w.heap[b]?
theorem Room.mono {g g':G} {w w':World} {ℓ ℓ':Loc} {b lo hi:Nat} (h:Room g w ℓ b lo hi) (ho:Ze3 g g' w w' ℓ ℓ')
  (hb: ∀b o,w.heap[b]? =some o-> ∃o',w'.heap[b]? =some o'/\SameObj (g.pr b) o o'):Room g' w' ℓ' b lo hi:=by
 obtain ⟨h1,h2,cs,e,h3,h4⟩:=h
 obtain ⟨k1,k2,_⟩:=ho b h2
 obtain ⟨o',hb',cs',rfl,hs,_⟩:=hb b _ h3
 exact ⟨k2.trans h1,k1,cs',e,hb',by omega⟩
theorem RepC.mono {g g':G} {w w':World} {ℓ ℓ':Loc} {v:Value} {c:C} (h:RepC g w ℓ v c) (he:Ext g.T g.pr g.ow w w' g'.pr g'.ow) (hp: ∀b,g.pr b<=g'.pr b)
   (ho:Ze3 g g' w w' ℓ ℓ') (hT: ∀b,g.T b->g'.T b) (hr: ∀r:R,(match c with| .ref r'=>r=r'| .clo _ x y=>r∈x∨r∈y| .closs _ r'=>r=r'| .own r' _ _=>r=r'| .mptr r'=>r=r'| .map r' _=>r=r'|_=>False)->r.val g'=r.val g):RepC g' w' ℓ' v c:=by
 cases c with
 | p x=>exact RepP.mono h he.keeps hp
 | tip s rows=>
   obtain ⟨h1,a,cap,h2,h3⟩:=h
   refine ⟨h1.mono he.keeps hp,a,cap,h2,h3.imp id ?_⟩
   rintro ⟨b,o,ha,hl,hroom⟩
   exact ⟨b,o,ha,hl,hroom.mono ho he.blk⟩
 | ref r=>have:v=r.val g:=h;rw [<-hr r rfl] at this;exact this
 | view row off=>
   obtain ⟨b,o,hv,hrow,hle⟩:=h
   exact ⟨b,o,hv,hrow.mono hle he.keeps hp,Nat.le_trans hle (hp b)⟩
 | clo f first caps=>
   have h':v= .func (.func f) (first.map (R.val g)).toArray (caps.map (R.val g)).toArray:=h
   have e1:first.map (R.val g')=first.map (R.val g):=List.map_congr_left fun r hm=>hr r (.inl hm)
   have e2:caps.map (R.val g')=caps.map (R.val g):=List.map_congr_left fun r hm=>hr r (.inr hm)
   show v=_
   rw [e1,e2];exact h'
 | closs f r=>have:v= .func (.func f) #[.agg #[r.val g]] #[]:=h;rw [<-hr r rfl] at this;exact this
 | nilp=>exact h
 | uniq s rows=>
   obtain ⟨a,cap,hv,hh⟩:=h
   refine ⟨a,cap,hv,hh.imp id ?_⟩
   rintro ⟨b,cs,e,ha,hl,hpr,how,hTb,hb,hsz,hrows⟩
   obtain ⟨k1,k2,k3⟩:=ho b how
   exact ⟨b,cs,e,ha,hl,k2.trans hpr,k1,hT b hTb,k3.trans hb,hsz,fun i row hi=>⟨(hrows i row hi).1,fun j x hx=>by
     obtain ⟨u,hu,hr'⟩:=(hrows i row hi).2 j x hx
     exact ⟨u,hu,hr'.mono he.keeps hp⟩⟩⟩
 | bytes e t=>
   obtain ⟨a,cap,hv,hh⟩:=h
   refine ⟨a,cap,hv,hh.imp id ?_⟩
   rintro ⟨b,cs,ha,hl,hm,hpr,how,hTb,hb,hsz,hrows⟩
   obtain ⟨k1,k2,k3⟩:=ho b how
   exact ⟨b,cs,ha,hl,hm,k2.trans hpr,k1,hT b hTb,k3.trans hb,hsz,hrows⟩
 | own r s n=>
   obtain ⟨cap,hv,hn,cs,t,hb,hsz⟩:=h
   have hr':=hr r rfl
   unfold R.val at hr'
   injection hr' with hr'
   injection hr' with hr'
   injection hr' with h1 _ _
   obtain ⟨o',hb',cs',rfl,hs',_⟩:=he.blk _ _ hb
   exact ⟨cap,by rw [hv,h1],hn,cs',t,by rw [h1];exact hb',by omega⟩
 | junk=>exact h
 | hdr n=>exact h
 | mapc _=>exact h.elim
 | mapl _=>exact h.elim
 | mptr r=>
   have h':v= .map (some (r.blk g)):=h
   show v=_
   rw [R.blk_eq (hr r rfl)];exact h'
 | map r es=>
   obtain ⟨mes,clock,hv,hpr,how,hTb,hb,hsz,hes⟩:=h
   obtain ⟨k1,k2,k3⟩:=ho _ how
   have e:=R.blk_eq (hr r rfl)
   exact ⟨mes,clock,by rw [e];exact hv,by rw [e];exact k2.trans hpr,by rw [e];exact k1,by rw [e];exact hT _ hTb,by rw [e];exact k3.trans hb,hsz,fun i k x hi=>by
     obtain ⟨e,h1,h2,h3⟩:=hes i k x hi
     exact ⟨e,h1,h2.mono he.keeps hp,h3.mono he.keeps hp⟩⟩
theorem RepC.plain {g:G} {w:World} {ℓ ℓ':Loc} {v:Value} {c:C} (h:RepC g w ℓ v c):RepC g w ℓ' v c.plain:=by
 cases c with
 | tip s r=>exact h.1
 | uniq s r=>obtain ⟨a,cap,rfl,_⟩:=h;exact ⟨a,cap,rfl⟩
 | bytes s r=>obtain ⟨a,cap,rfl,_⟩:=h;exact ⟨a,cap,rfl⟩
 | map r es=>obtain ⟨_,_,h,_⟩:=h;exact h
 | _=>exact h
theorem RepC.not_agg {g:G} {w:World} {ℓ:Loc} {v:Value} {c:C} (h:RepC g w ℓ v c):v.cells= #[v]/\(∀vs,v≠ .agg vs)/\(∀vs,v≠ .tuple vs):=by
 cases c with
 | p x=>cases h<;>exact ⟨rfl,(by intro _ h;cases h),(by intro _ h;cases h)⟩
 | tip s rows=>obtain ⟨_,a,cap,rfl,_⟩:=h;exact ⟨rfl,(by intro _ h;cases h),(by intro _ h;cases h)⟩
 | ref r=>cases h;exact ⟨rfl,(by intro _ h;cases h),(by intro _ h;cases h)⟩
 | view row off=>obtain ⟨b,o,rfl,_⟩:=h;exact ⟨rfl,(by intro _ h;cases h),(by intro _ h;cases h)⟩
 | clo f x y=>cases h;exact ⟨rfl,(by intro _ h;cases h),(by intro _ h;cases h)⟩
 | closs f r=>cases h;exact ⟨rfl,(by intro _ h;cases h),(by intro _ h;cases h)⟩
 | nilp=>cases h;exact ⟨rfl,(by intro _ h;cases h),(by intro _ h;cases h)⟩
 | uniq s r=>obtain ⟨a,cap,rfl,_⟩:=h;exact ⟨rfl,(by intro _ h;cases h),(by intro _ h;cases h)⟩
 | bytes s r=>obtain ⟨a,cap,rfl,_⟩:=h;exact ⟨rfl,(by intro _ h;cases h),(by intro _ h;cases h)⟩
 | own r s n=>obtain ⟨cap,rfl,_⟩:=h;exact ⟨rfl,(by intro _ h;cases h),(by intro _ h;cases h)⟩
 | junk=>exact h
 | map r es=>obtain ⟨_,_,rfl,_⟩:=h;exact ⟨rfl,(by intro _ h;cases h),(by intro _ h;cases h)⟩
 | mptr r=>cases h;exact ⟨rfl,(by intro _ h;cases h),(by intro _ h;cases h)⟩
 | mapc _=>exact h.elim
 | mapl _=>exact h.elim
 | hdr n=>obtain ⟨a,cap,rfl⟩:=h;exact ⟨rfl,(by intro _ h;cases h),(by intro _ h;cases h)⟩
class WI where
 I:(Nat->Nat)->World->Prop
 mono: ∀{T:Nat->Prop} {pr pr':Nat->Nat} {ow ow':Nat->Option Loc} {w w':World},I pr w->Ext T pr ow w w' pr' ow'->(∀b,pr b<=pr' b)->I pr' w'
end Go.Am
end
