/- Part. -/
import Derived.Test.YtmofclmogldnjaaGreatDoorSat
import Derived.Test.YtmofclmogldnjaaGreatDoorSba
import Derived.Test.YtmofclmogldnjaaGreatDoorSab
import Derived.Test.YtmofclmogldnjaaGreatDoorSah
import Derived.WalkKit
import Derived.BigCall
import Derived.Sort.OwnSortedInts
import Derived.Lib.RowBridge
import Derived.Shelf.SlicesE.Clone
set_option maxRecDepth 999999
set_option maxHeartbeats 0
set_option linter.all false
section
namespace Go.Proofs
open Go.RowKit Go.Sort Go.Lib
set_option maxHeartbeats 4000000
set_option maxRecDepth 1000000
def Zdk (zs:List Int):(once zs).length<=zs.length:=by
 have:=compact_length_le (zs.mergeSort fun x y=>decide (x<=y))
 simpa [once] using this
def Tryz.once_calls (b cap:Nat) (w:World) (n m:Nat) (Q1 Q2:World->Prop) (h1:Calls Tryz.prog 288 #[.slice (some ⟨b,0,none⟩) n cap] w fun e w'=>e= .returned (.tuple #[])/\Q1 w')
  (h2: ∀w1,Q1 w1->Calls Tryz.prog 289 #[.slice (some ⟨b,0,none⟩) n cap] w1 fun e w'=>e= .returned (.slice (some ⟨b,0,none⟩) m cap)/\Q2 w'):
  Calls Tryz.prog 235 #[.slice (some ⟨b,0,none⟩) n cap] w fun e w'=>e= .returned (.slice (some ⟨b,0,none⟩) m cap)/\Q2 w':=by
 have e288: ∀args w,(callFunc 288 args).run Tryz.prog w= .ok (.enter 288 args) w:=enters_of Tryz.func288 (by kernel_rfl) rfl
 have e289: ∀args w,(callFunc 289 args).run Tryz.prog w= .ok (.enter 289 args) w:=enters_of Tryz.func289 (by kernel_rfl) rfl
 go_enter Tryz.func235,Tryz.ntmps235
 go_wp2_with (go_at_fn 288;refine h1.mono ?_)
 rintro e w1 ⟨rfl,q1⟩
 go_wp2_with (go_at_fn 289;refine (h2 w1 q1).mono ?_)
 rintro e w2 ⟨rfl,q2⟩
 go_wp2
 go_ret
 exact ⟨rfl,q2⟩
def Tryz.once_cells (b cap:Nat) (cur:Array Value) (t:TypeId) (zs:List Int) (w:World) (hb:w.heap[b]? =some (.cells cur t (0,0))) (ht:cur.toList.take zs.length=zs.map (Value.int .i64)) (hc:zs.length<=cap)
  (hs:zs.length<=cur.size) (hz:zs.length<4611686018427387904):
  Calls Tryz.prog 235 #[.slice (some ⟨b,0,none⟩) zs.length cap] w fun e w'=>e= .returned (.slice (some ⟨b,0,none⟩) (once zs).length cap)/\w.grownBy w' (some b)/\
   ∃cur',w'.heap[b]? =some (.cells cur' t (0,0))/\cur'.size=cur.size/\cur'.toList.take zs.length=(once zs++List.replicate (zs.length-(once zs).length) 0).map (Value.int .i64):=by
 have hbk:b<w.heap.size:=(Array.getElem?_eq_some_iff.1 hb).1
 obtain ⟨ys,hy⟩: ∃ys,ys=zs.mergeSort fun x y=>decide (x<=y):=⟨_,rfl⟩
 have hyl:ys.length=zs.length:=by rw [hy];simp
 have c1:=Tryz.slices_Sort_int b 0 cap zs w (holds_of_blockI hb ht) hbk hz
 rw [<-hy] at c1
 have ho:once zs=Lib.compact ys:=by rw [hy];rfl
 have hol:=Zdk zs
 obtain ⟨os1,ho1⟩: ∃ts,ts=once zs++List.replicate (zs.length-(once zs).length) 0:=⟨_,rfl⟩
 have hol1:os1.length=zs.length:=by rw [ho1];simp;omega
 rw [<-ho1]
 refine Tryz.once_calls b cap w _ _ _ _ c1 fun w1 hq=>?_
 obtain ⟨n,os,hw1⟩:=hq
 have hb1:w1.heap[b]? =some (.cells (putCells (Value.int .i64) 0 ys.toArray cur) t (0,0)):=by rw [hw1];exact heap_sortedI _ hb
 have g1:w.grownBy w1 (some b):=by rw [hw1];exact grownBy_sortedI _
 have t1:(putCells (Value.int .i64) 0 ys.toArray cur).toList.take ys.length=ys.map (Value.int .i64):=take_putCellsI cur ys Zo
 have s1:(putCells (Value.int .i64) 0 ys.toArray cur).size=cur.size:=by simp [putCells]
 have c2:=Tryz.slices_Compact_int b 0 cap ys w1 (holds_of_blockI hb1 t1) Zo Zo
 rw [<-ho,hyl,<-ho1] at c2
 refine c2.mono ?_
 rintro e w2 ⟨rfl,q,hw2⟩
 have e2:w2=grow (putRow (Value.int .i64) (Sort.ahead w1 q) b 0 os1.toArray) #[]:=by rw [hw2];simp only [grow,Array.append_empty]
 refine ⟨rfl,?_,_,by rw [e2];exact heap_sortedI _ hb1,by simp [putCells],by rw [<-hol1];exact take_putCellsI _ os1 (by simp [putCells];omega)⟩
 have g2:w1.grownBy w2 (some b):=by rw [e2];exact grownBy_sortedI _
 exact ⟨g2.os.trans g1.os,g2.tape.trans g1.tape,g2.output.trans g1.output,Yy g1.size g2.size,fun k hk hne=>(g2.block k (Yq hk g1.size) hne).trans (g1.block k hk hne)⟩
def Tryz.once_none (a:Option Addr) (cap:Nat) (w:World):Calls Tryz.prog 235 #[.slice a 0 cap] w fun e w'=>e= .returned (.slice a 0 cap)/\w'=w:=by
 have e288: ∀args w,(callFunc 288 args).run Tryz.prog w= .ok (.enter 288 args) w:=enters_of Tryz.func288 (by kernel_rfl) rfl
 have e289: ∀args w,(callFunc 289 args).run Tryz.prog w= .ok (.enter 289 args) w:=enters_of Tryz.func289 (by kernel_rfl) rfl
 go_enter Tryz.func235,Tryz.ntmps235
 go_wp2_with (go_at_fn 288;refine (Tryz.slices_Sort_int_none a cap w).mono ?_)
 rintro e w' ⟨rfl,rfl⟩
 go_wp2_with (go_at_fn 289;refine (Tryz.slices_Compact_int_empty a cap _).mono ?_)
 rintro e w' ⟨rfl,rfl⟩
 go_wp2
 go_ret
 exact ⟨rfl,rfl⟩
end Go.Proofs
namespace Go.Proofs
open Go.Shelf Go.RowKit Go.Lib
variable {P:Program} {ρ:Ren}
def ZjD (L:SlLaysE0.n41 P ρ) (i0:TypeInfo) (z:Value) (size bytes:Nat) (hi:P.info? (ρ.t 23)=some i0) (hz0:i0.zero=some z) (hz1:i0.size=size) (hz2:i0.bytes=bytes) (hzs:z.cells.size=size) (hsz:0<size)
  (z23: ∀w,(Go.sizeOf (ρ.t 23)).run P w= .ok size w) (a:Addr) (c:Nat) (w:World):
  Calls P (ρ.f 41) #[.slice (some a) 0 c] w fun e w'=> ∃v',e= .returned v'/\w'.ownsRow w.heap.size (ρ.t 23) size v' 0 []/\v'≠ .slice none 0 0/\Below w.heap.size w w':=by
 have mixed:=L.mixed;have t4:=L.t4;have a4:=L.a4;have z4:=L.z4;have v4:=L.v4;have t22:=L.t22;have a22:=L.a22;have z22:=L.z22;have v22:=L.v22
 have q22: ∀(w:World) (a:Option Addr) (n c n' c':Nat),(binOp .eql (ρ.t 22) (.slice a n c) (.slice none n' c')).run P w= .ok (.bool a.isNone) w:=fun w a n c n' c'=>Lib.run_eql_slice_nil w _ _ a n c n' c' L.t22
 have u22: ∀w,Sem.run P (underlying (ρ.t 22)) w= .ok (TypeDesc.slice (ρ.t 23)) w:=run_underlying t22
 obtain ⟨_,_,FG⟩:=L.f41
 go_enter FG,SlBodyN.n41_ntmps ρ
 go_wp2_with (at_builtin;refine wpList_append_own _ rfl _ _ (ρ.t 22) rfl w.heap.size (ρ.t 23) i0 z size bytes t22 hi hz0 hz1 hz2 hzs hsz _ _ _ rfl (World.ownsRow_made w #[] 0 (Yc _) (Yd _) Zs) a 0 c [] rfl ?qc1 ?qc2 ?qc3 ?qc4 ?qc5 ?qc6 ?_)
 case qc1=>simp
 case qc2=>intro j u hj;simp at hj
 case qc3=>intro u hu;cases hu
 case qc4=>unfold maxLen;omega
 case qc5=>simp
 case qc6=>simp
 intro v' w1 hown hgrow hnil
 go_wp2
 go_ret
 refine ⟨v',rfl,by simpa using hown,?_,?_⟩
 ·exact hnil
 ·exact ((Below.refl _ w).alloc (Yc _) _).grown hgrow Zs (by intro k hk;simp [Value.ownBlock] at hk;omega)
end Go.Proofs
namespace Go.Am
open Go.Shelf
section
variable [WI] {Pg:Program}
def ZiK {T:Nat->Prop} {pr:Nat->Nat} {ow:Nat->Option Loc} {w w':World} (hB:RowKit.Below w.heap.size w w'):Ext T pr ow w w' pr ow:=
 ⟨hB.os,hB.tape,hB.output,hB.size,fun b o hb=>⟨o,by rw [hB.block b (Zad hb)];exact hb,.refl _ _⟩,fun _ _=>Yc _,fun b _ ho _=>⟨rfl,ho⟩,fun b hb _ _=>hB.block b hb⟩
theorem ZjC {g:G} {w:World} {vs:List Value} {x:A} (h:Zbv g w vs [x]): ∃v,vs=[v]/\RepA g w 0 0 v x:=by
 obtain ⟨hl,h⟩:=h
 match vs,hl with
 | [v],_=>exact ⟨v,rfl,h 0 v x rfl rfl⟩
theorem Zno {g:G} {w:World} {vs:List Value} {x y:A} (h:Zbv g w vs [x,y]): ∃v u,vs=[v,u]/\RepA g w 0 0 v x/\RepA g w 1 0 u y:=by
 obtain ⟨hl,h⟩:=h
 match vs,hl with
 | [v,u],_=>exact ⟨v,u,rfl,h 0 v x rfl rfl,h 1 u y rfl rfl⟩
def ZtP {g:G} {w:World} {k c:Nat} {v:Value} {s:List Nat} (h:RepA g w k c v (.one (.p (.str s)))): ∃bs:ByteArray,v= .string bs/\Zax bs=s:=by
 have h:RepP g.pr w v (.str s):=h
 cases h with
 | str bs t h=>exact ⟨bs,rfl,h⟩
def ZzG {f:Nat} {p:List A->Option (List A)} (hE:Za7 Pg f=true)
   (h: ∀args rs,p args=some rs-> ∀(g:G) (w:World) (vs:List Value),Zbv g w vs args->ZhE g.pr g.ow w->WI.I g.pr w->
     Calls Pg f vs.toArray w fun e w'=> ∃v,e= .returned v/\RowKit.Below w.heap.size w w'/\RepD g w' RESK v (resD rs)):
   ZjA Pg f fun args os=>if os.isEmpty then (p args).map fun t=>(t,[]) else none:=by
 intro args os rs os' hp
 cases os with
 | cons o os=>simp at hp
 | nil=>
   simp only [List.isEmpty_nil,if_true,YG] at hp
   obtain ⟨t,ht,e⟩:=hp
   injection e with e1 e2
   subst e1 e2
   refine ⟨hE,fun g w vs hr _ _ _ _ hf hi _=>(h args t ht g w vs hr hf hi).mono ?_⟩
   rintro e w' ⟨v,rfl,hB,hR⟩
   exact ⟨_,g,rfl,ZiK hB,rfl,rfl,fun b hb=>hf b (Yy hB.size hb),hR,by simp⟩
end
def Zrv: ∀(a b:List UInt8),Lib.compareBytes a b=cmpN (a.map UInt8.toNat) (b.map UInt8.toNat)
 | [],[]=>rfl
 | [],_::_=>rfl
 | _::_,[]=>rfl
 | a::l1,b::l2=>by
   simp only [Lib.compareBytes,Yp,cmpN,UInt8.lt_iff_toNat_lt,Zrv l1 l2]
def cmpP (args:List A):Option (List A):=match args with
 | [.one (.p (.str a)),.one (.p (.str b))]=>some [.one (.p (.int .i64 (cmpN a b)))]
 | _=>none
def ZuD [WI]:ZjA Proofs.Tryz.prog 287 fun args os=>if os.isEmpty then (cmpP args).map fun t=>(t,[]) else none:=by
 refine ZzG (by kernel_rfl) fun args t ht g w vs hr hf hi=>?_
 unfold cmpP at ht
 split at ht
 ·rename_i a b
  injection ht with ht
  subst ht
  obtain ⟨v,u,rfl,hv,hu⟩:=Zno hr
  obtain ⟨x,rfl,hx⟩:=ZtP hv
  obtain ⟨y,rfl,hy⟩:=ZtP hu
  refine (Proofs.Tryz.bytealg_CompareString x y w).mono ?_
  rintro e w' ⟨rfl,rfl⟩
  refine ⟨_,rfl,RowKit.Below.refl _ _,?_⟩
  have:Lib.compareBytes x.data.toList y.data.toList=cmpN a b:=by rw [Zrv,<-hx,<-hy];rfl
  rw [this]
  exact RepP.int _ _
 ·cases ht
def ZrR:List (List P)->Option (List Int)
 | []=>some []
 | [.int .i64 x]::r=>match ZrR r with
   | some l=>some (x::l)
   | none=>none
 | _=>none
def ZjU: ∀l:List Int,ZrR (Fe.ints l)=some l
 | []=>rfl
 | x::l=>by
   have:=ZjU l
   unfold Fe.ints at this⊢
   rw [Yp]
   unfold ZrR
   rw [this]
def Zjy: ∀{rows:List (List P)} {l:List Int},ZrR rows=some l->rows=Fe.ints l
 | [],l,h=>by injection h with h;subst h;rfl
 | c::cs,l,h=>by
   unfold ZrR at h
   split at h
   · rename_i he;cases he
   · rename_i x r he
     injection he with h1 h2
     subst h1 h2
     split at h
     · rename_i l' hl
       injection h with h
       subst h
       rw [Zjy hl];rfl
     · cases h
   · cases h
def disP (args:List A) (os:List (List C)):Option (List A×List (List C)):=match args,os with
 | [.one (.uniq 1 rows)],[]=>match ZrR rows with
   | some zs=>if zs.length<4611686018427387904 then some ([.one (.uniq 1 (Fe.ints (Proofs.once zs)))],[]) else none
   | none=>none
 | _,_=>none
def ZtV [WI]:ZjA Proofs.Tryz.prog 235 disP:=by
 intro args os rs os' hp
 refine ⟨by kernel_rfl,fun g w vs hr k1 k2 hbox k3 hf hi hT=>?_⟩
 unfold disP at hp
 split at hp
 ·rename_i rows
  split at hp
  ·rename_i zs hzs
   split at hp
   ·rename_i hlt
    injection hp with hp
    injection hp with h1 h2
    subst h1 h2
    obtain rfl:=Zjy hzs
    obtain ⟨v,rfl,hv⟩:=ZjC hr
    obtain ⟨a,cap,hv,hh⟩:=(show RepC g w (0,0,0) v (.uniq 1 (Fe.ints zs)) from hv)
    have hln:(Fe.ints zs).length=zs.length:=by simp [Fe.ints]
    rw [hln] at hv hh
    have hol:=Proofs.Zdk zs
    rcases hh with ⟨rfl,he,rfl⟩|⟨b,cs,t,rfl,hcap,hpr,how,hTb,hb,hsz,hrows⟩
    ·have hz:zs=[]:=by simpa [Fe.ints] using he
     subst hz hv
     refine (Proofs.Tryz.once_none none 0 w).mono ?_
     rintro e w1 ⟨rfl,rfl⟩
     have he0:Fe.ints (Proofs.once [])=[]:=by
      have:Proofs.once []=[]:=List.eq_nil_of_length_eq_zero (by simp at hol;simpa using hol)
      rw [this];rfl
     have hR:RepC g w1 (RESK,0,0) (.slice none 0 0) (.uniq 1 (Fe.ints (Proofs.once []))):=by rw [he0];exact ⟨none,0,rfl,.inl ⟨rfl,rfl,rfl⟩⟩
     refine ⟨_,g,rfl,Ext.refl _ _ _ _,rfl,rfl,hf,?_,by simp⟩
     exact hR
    ·subst hv
     have ht:cs.toList.take zs.length=zs.map (Value.int .i64):=by
      apply List.ext_getElem?
      intro i
      rcases Yt i zs.length with h|h
      ·obtain ⟨_,h2⟩:=hrows i [.int .i64 zs[i]] (by simp [Fe.ints,h])
       obtain ⟨u,hu,hR⟩:=h2 0 _ rfl
       rw [Nat.mul_one,Nat.add_zero] at hu
       cases hR
       rw [YH,if_pos h,Array.getElem?_toList,hu,Yn,Ya h];rfl
      ·rw [List.getElem?_eq_none Ze,List.getElem?_eq_none (by simpa using h)]
     have hbs:=Zad hb
     refine (Proofs.Tryz.once_cells b cap cs t zs w hb ht hcap Zo hlt).mono ?_
     rintro e w1 ⟨rfl,hg,cur,hb1,hs1,ht1⟩
     have hE:Ext g.T g.pr g.ow w w1 g.pr (fun k=>if k=b then some (RESK,0,0) else g.ow k):=by
      refine ⟨hg.os,hg.tape,hg.output,hg.size,fun k o hko=>?_,fun _ _=>Yc _,fun k _ h _=>⟨rfl,?_⟩,fun k hk h hnT=>?_⟩
      ·by_cases e:k=b
       ·subst e
        rw [hb] at hko
        injection hko with hko
        subst hko
        exact ⟨_,hb1,cur,rfl,hs1,fun j hj=>by omega⟩
       ·exact ⟨o,(hg.block k (Zad hko) (fun h=>e (Option.some.inj h))).trans hko,.refl _ _⟩
      ·show (if k=b then some (RESK,0,0) else g.ow k)=none
       rw [if_neg (fun e=>by rw [e,how] at h;cases h)];exact h
      ·exact hg.block k hk (fun e=>by rw [Option.some.inj e] at hnT;exact hnT hTb)
     refine ⟨_,{g with ow:=fun k=>if k=b then some (RESK,0,0) else g.ow k},rfl,hE,rfl,rfl,fun k hk=>?_,?_,by simp⟩
     ·have:=hf k (Yy hg.size hk)
      refine ⟨this.1,?_⟩
      show (if k=b then some (RESK,0,0) else g.ow k)=none
      rw [if_neg (fun e=>by have:=hg.size;omega)];exact this.2
     ·have hlo:(Fe.ints (Proofs.once zs)).length=(Proofs.once zs).length:=by simp [Fe.ints]
      refine ⟨some ⟨b,0,none⟩,cap,by rw [hlo],.inr ⟨b,cur,t,rfl,by rw [hlo];omega,hpr,if_pos rfl,hTb,hb1,by omega,fun i row hi=>?_⟩⟩
      simp only [Fe.ints,Yn,YG] at hi
      obtain ⟨x,hx,rfl⟩:=hi
      refine ⟨rfl,fun j y hy=>?_⟩
      have hj:j=0:=by have:=Zab hy;simp at this;exact this
      subst hj
      have hy:P.int .i64 x=y:=by simpa using hy
      subst hy
      have hi2:=Zab hx
      refine ⟨.int .i64 x,?_,RepP.int _ _⟩
      have h4:(cur.toList.take zs.length)[i]? =some (.int .i64 x):=by
       rw [ht1,Yn,Yx hi2,hx];rfl
      rw [YH,if_pos Zo,Array.getElem?_toList] at h4
      rw [Nat.mul_one,Nat.add_zero];exact h4
   ·cases hp
  ·cases hp
 ·cases hp
variable [WI]
def RepP.one {pr:Nat->Nat} {w:World} {v:Value} {x:P} (h:RepP pr w v x):v.oneCell'=true:=by cases h<;>rfl
structure ClT (ρ:Ren) (s:Nat):Prop where
 L:Proofs.SlLaysE0.n41 Proofs.Tryz.prog ρ
 e:Za7 Proofs.Tryz.prog (ρ.f 41)=true
 i: ∃i0 z,Proofs.Tryz.prog.info? (ρ.t 23)=some i0/\i0.zero=some z/\i0.size=s/\i0.bytes<=1024/\z.cells.size=s
 hs:0<s
 z: ∀w,(Go.sizeOf (ρ.t 23)).run Proofs.Tryz.prog w= .ok s w
def Zpb {ρ:Ren} {s:Nat} (T:ClT ρ s) {pr:Nat->Nat} {w:World} {v:Value} {rows:List (List P)} (h:RepP pr w v (.sl s rows)) (hx:rows.length<=2147483648):
   Calls Proofs.Tryz.prog (ρ.f 41) #[v] w fun e w'=> ∃v',e= .returned v'/\RowKit.Below w.heap.size w w'/\
     ((v'= .slice none 0 0/\rows=[])∨ ∃b cap cur t,v'= .slice (some ⟨b,0,none⟩) rows.length cap/\rows.length<=cap/\w.heap.size<=b/\w'.heap[b]? =some (.cells cur t (0,0))/\cur.size=cap*s/\ ∀pr':Nat->Nat,rows.length*s<=pr' b->(∀k,pr k<=pr' k)->RepP pr' w' v' (.sl s rows)):=by
 obtain ⟨i0,z,i1,i2,i3,i4,i5⟩:=T.i
 have nz: ∀{v':Value} {w':World},w'.ownsRow w.heap.size (ρ.t 23) s v' 0 []->(v'= .slice none 0 0/\([]:List (List P))=[])∨ ∃b cap cur t,v'= .slice (some ⟨b,0,none⟩) 0 cap/\0<=cap/\w.heap.size<=b/\w'.heap[b]? =some (.cells cur t (0,0))/\cur.size=cap*s/\ ∀pr':Nat->Nat,0*s<=pr' b->(∀k,pr k<=pr' k)->RepP pr' w' v' (.sl s []):=fun ho=>by
   obtain ⟨_,h|⟨g0,c0,cur,h,hg,hw,hn,_,hsz,_⟩⟩:=ho
   · exact .inl ⟨h.1,rfl⟩
   · exact .inr ⟨g0,c0,cur,_,h,hn,hg,hw,hsz,fun pr' _ _=>by rw [h];exact RepP.nils _ _ _⟩
 cases h with
 | nils a cap=>
   cases a with
   | none=>
     refine (Proofs.AnyE.slices_Clone_nil T.L 0 cap w).mono ?_
     rintro e w' ⟨rfl,rfl⟩
     exact ⟨_,rfl,RowKit.Below.refl _ _,.inl ⟨rfl,rfl⟩⟩
   | some a=>
     refine (Proofs.ZjD T.L i0 z s _ i1 i2 i3 rfl i5 T.hs T.z a cap w).mono ?_
     rintro e w' ⟨v',rfl,ho,_,hB⟩
     exact ⟨_,rfl,hB,nz ho⟩
 | sl b o len cap _ _ vs hlen hcap hpr hrl hc hrep=>
   subst hlen
   by_cases he:rows=[]
   · subst he
     refine (Proofs.ZjD T.L i0 z s _ i1 i2 i3 rfl i5 T.hs T.z ⟨b,o,none⟩ cap w).mono ?_
     rintro e w' ⟨v',rfl,ho,_,hB⟩
     exact ⟨_,rfl,hB,nz ho⟩
   have hs:=T.hs
   have hx': ∀i j,i<rows.length->j<s-> ∃x,RepP pr w (vs i j) x/\ ∃row,rows[i]? =some row/\row[j]? =some x:=fun i j hi hj=>by
     have h1:rows[i]? =some rows[i]:=Ya hi
     have h2:=hrl i _ h1
     have h3:rows[i][j]? =some (rows[i][j]'(by omega)):=Ya _
     exact ⟨_,hrep i _ j _ h1 h3,_,h1,h3⟩
   have hget: ∀j u,((List.range (rows.length*s)).map fun k=>vs (k / s) (k % s))[j]? =some u->j<rows.length*s/\u=vs (j / s) (j % s):=fun j u hj=>by
     rw [Yn,YG] at hj
     obtain ⟨k,hk,rfl⟩:=hj
     obtain ⟨h1,rfl⟩:=List.getElem?_eq_some_iff.1 hk
     simp at h1⊢
     exact h1
   have hdiv: ∀j,j<rows.length*s->j / s<rows.length/\j % s<s:=fun j hj=>⟨Nat.div_lt_of_lt_mul (by rw [Nat.mul_comm];exact hj),Nat.mod_lt _ hs⟩
   refine (Proofs.AnyE.slices_Clone T.L i0 z s _ i1 i2 i3 rfl i5 T.hs T.z b o rows.length cap ((List.range (rows.length*s)).map fun k=>vs (k / s) (k % s)) w Zs (by unfold maxLen;omega)
     (Yy (Nat.mul_le_mul hx i4) Zd) (fun j u hj=>?_) (fun u hu=>?_)).mono ?_
   · obtain ⟨h1,rfl⟩:=hget j u hj
     obtain ⟨h2,h3⟩:=hdiv j h1
     have:=hc (j / s) (j % s) h2 h3
     rwa [Nat.add_assoc,Nat.mul_comm,Nat.div_add_mod] at this
   · obtain ⟨j,hj⟩:=List.mem_iff_getElem?.1 hu
     obtain ⟨h1,rfl⟩:=hget j u hj
     obtain ⟨h2,h3⟩:=hdiv j h1
     obtain ⟨x,h4,_⟩:=hx' _ _ h2 h3
     exact h4.one
   rintro e w' ⟨v',rfl,⟨_,ho⟩,hne,hB⟩
   refine ⟨_,rfl,hB,.inr ?_⟩
   rcases ho with ⟨h,_⟩|⟨g0,c0,cur,rfl,hg,hw,hn,_,hsz,ht⟩
   · exact absurd h hne
   refine ⟨g0,c0,cur,_,rfl,hn,hg,hw,hsz,fun pr' hp hq=>?_⟩
   have hk:ZqB pr w w':=fun b' o' v' ho hv=>by
     unfold World.cell? at hv⊢
     split at hv
     · rename_i hh
       have hlt:=Zad hh
       rw [hB.block b' hlt,hh]
       exact hv
     · cases hv
   refine RepP.sl g0 0 rows.length c0 s rows vs rfl hn Zo hrl (fun i j hi hj=>?_) (fun i row j x hi hj=>(hrep i row j x hi hj).mono hk hq)
   rw [Nat.zero_add,ZaH hw]
   have hlt:=Za8 hi hj
   have h4:(cur.toList.take (rows.length*s))[i*s+j]? =some (vs i j):=by
     rw [ht,Yn,List.getElem?_range hlt,YN]
     rw [Nat.mul_comm,Nat.mul_add_div hs,Nat.mul_add_mod,Nat.div_eq_of_lt hj,Nat.mod_eq_of_lt hj,Nat.add_zero]
   rw [YH,if_pos hlt] at h4
   rw [<-Array.getElem?_toList]
   exact h4
def cloT (s:Nat) (args:List A) (os:List (List C)):Option (List A×List (List C)):=match args,os with
 | [.one (.p (.sl s' rows))],[]=>if s'=s/\rows.length<=2147483648 then some ([.one (.tip s rows)],[]) else none
 | _,_=>none
def ZuQ [WI] {ρ:Ren} {s:Nat} (T:ClT ρ s):ZjA Proofs.Tryz.prog (ρ.f 41) (cloT s):=by
 intro args os rs os' hp
 refine ⟨T.e,fun g w vs hr k1 k2 hbox k3 hf hi hT=>?_⟩
 unfold cloT at hp
 split at hp
 ·rename_i s' rows
  split at hp
  ·rename_i hs
   obtain ⟨rfl,hs⟩:=hs
   injection hp with hp
   injection hp with h1 h2
   subst h1 h2
   obtain ⟨v,rfl,hv⟩:=ZjC hr
   have hv:RepP g.pr w v (.sl s' rows):=hv
   refine (Zpb T hv hs).mono ?_
   rintro e w' ⟨v',rfl,hB,⟨rfl,rfl⟩|⟨b,cap,cur,t,rfl,hcap,hb,hb',hsz,h1⟩⟩
   ·exact ⟨_,g,rfl,ZiK hB,rfl,rfl,fun b hb=>hf b (Yy hB.size hb),⟨RepP.nils _ _ _,none,0,rfl,.inl rfl⟩,by simp⟩
   ·have hE:=ZiK (T:=g.T) (pr:=g.pr) (ow:=g.ow) hB
    have hne: ∀k,k<w.heap.size->k≠b:=fun k hk=>by omega
    have hlt:=Zad hb'
    refine ⟨_,{g with pr:=fun k=>if k=b then rows.length*s' else g.pr k,ow:=fun k=>if k=b then some (RESK,0,0) else g.ow k},rfl,
     ⟨hE.os,hE.tape,hE.output,hE.size,hE.blk,fun k hk=>Nat.le_of_eq (if_neg (hne k hk)).symm,fun k hk ho hT=>⟨if_neg (hne k hk),(if_neg (hne k hk)).trans ho⟩,hE.hid⟩,rfl,rfl,fun k hk=>?_,?_,by simp⟩
    ·have:=hf k (Yy hB.size hk)
     exact ⟨(if_neg Zo).trans this.1,(if_neg Zo).trans this.2⟩
    ·refine ⟨h1 _ Zs (fun k=>?_),some ⟨b,0,none⟩,cap,rfl,.inr ⟨b,0,rfl,hcap,?_,if_pos rfl,cur,t,hb',by omega⟩⟩
     ·show g.pr k<=if k=b then rows.length*s' else g.pr k
      split
      ·rename_i hk;subst hk;rw [(hf k hb).1];exact Yd _
      ·exact Yc _
     ·show (if b=b then rows.length*s' else g.pr b)=0+rows.length*s'
      rw [if_pos rfl,Nat.zero_add]
  ·cases hp
 ·cases hp
end Go.Am
end
