/- Part. -/
import Derived.Test.YtmofclmogldnjaaGreatDoorCbr
import Derived.Test.YtmofclmogldnjaaGreatDoorCas
import Derived.Test.YtmofclmogldnjaaGreatDoorCan
import Derived.Test.YtmofclmogldnjaaGreatDoorCaa
import Derived.Shelf.SlicesE.Clone
set_option maxRecDepth 999999
set_option maxHeartbeats 0
set_option linter.all false
section
namespace Go.Am
def ZhA : String := "internal/strconv.uint64pow10"
def Zvj {P:Program} {T:Nat->Prop} {pr pr':Nat->Nat} {ow ow':Nat->Option Loc} {w w':World}
   (h:Lib.TabIs P w ZhA .u64 Lib.pow10Tab/\ ∀g,P.globalNamed ZhA=some g->20<=pr g) (hE:Ext T pr ow w w' pr' ow') (hp: ∀b,pr b<=pr' b):
   Lib.TabIs P w' ZhA .u64 Lib.pow10Tab/\ ∀g,P.globalNamed ZhA=some g->20<=pr' g:=by
 obtain ⟨h1,h2⟩:=h;refine ⟨?_,fun g hg=>Yy (h2 g hg) (hp g)⟩;unfold Lib.TabIs World.var? at h1⊢;cases hg:P.globalNamed ZhA with
 | none=>rw [hg] at h1;simp at h1
 | some g=>
   rw [hg] at h1;simp only [jX] at h1⊢;have h20:=h2 g hg;cases hb:w.heap[g]? with
   | none=>rw [hb] at h1;simp at h1
   | some o=>
     rw [hb] at h1;cases o with
     | cells cs e fz=>
       simp only [Ye] at h1;obtain ⟨o',hb',cs',rfl,hsz,hc⟩:=hE.blk g _ hb;rw [hb'];simp only [Ye];rw [<-h1];have hn:cs.size=20:=by rw [h1];simp [Lib.pow10Tab]
       refine Array.ext hsz fun i hi1 hi2=>?_;have:=hc i Zo;rw [qN hi1,qN hi2] at this;exact qR this
     | _=>simp at h1
instance tabWI:WI where
 I pr w:=(Lib.TabIs Proofs.Tryz.prog w ZhA .u64 Lib.pow10Tab/\ ∀g,Proofs.Tryz.prog.globalNamed ZhA=some g->20<=pr g)/\(∃m,w.cell? ⟨0,0,none⟩=some (.int .i64 m))/\1<=pr 0
 mono:=fun h hE hp=>⟨Zvj h.1 hE hp,let ⟨m,hm⟩:=h.2.1;⟨m,hE.keeps 0 0 _ (by have:=h.2.2;omega) hm⟩,Yy h.2.2 (hp 0)⟩
def ZvN (n:Int):List Nat:=(Lib.itoa n).map UInt8.toNat
def Zn8 {k u:Nat} (h1:1<=k) (h:u<10 ^ k):Lib.nDigits u<=k:=by
 induction k generalizing u with
 | zero=>omega
 | succ k ih=>
   by_cases hu:u<10
   · rw [Lib.nDigits_small hu];omega
   · rw [Lib.nDigits_big hu];by_cases hk:k=0
     · subst hk;simp at h;omega
     · have:=ih (u:=u / 10) Zo (kD (by rw [Nat.pow_succ] at h;omega));omega
def ZqN {n:Int} (h:Fe.In64 n):(ZvN n).length<=20/\(n<0->1<=(ZvN n).length):=by
 unfold Fe.In64 at h;unfold ZvN Lib.itoa;rw [Yh];split
 ·rename_i hn;have:=Zn8 (k:=19) (u:=n.natAbs) Zo Zo;rw [YO,Lib.decDigits_length];omega
 ·have:=Zn8 (k:=19) (u:=n.toNat) Zo Zo;rw [Lib.decDigits_length];omega
def Zu6 {n:Int}:Fe.Byt (ZvN n):=by
 intro c hc;obtain ⟨x,_,rfl⟩:=List.mem_map.1 hc;exact x.toNat_lt
def ZAg (args:List A):Option (List Nat):=match args with
 | [.one (.p (.int .i64 n))]=>if -9223372036854775808<=n/\n<=9223372036854775807 then some (ZvN n) else none
 | _=>none
def ZpA (p:List A->Option (List Nat)) (args:List A) (os:List (List C)):Option (List A×List (List C)):=if os.isEmpty then (p args).map fun t=>([.one (.p (.str t))],[]) else none
def ZpQ (w:World) (k:Nat) (os:Array Obj):RowKit.Below w.heap.size w (Sort.grow (w.drewN k) os):=by
 refine ⟨rfl,rfl,rfl,by simp [Sort.grow,World.drewN],fun i hi=>?_⟩;simp only [Sort.grow,World.drewN];rw [qO hi]
def ZwB:Zf2 Proofs.Tryz.prog 265 (ZpA ZAg):=by
 refine ZqS (by kernel_rfl) fun args t ht g w vs hr hf hi=>?_;unfold ZAg at ht;split at ht
 ·rename_i n;split at ht
  ·rename_i hs;injection ht with ht;subst ht;obtain ⟨v,rfl,hv⟩:=Zih hr;have hv:RepP g.pr w v (.int .i64 n):=hv;cases hv;refine (Proofs.Tryz.strconv_Itoa n hs.1 hs.2 w hi.1.1).mono ?_;rintro e w' ⟨rfl,k,os,rfl⟩;exact ⟨_,rfl,rfl,ZpQ _ _ _⟩
  ·cases ht
 ·cases ht
namespace Fe
variable {S:Nat->Option Fn}
def ZkA {f:Nat} {p:List A->Option (List Nat)} (hS:S f=some (.prim (ZpA p))) {args:List A} {t:List Nat} {Q:List A->List (List C)->Prop} (h:p args=some t) (hq:Q [ps t] []):Gives S f args [] Q:=by
 refine ⟨1,[ps t],[],?_,hq⟩;simp [call,Zja,hS,ZpA,h]
def ZyA (h1:S Zfh=some (.prim (ZpA ZAg))) (h2:S Ze1=some (.prim (ZpA escP))):HasP S where
 itoa n Q hn hQ:=ZkA h1 (t:=ZvN n) (by show (if -9223372036854775808<=n/\n<=9223372036854775807 then some (ZvN n) else none)=_;exact if_pos hn) (hQ _ Zu6 (ZqN hn).1 (ZqN hn).2)
 escaped s Q hs hQ:=ZkA h2 (t:=Zwu s) (by simp only [escP];rw [if_pos (by have:=hs.1;omega)]) (hQ _ (by
     intro c hc;simp only [Zwu,List.mem_flatten,List.mem_map] at hc;obtain ⟨l,⟨x,hx,rfl⟩,hc⟩:=hc;have:=hs.2 x hx;unfold escN at hc;split at hc<;>(try split at hc)<;>(try split at hc)<;>(try split at hc)<;>simp at hc<;>omega) (by
     clear hQ hs
     induction s with
     | nil=>simp [Zwu]
     | cons c l ih=>
       have:(escN c).length<=2:=by unfold escN;split;simp;split;simp;split;simp;split<;>simp
       simp [Zwu] at*;omega))
end Fe
end Go.Am
end
section
namespace Go.Am
section
variable [WI] {Pg:Program}
end
end Go.Am
end
section
namespace Go.Proofs
open Go.Shelf Go.RowKit Go.Lib
variable {P:Program} {ρ:Ren}
def ZJq (L:SlLaysE0.n41 P ρ) (i0:TypeInfo) (z:Value) (size bytes:Nat) (hi:P.info? (ρ.t 23)=some i0) (hz0:i0.zero=some z) (hz1:i0.size=size) (hz2:i0.bytes=bytes) (hzs:z.cells.size=size) (hsz:0<size)
  (z23: ∀w,(Go.sizeOf (ρ.t 23)).run P w= .ok size w) (a:Addr) (c:Nat) (w:World):
  Calls P (ρ.f 41) #[.slice (some a) 0 c] w fun e w'=> ∃v',e= .returned v'/\w'.ownsRow w.heap.size (ρ.t 23) size v' 0 []/\v'≠ .slice none 0 0/\Below w.heap.size w w':=by
 have mixed:=L.mixed;have t4:=L.t4;have a4:=L.a4;have z4:=L.z4;have v4:=L.v4;have t22:=L.t22;have a22:=L.a22;have z22:=L.z22;have v22:=L.v22;have q22: ∀(w:World) (a:Option Addr) (n c n' c':Nat),(binOp .eql (ρ.t 22) (.slice a n c) (.slice none n' c')).run P w= .ok (.bool a.isNone) w:=fun w a n c n' c'=>Lib.run_eql_slice_nil w _ _ a n c n' c' L.t22;have u22: ∀w,Sem.run P (underlying (ρ.t 22)) w= .ok (TypeDesc.slice (ρ.t 23)) w:=run_underlying t22;obtain ⟨_,_,FG⟩:=L.f41
 go_enter FG,SlBodyN.n41_ntmps ρ
 go_wp2_with (at_builtin;refine wpList_append_own _ rfl _ _ (ρ.t 22) rfl w.heap.size (ρ.t 23) i0 z size bytes t22 hi hz0 hz1 hz2 hzs hsz _ _ _ rfl (World.ownsRow_made w #[] 0 (Yc _) (Yd _) Zs) a 0 c [] rfl ?qc1 ?qc2 ?qc3 ?qc4 ?qc5 ?qc6 ?_)
 case qc1=>simp
 case qc2=>intro j u hj;simp at hj
 case qc3=>intro u hu;cases hu
 case qc4=>unfold maxLen;omega
 case qc5=>simp
 case qc6=>simp
 intro v' w1 hown hgrow hnil
 go_wp2
 go_ret
 refine ⟨v',rfl,by simpa using hown,?_,?_⟩
 ·exact hnil
 ·exact ((Below.refl _ w).alloc (Yc _) _).grown hgrow Zs (by intro k hk;simp [Value.ownBlock] at hk;omega)
end Go.Proofs
namespace Go.Am
open Go.Shelf
def RepP.one {pr:Nat->Nat} {w:World} {v:Value} {x:P} (h:RepP pr w v x):v.oneCell'=true:=by cases h<;>rfl
structure ClT (ρ:Ren) (s:Nat):Prop where
 L:Proofs.SlLaysE0.n41 Proofs.Tryz.prog ρ
 e:Zhz Proofs.Tryz.prog (ρ.f 41)=true
 i: ∃i0 z,Proofs.Tryz.prog.info? (ρ.t 23)=some i0/\i0.zero=some z/\i0.size=s/\i0.bytes<=1024/\z.cells.size=s
 hs:0<s
 z: ∀w,(Go.sizeOf (ρ.t 23)).run Proofs.Tryz.prog w= .ok s w
def ZLs {ρ:Ren} {s:Nat} (T:ClT ρ s) {pr:Nat->Nat} {w:World} {v:Value} {rows:List (List P)} (h:RepP pr w v (.sl s rows)) (hx:rows.length<=2147483648):
   Calls Proofs.Tryz.prog (ρ.f 41) #[v] w fun e w'=> ∃v',e= .returned v'/\RowKit.Below w.heap.size w w'/\
     ((rows=[]/\ ∀pr',RepP pr' w' v' (.sl s []))∨ ∃b,w.heap.size<=b/\b<w'.heap.size/\ ∀pr':Nat->Nat,rows.length*s<=pr' b->(∀k,pr k<=pr' k)->RepP pr' w' v' (.sl s rows)):=by
 obtain ⟨i0,z,i1,i2,i3,i4,i5⟩:=T.i;have nz: ∀{v':Value} {w':World},w'.ownsRow w.heap.size (ρ.t 23) s v' 0 []-> ∀pr',RepP pr' w' v' (.sl s []):=fun ho pr'=>by
   obtain ⟨_,h|⟨g0,c0,cur,h,_⟩⟩:=ho
   · rw [h.1];exact RepP.nils _ _ _
   · rw [h];exact RepP.nils _ _ _
 cases h with
 | nils a cap=>
   cases a with
   | none=>
     refine (Proofs.AnyE.slices_Clone_nil T.L 0 cap w).mono ?_;rintro e w' ⟨rfl,rfl⟩;exact ⟨_,rfl,RowKit.Below.refl _ _,.inl ⟨rfl,fun _=>RepP.nils _ _ _⟩⟩
   | some a=>
     refine (Proofs.ZJq T.L i0 z s _ i1 i2 i3 rfl i5 T.hs T.z a cap w).mono ?_;rintro e w' ⟨v',rfl,ho,_,hB⟩;exact ⟨_,rfl,hB,.inl ⟨rfl,nz ho⟩⟩
 | sl b o len cap _ _ vs hlen hcap hpr hrl hc hrep=>
   subst hlen;by_cases he:rows=[]
   · subst he;refine (Proofs.ZJq T.L i0 z s _ i1 i2 i3 rfl i5 T.hs T.z ⟨b,o,none⟩ cap w).mono ?_;rintro e w' ⟨v',rfl,ho,_,hB⟩;exact ⟨_,rfl,hB,.inl ⟨rfl,nz ho⟩⟩
   have hs:=T.hs;have hx': ∀i j,i<rows.length->j<s-> ∃x,RepP pr w (vs i j) x/\ ∃row,rows[i]? =some row/\row[j]? =some x:=fun i j hi hj=>by
     have h1:rows[i]? =some rows[i]:=Ya hi;have h2:=hrl i _ h1;have h3:rows[i][j]? =some (rows[i][j]'(by omega)):=Ya _;exact ⟨_,hrep i _ j _ h1 h3,_,h1,h3⟩
   have hget: ∀j u,((List.range (rows.length*s)).map fun k=>vs (k / s) (k % s))[j]? =some u->j<rows.length*s/\u=vs (j / s) (j % s):=fun j u hj=>by
     rw [Yn,YG] at hj;obtain ⟨k,hk,rfl⟩:=hj;obtain ⟨h1,rfl⟩:=List.getElem?_eq_some_iff.1 hk;simp at h1⊢;exact h1
   have hdiv: ∀j,j<rows.length*s->j / s<rows.length/\j % s<s:=fun j hj=>⟨kD (by rw [kR];exact hj),Nat.mod_lt _ hs⟩
   refine (Proofs.AnyE.slices_Clone T.L i0 z s _ i1 i2 i3 rfl i5 T.hs T.z b o rows.length cap ((List.range (rows.length*s)).map fun k=>vs (k / s) (k % s)) w Zs (by unfold maxLen;omega)
     (Yy (xQ hx i4) Zd) (fun j u hj=>?_) (fun u hu=>?_)).mono ?_
   · obtain ⟨h1,rfl⟩:=hget j u hj;obtain ⟨h2,h3⟩:=hdiv j h1;have:=hc (j / s) (j % s) h2 h3;rwa [jH,kR,Nat.div_add_mod] at this
   · obtain ⟨j,hj⟩:=List.mem_iff_getElem?.1 hu;obtain ⟨h1,rfl⟩:=hget j u hj;obtain ⟨h2,h3⟩:=hdiv j h1;obtain ⟨x,h4,_⟩:=hx' _ _ h2 h3;exact h4.one
   rintro e w' ⟨v',rfl,⟨_,ho⟩,hne,hB⟩;refine ⟨_,rfl,hB,.inr ?_⟩;rcases ho with ⟨h,_⟩|⟨g0,c0,cur,rfl,hg,hw,hn,_,_,ht⟩
   · exact absurd h hne
   refine ⟨g0,hg,ZaB hw,fun pr' hp hq=>?_⟩;have hk:Zz1 pr w w':=fun b' o' v' ho hv=>by
     unfold World.cell? at hv⊢;split at hv
     · rename_i hh;have hlt:=ZaB hh;rw [hB.block b' hlt,hh];exact hv
     · cases hv
   refine RepP.sl g0 0 rows.length c0 s rows vs rfl hn Zo hrl (fun i j hi hj=>?_) (fun i row j x hi hj=>(hrep i row j x hi hj).mono hk hq);rw [jE,cell_of_heap hw];have hlt:=ZdS hi hj;have h4:(cur.toList.take (rows.length*s))[i*s+j]? =some (vs i j):=by
     rw [ht,Yn,kI hlt,YN];rw [kR,Nat.mul_add_div hs,Nat.mul_add_mod,Nat.div_eq_of_lt hj,y5 hj,jL]
   rw [YH,if_pos hlt] at h4;rw [<-qK];exact h4
def cloP (s:Nat) (args:List A):Option (List A):=match args with
 | [.one (.p (.sl s' rows))]=>if s'=s/\rows.length<=2147483648 then some [.one (.p (.sl s rows))] else none
 | _=>none
abbrev ZBS (p:List A->Option (List A)) (args:List A) (os:List (List C)):Option (List A×List (List C)):=if os.isEmpty then (p args).map fun t=>(t,[]) else none
def ZNB {ρ:Ren} {s:Nat} (T:ClT ρ s):Zf2 Proofs.Tryz.prog (ρ.f 41) (ZBS (cloP s)):=by
 intro args os rs os' hp;cases os with
 | cons o os=>simp [ZBS] at hp
 | nil=>
   simp only [ZBS,List.isEmpty_nil,if_true,YG] at hp;obtain ⟨t,ht,e⟩:=hp;injection e with e1 e2;subst e1 e2;refine ⟨T.e,fun g w vs hr k1 k2 k3 k4 hf hi k5=>?_⟩;unfold cloP at ht;split at ht
   · rename_i s' rows;split at ht
     · rename_i hs;obtain ⟨rfl,hs⟩:=hs;injection ht with ht;subst ht;obtain ⟨v,rfl,hv⟩:=Zih hr;have hv:RepP g.pr w v (.sl s' rows):=hv;refine (ZLs T hv hs).mono ?_;rintro e w' ⟨v',rfl,hB,⟨rfl,h1⟩|⟨b,hb,hb',h1⟩⟩
       · exact ⟨_,g,rfl,Znz hB,rfl,rfl,fun b hb=>hf b (Yy hB.size hb),h1 _,by simp⟩
       · have hne: ∀k,k<w.heap.size->(if k=b then rows.length*s' else g.pr k)=g.pr k:=fun k hk=>if_neg Zo;have hE:=Znz (T:=g.T) (pr:=g.pr) (ow:=g.ow) hB;refine ⟨_,{g with pr:=fun k=>if k=b then rows.length*s' else g.pr k},rfl,⟨hE.os,hE.tape,hE.output,hE.size,hE.blk,fun k hk=>Nat.le_of_eq (hne k hk).symm,fun k hk ho hT=>⟨hne k hk,ho⟩,hE.hid⟩,rfl,rfl,fun k hk=>?_,h1 _ Zs (fun k=>?_),by simp⟩
         · have:=hf k (Yy hB.size hk);exact ⟨(if_neg Zo).trans this.1,this.2⟩
         · show g.pr k<=if k=b then rows.length*s' else g.pr k
           split
           · rename_i hk;subst hk;rw [(hf k hb).1];exact Yd _
           · exact Yc _
     · cases ht
   · cases ht
end Go.Am
end
section
namespace Go.Am
open Fe
variable [WI]
def Zna {bs:ByteArray} {l:List Nat} (h:ZbJ bs=l):bs=⟨(l.map UInt8.ofNat).toArray⟩:=by
 subst h;cases bs with
 | mk d=>
   simp only [ZbJ,YL,ByteArray.mk.injEq];have:(UInt8.ofNat∘UInt8.toNat)=id:=by funext x;simp
   rw [this];simp
def Zf5 (l:List Nat):ByteArray:=⟨(l.map UInt8.ofNat).toArray⟩
def Zl2 (xs:List (List Nat)):ByteArray:=⟨(Lib.join ((xs.map Zf5).map (·.data.toList)) [32]).toArray⟩
def Decl (S1:Nat->Option Fn) (row:List P) (xs:List (List Nat)):Prop:= ∃n,call S1 n 197 [.one (.tip 1 []),.agg (row.map C.p)] []=some ([.one (.p (.sl 1 (strs xs)))],[])
def Zrc {pr:Nat->Nat} {w w':World} (hB:RowKit.Below w.heap.size w w'):Zz1 pr w w':=fun b o v _ h=>by
 have hlt:b<w.heap.size:=by
  rcases Yt b w.heap.size with h'|h'
  ·exact h'
  ·simp [World.cell?,jK h'] at h
 rw [<-h];simp only [World.cell?,hB.block b hlt]
def ZrY {w:World} {b o:Nat} {v:Value} (h:w.cell? ⟨b,o,none⟩=some v):b<w.heap.size:=by
 rcases Yt b w.heap.size with h'|h'
 ·exact h'
 ·simp [World.cell?,jK h'] at h
def ZtF {pr:Nat->Nat} {w:World} {v:Value} {xs:List (List Nat)} (h:RepP pr w v (.sl 1 (strs xs))) (hx:xs.length<=2147483648) (hl:(Zl2 xs).size<=2147483648):
   Calls Proofs.Tryz.prog 196 #[v,.string ⟨#[32]⟩] w fun e w'=>e= .returned (.string (Zl2 xs))/\RowKit.Below w.heap.size w w':=by
 generalize hr:strs xs=rows at h;cases h with
 | nils a cap=>
   have:xs=[]:=by cases xs with
     | nil=>rfl
     | cons x l=>simp [strs] at hr
   subst this;refine (Proofs.Tryz.strings_Join_none a cap ⟨#[32]⟩ w).mono ?_;rintro e w' ⟨rfl,rfl⟩;exact ⟨rfl,RowKit.Below.refl _ _⟩
 | sl b o len cap _ _ vs hlen hcap hpr hrl hc hrep=>
   subst hr;by_cases he:xs=[]
   · subst he;have:len=0:=by simpa using hlen
     subst this;refine (Proofs.Tryz.strings_Join_none _ cap ⟨#[32]⟩ w).mono ?_;rintro e w' ⟨rfl,rfl⟩;exact ⟨rfl,RowKit.Below.refl _ _⟩
   have hlen:len=xs.length:=by simpa using hlen
   subst hlen;have hp:0<xs.length:=List.length_pos_iff.2 he;have hb:=ZrY (hc 0 0 hp Zd);have hcell: ∀(j:Nat) x,(xs.map Zf5)[j]? =some x->w.cell? ⟨b,o+j,none⟩=some (.string x):=fun j x hj=>by
     rw [Yn,YG] at hj;obtain ⟨y,hy,rfl⟩:=hj;have hj2:=Zaq hy;have h1:=hc j 0 hj2 Zd;have h2:=hrep j [.str y] 0 (.str y) (by simp [strs,hy]) rfl;rw [Nat.mul_one,jL] at h1;rw [h1];generalize vs j 0=u at h2⊢;cases h2 with
     | str bs t h=>rw [Zna h];rfl
   have hsz:(Lib.join ((xs.map Zf5).map (·.data.toList)) [32]).length<=140737488355328:=by
     have:(Zl2 xs).size=(Lib.join ((xs.map Zf5).map (·.data.toList)) [32]).length:=by simp [Zl2,ByteArray.size]
     omega
   have hm:(xs.map Zf5).length=xs.length:=Yh ..;have:=Proofs.Tryz.strings_Join b o cap (xs.map Zf5) ⟨#[32]⟩ w hcell hb Zo Zo hsz;rw [hm] at this;exact this
theorem Zuh {S1:Nat->Option Fn} (hS: ∀n,Zcv Proofs.Tryz.prog (call S1 n)) {g:G} {w wr:World} (hf:ZnQ g.pr g.ow w) (hi:WI.I g.pr w) (hB:RowKit.Below w.heap.size w wr)
   {row:List P} {vs:Array Value} (hvs:vs.size=row.length) (hrep: ∀(j:Nat) v x,vs[j]? =some v->row[j]? =some x->RepP g.pr w v x) {xs:List (List Nat)} (hd:Decl S1 row xs) (hx:xs.length<=2147483648) (hl:(Zl2 xs).size<=2147483648):
   Calls Proofs.Tryz.prog 197 #[.slice none 0 0,.agg vs] wr fun e w1=> ∃v,e= .returned v/\RowKit.Below wr.heap.size wr w1/\Calls Proofs.Tryz.prog 196 #[v,.string ⟨#[32]⟩] w1 fun e2 w2=>e2= .returned (.string (Zl2 xs))/\RowKit.Below w1.heap.size w1 w2:=by
 obtain ⟨n,hn⟩:=hd;obtain ⟨_,hC⟩:=hS n _ _ _ _ _ hn;have hk:=Zrc (pr:=g.pr) hB;refine (hC ⟨g.nt,fun b=>wr.heap.size<=b∨ ∃i,i<([]:List (List C)).length/\b=g.ω i,g.pr,fun _=>none,g.β,g.ω⟩ wr [.slice none 0 0,.agg vs] ?_ ?_ Zs Zs Zs (fun b hb=>⟨(hf b (Yy hB.size hb)).1,rfl⟩) ?_ rfl).mono ?_
 · refine ⟨rfl,fun j u x hu hx=>?_⟩
   match j with
   | 0=>
     injection hu with hu;injection hx with hx;subst hu hx;exact ⟨RepP.nils none 0 1,none,0,rfl,.inl rfl⟩
   | 1=>
     injection hu with hu;injection hx with hx;subst hu hx;refine ⟨vs,rfl,by simp [hvs],fun i u x hu hx=>?_⟩;rw [Yn,YG] at hx;obtain ⟨y,hy,rfl⟩:=hx;exact (hrep i u y (by simpa using hu) hy).mono hk fun _=>Yc _
   | j+2=>simp at hu
 · intro x hx;simp only [Yv,kL,or_false] at hx;rcases hx with rfl|rfl
   · rfl
   · simp [A.clean,A.cells,C.clean]
 · exact WI.mono (T:=g.T) (ow:=g.ow) (ow':=g.ow) hi (Znz hB) fun _=>Yc _
 · rintro e w1 ⟨v,g',rfl,hE,_,_,_,hr,_⟩;have hr:RepP g'.pr w1 v (.sl 1 (strs xs)):=hr;refine ⟨v,rfl,⟨hE.os,hE.tape,hE.output,hE.size,fun b hb=>hE.hid b hb rfl ?_⟩,ZtF hr hx hl⟩;rintro (h|⟨i,h,_⟩)
   · omega
   · simp at h
open Classical in
noncomputable def ZiN (S1:Nat->Option Fn) (row:List P):List (List Nat):=if h: ∃xs,Decl S1 row xs then h.choose else []
def Znq {S1:Nat->Option Fn} {row:List P} (h: ∃xs,Decl S1 row xs):Decl S1 row (ZiN S1 row):=by
 unfold ZiN;rw [dif_pos h];exact h.choose_spec
noncomputable def Zn9 (S1:Nat->Option Fn) (ls:List (List P)) (k:Nat):ByteArray:=if (Zl2 (ZiN S1 (ls.getD k []))).size<=2147483648 then Zl2 (ZiN S1 (ls.getD k [])) else ⟨#[]⟩
def ZrJ (S1:Nat->Option Fn) (row:List P):Prop:=row.length=10/\(∃xs,Decl S1 row xs)/\(ZiN S1 row).length<=2147483648/\(Zl2 (ZiN S1 row)).size<=2147483648
noncomputable def Zrn (S1:Nat->Option Fn) (ls:List (List P)):List Nat:=(Proofs.Tryz.text (Zn9 S1 ls) ls.length).map UInt8.toNat
open Classical in
noncomputable def Zpr (S1:Nat->Option Fn) (args:List A):Option (List Nat):=match args with
 | [.agg [_,_,_,_,_,_,_,_,.p (.sl 10 ls),_]]=>if ls.length<=30000/\ ∀row∈ls,ZrJ S1 row then some (Zrn S1 ls) else none
 | _=>none
theorem ZqO {S1:Nat->Option Fn} (hS: ∀n,Zcv Proofs.Tryz.prog (call S1 n)):Zf2 Proofs.Tryz.prog 115 (ZpA (Zpr S1)):=by
 refine ZqS (by kernel_rfl) fun args t ht g w vs hr hf hi=>?_;unfold Zpr at ht;split at ht
 · rename_i c0 c1 c2 c3 c4 c5 c6 c7 ls c9;split at ht
   · rename_i hs;injection ht with ht;subst ht;obtain ⟨hlen,hrow⟩:=hs;obtain ⟨v,rfl,hv⟩:=Zih hr;obtain ⟨arr,rfl,hsz,hcs⟩:=hv;obtain ⟨v0,v1,v2,v3,v4,v5,v6,v7,v8,v9,rfl⟩: ∃v0 v1 v2 v3 v4 v5 v6 v7 v8 v9,arr= #[v0,v1,v2,v3,v4,v5,v6,v7,v8,v9]:=by
       cases arr with
       | mk l=>
         match l,hsz with
         | [v0,v1,v2,v3,v4,v5,v6,v7,v8,v9],_=>exact ⟨v0,v1,v2,v3,v4,v5,v6,v7,v8,v9,rfl⟩
     have h8:RepP g.pr w v8 (.sl 10 ls):=hcs 8 v8 _ rfl rfl;have hD: ∀k,(Zn9 S1 ls k).size<=2147483648:=fun k=>by
       unfold Zn9;split
       · assumption
       · exact Yd _
     have key: ∀(k:Nat) (wr:World) (u:Array Value),k<ls.length->RowKit.Below w.heap.size w wr->u.size=10->(∀row,ls[k]? =some row-> ∀(j:Nat) v x,u[j]? =some v->row[j]? =some x->RepP g.pr w v x)->
         Calls Proofs.Tryz.prog 197 #[.slice none 0 0,.agg u] wr fun e w1=> ∃v,e= .returned v/\RowKit.Below wr.heap.size wr w1/\Calls Proofs.Tryz.prog 196 #[v,.string ⟨#[32]⟩] w1 fun e2 w2=>e2= .returned (.string (Zn9 S1 ls k))/\RowKit.Below w1.heap.size w1 w2:=fun k wr u hk hB hu hrep=>by
       have hg:ls[k]? =some ls[k]:=Ya hk;obtain ⟨d1,d2,d3,d4⟩:=hrow _ (Yl hk);have he:Zn9 S1 ls k=Zl2 (ZiN S1 ls[k]):=by
         unfold Zn9;rw [List.getD_eq_getElem?_getD,hg];exact if_pos d4
       rw [he];exact Zuh hS hf hi hB Zo (hrep _ hg) (Znq d2) d3 d4
     have fin: ∀(e:Ending) (w':World),(e= .returned (.string ⟨(Proofs.Tryz.text (Zn9 S1 ls) ls.length).toArray⟩)/\RowKit.Below w.heap.size w w')-> ∃bs:ByteArray,e= .returned (.string bs)/\ZbJ bs=Zrn S1 ls/\RowKit.Below w.heap.size w w':=fun e w' ⟨h1,h2⟩=>⟨_,h1,rfl,h2⟩
     cases h8 with
     | nils a cap=>
       exact (Proofs.Tryz.print_walk (Zn9 S1 []) hD v0 v1 v2 v3 v4 v5 v6 v7 v9 a 0 0 0 cap (fun h=>absurd h Zd) (fun _ _=> .bool false) Zd (fun _=>Yd _) w (fun i j h=>absurd h (YI _)) (fun k wr h=>absurd h (YI _))).mono fin
     | sl b o len cap _ _ vv hl hcap hpr hrl hc hrep=>
       subst hl;refine (Proofs.Tryz.print_walk (Zn9 S1 ls) hD v0 v1 v2 v3 v4 v5 v6 v7 v9 (some ⟨b,o,none⟩) b o ls.length cap (fun _=>rfl) vv hlen (fun _=>hcap) w hc (fun k wr hk hB=>key k wr _ hk hB rfl fun row hrw j v x hv hx=>?_)).mono fin;have:=hrep k row j x hrw hx;have hj:j<10:=by have:=Zaq hx;rw [hrl k row hrw] at this;exact this
       match j,hj with
       | 0,_=>injection hv with hv;subst hv;exact this
       | 1,_=>injection hv with hv;subst hv;exact this
       | 2,_=>injection hv with hv;subst hv;exact this
       | 3,_=>injection hv with hv;subst hv;exact this
       | 4,_=>injection hv with hv;subst hv;exact this
       | 5,_=>injection hv with hv;subst hv;exact this
       | 6,_=>injection hv with hv;subst hv;exact this
       | 7,_=>injection hv with hv;subst hv;exact this
       | 8,_=>injection hv with hv;subst hv;exact this
       | 9,_=>injection hv with hv;subst hv;exact this
   · cases ht
 · cases ht
end Go.Am
end
section
namespace Go.Am
open Fe
def Zrq:List (List P)->Option (List (List Nat))
 | []=>some []
 | [.str s]::l=>(Zrq l).map (s:: ·)
 | _=>none
theorem ZnM: ∀{rows:List (List P)} {xs:List (List Nat)},Zrq rows=some xs->strs xs=rows
 | [],xs,h=>by simp [Zrq] at h;subst h;rfl
 | r::l,xs,h=>by
   match r,h with
   | [.str s],h=>
     have h:(Zrq l).map (s:: ·)=some xs:=h;rw [YG] at h;obtain ⟨ys,h1,rfl⟩:=h;rw [<-ZnM h1];rfl
end Go.Am
end
