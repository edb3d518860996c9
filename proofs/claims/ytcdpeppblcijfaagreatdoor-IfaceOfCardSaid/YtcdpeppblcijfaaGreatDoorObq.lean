/- Part. -/
import Derived.Test.YtcdpeppblcijfaaGreatDoorObp
import Derived.Test.YtcdpeppblcijfaaGreatDoorOav
import Derived.Test.YtcdpeppblcijfaaGreatDoorOaq
import Derived.Test.YtcdpeppblcijfaaGreatDoorOaa
import Derived.WalkKit
import Derived.BigCall
set_option maxRecDepth 999999
set_option maxHeartbeats 0
set_option linter.all false
section
namespace Go.Am
def ZhA : String := "internal/strconv.uint64pow10"
def Zvj {P:Program} {T:Nat->Prop} {pr pr':Nat->Nat} {ow ow':Nat->Option Loc} {w w':World}
   (h:Lib.TabIs P w ZhA .u64 Lib.pow10Tab/\ ∀g,P.globalNamed ZhA=some g->20<=pr g) (hE:Ext T pr ow w w' pr' ow') (hp: ∀b,pr b<=pr' b):
   Lib.TabIs P w' ZhA .u64 Lib.pow10Tab/\ ∀g,P.globalNamed ZhA=some g->20<=pr' g:=by
 obtain ⟨h1,h2⟩:=h
 refine ⟨?_,fun g hg=>Yy (h2 g hg) (hp g)⟩
 unfold Lib.TabIs World.var? at h1⊢
 cases hg:P.globalNamed ZhA with
 | none=>rw [hg] at h1;simp at h1
 | some g=>
   rw [hg] at h1
   simp only [Option.bind_some] at h1⊢
   have h20:=h2 g hg
   cases hb:w.heap[g]? with
   | none=>rw [hb] at h1;simp at h1
   | some o=>
     rw [hb] at h1
     cases o with
     | cells cs e fz=>
       simp only [Ye] at h1
       obtain ⟨o',hb',cs',rfl,hsz,hc⟩:=hE.blk g _ hb
       rw [hb']
       simp only [Ye]
       rw [<-h1]
       have hn:cs.size=20:=by rw [h1];simp [Lib.pow10Tab]
       refine Array.ext hsz fun i hi1 hi2=>?_
       have:=hc i Zo
       rw [Array.getElem?_eq_getElem hi1,Array.getElem?_eq_getElem hi2] at this
       exact Option.some.inj this
     | _=>simp at h1
instance tabWI:WI where
 I pr w:=(Lib.TabIs Proofs.Tryz.prog w ZhA .u64 Lib.pow10Tab/\ ∀g,Proofs.Tryz.prog.globalNamed ZhA=some g->20<=pr g)/\(∃m,w.cell? ⟨0,0,none⟩=some (.int .i64 m))/\1<=pr 0
 mono:=fun h hE hp=>⟨Zvj h.1 hE hp,let ⟨m,hm⟩:=h.2.1;⟨m,hE.keeps 0 0 _ (by have:=h.2.2;omega) hm⟩,Yy h.2.2 (hp 0)⟩
def ZvN (n:Int):List Nat:=(Lib.itoa n).map UInt8.toNat
def Zn8 {k u:Nat} (h1:1<=k) (h:u<10 ^ k):Lib.nDigits u<=k:=by
 induction k generalizing u with
 | zero=>omega
 | succ k ih=>
   by_cases hu:u<10
   · rw [Lib.nDigits_small hu];omega
   · rw [Lib.nDigits_big hu]
     by_cases hk:k=0
     · subst hk;simp at h;omega
     · have:=ih (u:=u / 10) Zo (Nat.div_lt_of_lt_mul (by rw [Nat.pow_succ] at h;omega))
       omega
def ZqN {n:Int} (h:Fe.In64 n):(ZvN n).length<=20/\(n<0->1<=(ZvN n).length):=by
 unfold Fe.In64 at h
 unfold ZvN Lib.itoa
 rw [Yh]
 split
 ·rename_i hn
  have:=Zn8 (k:=19) (u:=n.natAbs) Zo Zo
  rw [YN,Lib.decDigits_length]
  omega
 ·have:=Zn8 (k:=19) (u:=n.toNat) Zo Zo
  rw [Lib.decDigits_length]
  omega
def Zu6 {n:Int}:Fe.Byt (ZvN n):=by
 intro c hc
 obtain ⟨x,_,rfl⟩:=List.mem_map.1 hc
 exact x.toNat_lt
def ZAg (args:List A):Option (List Nat):=match args with
 | [.one (.p (.int .i64 n))]=>if -9223372036854775808<=n/\n<=9223372036854775807 then some (ZvN n) else none
 | _=>none
def ZpA (p:List A->Option (List Nat)) (args:List A) (os:List (List C)):Option (List A×List (List C)):=if os.isEmpty then (p args).map fun t=>([.one (.p (.str t))],[]) else none
def ZpQ (w:World) (k:Nat) (os:Array Obj):RowKit.Below w.heap.size w (Sort.grow (w.drewN k) os):=by
 refine ⟨rfl,rfl,rfl,by simp [Sort.grow,World.drewN],fun i hi=>?_⟩
 simp only [Sort.grow,World.drewN]
 rw [Array.getElem?_append_left hi]
def ZwB:Zf2 Proofs.Tryz.prog 349 (ZpA ZAg):=by
 refine ZqS (by kernel_rfl) fun args t ht g w vs hr hf hi=>?_
 unfold ZAg at ht
 split at ht
 ·rename_i n
  split at ht
  ·rename_i hs
   injection ht with ht
   subst ht
   obtain ⟨v,rfl,hv⟩:=Zih hr
   have hv:RepP g.pr w v (.int .i64 n):=hv
   cases hv
   refine (Proofs.Tryz.strconv_Itoa n hs.1 hs.2 w hi.1.1).mono ?_
   rintro e w' ⟨rfl,k,os,rfl⟩
   exact ⟨_,rfl,rfl,ZpQ _ _ _⟩
  ·cases ht
 ·cases ht
namespace Fe
variable {S:Nat->Option Fn}
def ZkA {f:Nat} {p:List A->Option (List Nat)} (hS:S f=some (.prim (ZpA p))) {args:List A} {t:List Nat} {Q:List A->List (List C)->Prop} (h:p args=some t) (hq:Q [ps t] []):Gives S f args [] Q:=by
 refine ⟨1,[ps t],[],?_,hq⟩
 simp [call,Zja,hS,ZpA,h]
def ZyA (h1:S Zfh=some (.prim (ZpA ZAg))) (h2:S Ze1=some (.prim (ZpA escP))):HasP S where
 itoa n Q hn hQ:=ZkA h1 (t:=ZvN n) (by show (if -9223372036854775808<=n/\n<=9223372036854775807 then some (ZvN n) else none)=_;exact if_pos hn) (hQ _ Zu6 (ZqN hn).1 (ZqN hn).2)
 escaped s Q hs hQ:=ZkA h2 (t:=Zwu s) (by simp only [escP];rw [if_pos (by have:=hs.1;omega)]) (hQ _ (by
     intro c hc
     simp only [Zwu,List.mem_flatten,List.mem_map] at hc
     obtain ⟨l,⟨x,hx,rfl⟩,hc⟩:=hc
     have:=hs.2 x hx
     unfold escN at hc
     split at hc<;>(try split at hc)<;>(try split at hc)<;>(try split at hc)<;>simp at hc<;>omega) (by
     clear hQ hs
     induction s with
     | nil=>simp [Zwu]
     | cons c l ih=>
       have:(escN c).length<=2:=by unfold escN;split;simp;split;simp;split;simp;split<;>simp
       simp [Zwu] at*;omega))
end Fe
end Go.Am
end
section
namespace Go.Am
section
variable [WI] {Pg:Program}
def ZAQ {f:Nat} {p:List A->Option (List A)} (hE:Zhz Pg f=true)
   (h: ∀args rs,p args=some rs-> ∀(g:G) (w:World) (vs:List Value),ZdP g w vs args->ZnQ g.pr g.ow w->WI.I g.pr w->
     Calls Pg f vs.toArray w fun e w'=> ∃v,e= .returned v/\RowKit.Below w.heap.size w w'/\RepD g w' RESK v (resD rs)):
   Zf2 Pg f fun args os=>if os.isEmpty then (p args).map fun t=>(t,[]) else none:=by
 intro args os rs os' hp
 cases os with
 | cons o os=>simp at hp
 | nil=>
   simp only [List.isEmpty_nil,if_true,YF] at hp
   obtain ⟨t,ht,e⟩:=hp
   injection e with e1 e2
   subst e1 e2
   refine ⟨hE,fun g w vs hr _ _ _ _ hf hi _=>(h args t ht g w vs hr hf hi).mono ?_⟩
   rintro e w' ⟨v,rfl,hB,hR⟩
   exact ⟨_,g,rfl,Znz hB,rfl,rfl,fun b hb=>hf b (Yy hB.size hb),hR,by simp⟩
end
def ZvD: ∀(a b:List UInt8),Lib.compareBytes a b=cmpN (a.map UInt8.toNat) (b.map UInt8.toNat)
 | [],[]=>rfl
 | [],_::_=>rfl
 | _::_,[]=>rfl
 | a::l1,b::l2=>by
   simp only [Lib.compareBytes,Yp,cmpN,UInt8.lt_iff_toNat_lt,ZvD l1 l2]
def cmpP (args:List A):Option (List A):=match args with
 | [.one (.p (.str a)),.one (.p (.str b))]=>some [.one (.p (.int .i64 (cmpN a b)))]
 | _=>none
def ZxV:Zf2 Proofs.Tryz.prog 317 fun args os=>if os.isEmpty then (cmpP args).map fun t=>(t,[]) else none:=by
 refine ZAQ (by kernel_rfl) fun args t ht g w vs hr hf hi=>?_
 unfold cmpP at ht
 split at ht
 ·rename_i a b
  injection ht with ht
  subst ht
  obtain ⟨v,u,rfl,hv,hu⟩:=ZkJ hr
  obtain ⟨x,rfl,hx⟩:=ZrQ hv
  obtain ⟨y,rfl,hy⟩:=ZrQ hu
  refine (Proofs.Tryz.bytealg_CompareString x y w).mono ?_
  rintro e w' ⟨rfl,rfl⟩
  refine ⟨_,rfl,RowKit.Below.refl _ _,?_⟩
  have:Lib.compareBytes x.data.toList y.data.toList=cmpN a b:=by rw [ZvD,<-hx,<-hy];rfl
  rw [this]
  exact RepP.int _ _
 ·cases ht
end Go.Am
end
section
namespace Go.Am
def ZF0: ∀l:List UInt8,Lib.index l [47]=if (l.map UInt8.toNat).elem 47 then (((l.map UInt8.toNat).takeWhile (· !=47)).length:Int) else -1
 | []=>rfl
 | b::l=>by
   have h:=ZF0 l
   by_cases hb:b=47
   · subst hb;rfl
   · have hn:b.toNat≠47:=fun e=>hb (UInt8.toNat_inj.1 e)
     have h1:([47]:List UInt8).isPrefixOf (b::l)=false:=by simp only [List.isPrefixOf,Bool.and_true];exact beq_false_of_ne fun e=>hb e.symm
     unfold Lib.index
     rw [h1,h]
     have h2:((b::l).map UInt8.toNat).elem 47=(l.map UInt8.toNat).elem 47:=by
       rw [Yp,List.elem_cons,show (47==b.toNat)=false from beq_false_of_ne fun e=>hn e.symm]
     have h3:((b::l).map UInt8.toNat).takeWhile (· !=47)=b.toNat::(l.map UInt8.toNat).takeWhile (· !=47):=by simp [List.takeWhile_cons,hn]
     rw [h2,h3]
     cases (l.map UInt8.toNat).elem 47 with
     | true=>
       simp
     | false=>rfl
def ZEN {α:Type} {p:α->Bool}: ∀l:List α,l.take (l.takeWhile p).length=l.takeWhile p
 | []=>rfl
 | a::l=>by
   rw [List.takeWhile_cons]
   split
   · rw [YN,List.take_succ_cons,ZEN l]
   · rfl
def ZEZ: ∀{l:List Nat},l.elem 47=false->l.takeWhile (· !=47)=l
 | [],_=>rfl
 | a::l,h=>by
   have h1:a≠47:=fun e=>by subst e;exact absurd h Zs
   have h2:l.elem 47=false:=by
     simp at h⊢
     exact h.2
   have h3:=ZEZ h2
   simp [List.takeWhile_cons,h1,h3]
def ZGX (l:List UInt8):(Lib.cut l [47]).1.map UInt8.toNat=(l.map UInt8.toNat).takeWhile (· !=47)/\(Lib.cut l [47]).2.2=(l.map UInt8.toNat).elem 47:=by
 unfold Lib.cut
 rw [ZF0]
 cases h:(l.map UInt8.toNat).elem 47 with
 | true=>
   rw [if_pos rfl,if_pos (Int.natCast_nonneg _)]
   refine ⟨?_,rfl⟩
   show (l.take _).map _=_
   rw [Int.toNat_natCast,List.map_take,ZEN]
 | false=>exact ⟨(ZEZ h).symm,rfl⟩
def cutP (args:List A):Option (List A):=match args with
 | [.one (.p (.str s)),.one (.p (.str [47]))]=>if s.length<4294967281 then some [.one (.p (.str (s.takeWhile (· !=47)))),.one (.p (.str ((Lib.cut (s.map UInt8.ofNat) [47]).2.1.map UInt8.toNat))),.one (.p (.bool (s.elem 47)))] else none
 | _=>none
def Zmw {bs:ByteArray} {l:List Nat} (h:ZbJ bs=l):bs.data.toList=l.map UInt8.ofNat:=by
 rw [<-h,ZbJ,YK]
 have:(UInt8.ofNat∘UInt8.toNat)=id:=by funext x;simp
 rw [this,List.map_id]
def ZrI (w:World) (n:Nat):RowKit.Below w.heap.size w (w.drewN n):=⟨rfl,rfl,rfl,Yc _,fun _ _=>rfl⟩
theorem Zzq:Zf2 Proofs.Tryz.prog 143 fun args os=>if os.isEmpty then (cutP args).map fun t=>(t,[]) else none:=by
 refine ZAQ (by kernel_rfl) fun args t ht g w vs hr hf hi=>?_
 unfold cutP at ht
 split at ht
 ·rename_i s
  split at ht
  ·rename_i hs
   injection ht with ht
   subst ht
   obtain ⟨v,u,rfl,hv,hu⟩:=ZkJ hr
   obtain ⟨x,rfl,hx⟩:=ZrQ hv
   obtain ⟨y,rfl,hy⟩:=ZrQ hu
   obtain ⟨m,hm⟩:=hi.2.1
   have hsz:x.size<4294967281:=by
    have h1:(ZbJ x).length=x.size:=by rw [ZbJ,Yh,Array.length_toList];rfl
    rw [hx] at h1;omega
   refine (Proofs.Tryz.strings_Cut x y m w hsz hm).mono ?_
   rintro e w' ⟨rfl,n,rfl⟩
   have hy':y.data.toList=[47]:=Zmw hy
   obtain ⟨c1,c2⟩:=ZGX x.data.toList
   have hx':x.data.toList.map UInt8.toNat=s:=hx
   rw [hx'] at c1 c2
   rw [hy',<-c1,<-c2,<-Zmw hx]
   refine ⟨_,rfl,ZrI _ _,_,rfl,rfl,fun j u q hu hq=>?_⟩
   match j with
   | 0=>injection hu with hu;injection hq with hq;subst hu hq;exact RepP.str _ _ rfl
   | 1=>injection hu with hu;injection hq with hq;subst hu hq;exact RepP.str _ _ rfl
   | 2=>injection hu with hu;injection hq with hq;subst hu hq;exact RepP.bool _
   | j+3=>simp at hu
  ·cases ht
 ·cases ht
def ixN (s:List Nat) (c:Nat):Int:=if s.elem c then ((s.idxOf c:Nat):Int) else -1
def ZJl (c:UInt8): ∀l:List UInt8,Lib.indexByte l c=ixN (l.map UInt8.toNat) c.toNat
 | []=>rfl
 | b::l=>by
   have h:=ZJl c l
   unfold Lib.indexByte
   rw [h]
   by_cases hb:b=c
   · subst hb
     simp [ixN]
   · have hn:b.toNat≠c.toNat:=fun e=>hb (UInt8.toNat_inj.1 e)
     have h1:(b==c)=false:=beq_false_of_ne hb
     have h2:((b::l).map UInt8.toNat).elem c.toNat=(l.map UInt8.toNat).elem c.toNat:=by
       rw [Yp,List.elem_cons,show (c.toNat==b.toNat)=false from beq_false_of_ne fun e=>hn e.symm]
     have h3:((b::l).map UInt8.toNat).idxOf c.toNat=(l.map UInt8.toNat).idxOf c.toNat+1:=by
       rw [Yp,List.idxOf_cons,beq_false_of_ne hn];rfl
     unfold ixN
     rw [h1,h2,h3]
     cases (l.map UInt8.toNat).elem c.toNat with
     | true=>simp
     | false=>rfl
def ixP (args:List A):Option (List A):=match args with
 | [.one (.p (.str s)),.one (.p (.int .u8 c))]=>if 0<=c/\c<256 then some [.one (.p (.int .i64 (ixN s c.toNat)))] else none
 | _=>none
def ZLX:Zf2 Proofs.Tryz.prog 63 fun args os=>if os.isEmpty then (ixP args).map fun t=>(t,[]) else none:=by
 refine ZAQ (by kernel_rfl) fun args t ht g w vs hr hf hi=>?_
 unfold ixP at ht
 split at ht
 ·rename_i s c
  split at ht
  ·rename_i hc
   injection ht with ht
   subst ht
   obtain ⟨v,u,rfl,hv,hu⟩:=ZkJ hr
   obtain ⟨x,rfl,hx⟩:=ZrQ hv
   have hu':u= .int .u8 c:=by
    have h':RepP g.pr w u (.int .u8 c):=hu
    cases h';rfl
   subst hu'
   refine (Proofs.Tryz.strings_IndexByte x c w).mono ?_
   rintro e w' ⟨rfl,rfl⟩
   have hx':x.data.toList.map UInt8.toNat=s:=hx
   have hc':c.toNat.toUInt8.toNat=c.toNat:=by
    have:c.toNat<256:=by omega
    simp [Nat.toUInt8,this]
   rw [ZJl,hx',hc']
   exact ⟨_,rfl,RowKit.Below.refl _ _,RepP.int _ _⟩
  ·cases ht
 ·cases ht
end Go.Am
end
section
namespace Go.Am
open Fe
variable [WI]
def Zna {bs:ByteArray} {l:List Nat} (h:ZbJ bs=l):bs=⟨(l.map UInt8.ofNat).toArray⟩:=by
 subst h
 cases bs with
 | mk d=>
   simp only [ZbJ,YK,ByteArray.mk.injEq]
   have:(UInt8.ofNat∘UInt8.toNat)=id:=by funext x;simp
   rw [this];simp
def Zf5 (l:List Nat):ByteArray:=⟨(l.map UInt8.ofNat).toArray⟩
def Zl2 (xs:List (List Nat)):ByteArray:=⟨(Lib.join ((xs.map Zf5).map (·.data.toList)) [32]).toArray⟩
def Decl (S1:Nat->Option Fn) (row:List P) (xs:List (List Nat)):Prop:= ∃n,call S1 n 294 [.one (.tip 1 []),.agg (row.map C.p)] []=some ([.one (.p (.sl 1 (strs xs)))],[])
def Zrc {pr:Nat->Nat} {w w':World} (hB:RowKit.Below w.heap.size w w'):Zz1 pr w w':=fun b o v _ h=>by
 have hlt:b<w.heap.size:=by
  rcases Yt b w.heap.size with h'|h'
  ·exact h'
  ·simp [World.cell?,Array.getElem?_eq_none h'] at h
 rw [<-h];simp only [World.cell?,hB.block b hlt]
def ZrY {w:World} {b o:Nat} {v:Value} (h:w.cell? ⟨b,o,none⟩=some v):b<w.heap.size:=by
 rcases Yt b w.heap.size with h'|h'
 ·exact h'
 ·simp [World.cell?,Array.getElem?_eq_none h'] at h
def ZtF {pr:Nat->Nat} {w:World} {v:Value} {xs:List (List Nat)} (h:RepP pr w v (.sl 1 (strs xs))) (hx:xs.length<=2147483648) (hl:(Zl2 xs).size<=2147483648):
   Calls Proofs.Tryz.prog 133 #[v,.string ⟨#[32]⟩] w fun e w'=>e= .returned (.string (Zl2 xs))/\RowKit.Below w.heap.size w w':=by
 generalize hr:strs xs=rows at h
 cases h with
 | nils a cap=>
   have:xs=[]:=by cases xs with
     | nil=>rfl
     | cons x l=>simp [strs] at hr
   subst this
   refine (Proofs.Tryz.strings_Join_none a cap ⟨#[32]⟩ w).mono ?_
   rintro e w' ⟨rfl,rfl⟩
   exact ⟨rfl,RowKit.Below.refl _ _⟩
 | sl b o len cap _ _ vs hlen hcap hpr hrl hc hrep=>
   subst hr
   by_cases he:xs=[]
   · subst he
     have:len=0:=by simpa using hlen
     subst this
     refine (Proofs.Tryz.strings_Join_none _ cap ⟨#[32]⟩ w).mono ?_
     rintro e w' ⟨rfl,rfl⟩
     exact ⟨rfl,RowKit.Below.refl _ _⟩
   have hlen:len=xs.length:=by simpa using hlen
   subst hlen
   have hp:0<xs.length:=List.length_pos_iff.2 he
   have hb:=ZrY (hc 0 0 hp Zd)
   have hcell: ∀(j:Nat) x,(xs.map Zf5)[j]? =some x->w.cell? ⟨b,o+j,none⟩=some (.string x):=fun j x hj=>by
     rw [Yn,YF] at hj
     obtain ⟨y,hy,rfl⟩:=hj
     have hj2:=Zaq hy
     have h1:=hc j 0 hj2 Zd
     have h2:=hrep j [.str y] 0 (.str y) (by simp [strs,hy]) rfl
     rw [Nat.mul_one,Nat.add_zero] at h1
     rw [h1]
     generalize vs j 0=u at h2⊢
     cases h2 with
     | str bs t h=>rw [Zna h];rfl
   have hsz:(Lib.join ((xs.map Zf5).map (·.data.toList)) [32]).length<=140737488355328:=by
     have:(Zl2 xs).size=(Lib.join ((xs.map Zf5).map (·.data.toList)) [32]).length:=by simp [Zl2,ByteArray.size]
     omega
   have hm:(xs.map Zf5).length=xs.length:=Yh ..
   have:=Proofs.Tryz.strings_Join b o cap (xs.map Zf5) ⟨#[32]⟩ w hcell hb Zo Zo hsz
   rw [hm] at this
   exact this
theorem Zuh {S1:Nat->Option Fn} (hS: ∀n,Zcv Proofs.Tryz.prog (call S1 n)) {g:G} {w wr:World} (hf:ZnQ g.pr g.ow w) (hi:WI.I g.pr w) (hB:RowKit.Below w.heap.size w wr)
   {row:List P} {vs:Array Value} (hvs:vs.size=row.length) (hrep: ∀(j:Nat) v x,vs[j]? =some v->row[j]? =some x->RepP g.pr w v x) {xs:List (List Nat)} (hd:Decl S1 row xs) (hx:xs.length<=2147483648) (hl:(Zl2 xs).size<=2147483648):
   Calls Proofs.Tryz.prog 294 #[.slice none 0 0,.agg vs] wr fun e w1=> ∃v,e= .returned v/\RowKit.Below wr.heap.size wr w1/\Calls Proofs.Tryz.prog 133 #[v,.string ⟨#[32]⟩] w1 fun e2 w2=>e2= .returned (.string (Zl2 xs))/\RowKit.Below w1.heap.size w1 w2:=by
 obtain ⟨n,hn⟩:=hd
 obtain ⟨_,hC⟩:=hS n _ _ _ _ _ hn
 have hk:=Zrc (pr:=g.pr) hB
 refine (hC ⟨g.nt,fun b=>wr.heap.size<=b∨ ∃i,i<([]:List (List C)).length/\b=g.ω i,g.pr,fun _=>none,g.β,g.ω⟩ wr [.slice none 0 0,.agg vs] ?_ ?_ Zs Zs Zs (fun b hb=>⟨(hf b (Yy hB.size hb)).1,rfl⟩) ?_ rfl).mono ?_
 · refine ⟨rfl,fun j u x hu hx=>?_⟩
   match j with
   | 0=>
     injection hu with hu;injection hx with hx;subst hu hx
     exact ⟨RepP.nils none 0 1,none,0,rfl,.inl rfl⟩
   | 1=>
     injection hu with hu;injection hx with hx;subst hu hx
     refine ⟨vs,rfl,by simp [hvs],fun i u x hu hx=>?_⟩
     rw [Yn,YF] at hx
     obtain ⟨y,hy,rfl⟩:=hx
     exact (hrep i u y (by simpa using hu) hy).mono hk fun _=>Yc _
   | j+2=>simp at hu
 · intro x hx
   simp only [Yv,List.not_mem_nil,or_false] at hx
   rcases hx with rfl|rfl
   · rfl
   · simp [A.clean,A.cells,C.clean]
 · exact WI.mono (T:=g.T) (ow:=g.ow) (ow':=g.ow) hi (Znz hB) fun _=>Yc _
 · rintro e w1 ⟨v,g',rfl,hE,_,_,_,hr,_⟩
   have hr:RepP g'.pr w1 v (.sl 1 (strs xs)):=hr
   refine ⟨v,rfl,⟨hE.os,hE.tape,hE.output,hE.size,fun b hb=>hE.hid b hb rfl ?_⟩,ZtF hr hx hl⟩
   rintro (h|⟨i,h,_⟩)
   · omega
   · simp at h
open Classical in
noncomputable def ZiN (S1:Nat->Option Fn) (row:List P):List (List Nat):=if h: ∃xs,Decl S1 row xs then h.choose else []
def Znq {S1:Nat->Option Fn} {row:List P} (h: ∃xs,Decl S1 row xs):Decl S1 row (ZiN S1 row):=by
 unfold ZiN;rw [dif_pos h];exact h.choose_spec
noncomputable def Zn9 (S1:Nat->Option Fn) (ls:List (List P)) (k:Nat):ByteArray:=if (Zl2 (ZiN S1 (ls.getD k []))).size<=2147483648 then Zl2 (ZiN S1 (ls.getD k [])) else ⟨#[]⟩
def ZrJ (S1:Nat->Option Fn) (row:List P):Prop:=row.length=10/\(∃xs,Decl S1 row xs)/\(ZiN S1 row).length<=2147483648/\(Zl2 (ZiN S1 row)).size<=2147483648
noncomputable def Zrn (S1:Nat->Option Fn) (ls:List (List P)):List Nat:=(Proofs.Tryz.text (Zn9 S1 ls) ls.length).map UInt8.toNat
open Classical in
noncomputable def Zpr (S1:Nat->Option Fn) (args:List A):Option (List Nat):=match args with
 | [.agg [_,_,_,_,_,_,_,_,.p (.sl 10 ls),_]]=>if ls.length<=30000/\ ∀row∈ls,ZrJ S1 row then some (Zrn S1 ls) else none
 | _=>none
theorem ZqO {S1:Nat->Option Fn} (hS: ∀n,Zcv Proofs.Tryz.prog (call S1 n)):Zf2 Proofs.Tryz.prog 213 (ZpA (Zpr S1)):=by
 refine ZqS (by kernel_rfl) fun args t ht g w vs hr hf hi=>?_
 unfold Zpr at ht
 split at ht
 · rename_i c0 c1 c2 c3 c4 c5 c6 c7 ls c9
   split at ht
   · rename_i hs
     injection ht with ht
     subst ht
     obtain ⟨hlen,hrow⟩:=hs
     obtain ⟨v,rfl,hv⟩:=Zih hr
     obtain ⟨arr,rfl,hsz,hcs⟩:=hv
     obtain ⟨v0,v1,v2,v3,v4,v5,v6,v7,v8,v9,rfl⟩: ∃v0 v1 v2 v3 v4 v5 v6 v7 v8 v9,arr= #[v0,v1,v2,v3,v4,v5,v6,v7,v8,v9]:=by
       cases arr with
       | mk l=>
         match l,hsz with
         | [v0,v1,v2,v3,v4,v5,v6,v7,v8,v9],_=>exact ⟨v0,v1,v2,v3,v4,v5,v6,v7,v8,v9,rfl⟩
     have h8:RepP g.pr w v8 (.sl 10 ls):=hcs 8 v8 _ rfl rfl
     have hD: ∀k,(Zn9 S1 ls k).size<=2147483648:=fun k=>by
       unfold Zn9;split
       · assumption
       · exact Yd _
     have key: ∀(k:Nat) (wr:World) (u:Array Value),k<ls.length->RowKit.Below w.heap.size w wr->u.size=10->(∀row,ls[k]? =some row-> ∀(j:Nat) v x,u[j]? =some v->row[j]? =some x->RepP g.pr w v x)->
         Calls Proofs.Tryz.prog 294 #[.slice none 0 0,.agg u] wr fun e w1=> ∃v,e= .returned v/\RowKit.Below wr.heap.size wr w1/\Calls Proofs.Tryz.prog 133 #[v,.string ⟨#[32]⟩] w1 fun e2 w2=>e2= .returned (.string (Zn9 S1 ls k))/\RowKit.Below w1.heap.size w1 w2:=fun k wr u hk hB hu hrep=>by
       have hg:ls[k]? =some ls[k]:=Ya hk
       obtain ⟨d1,d2,d3,d4⟩:=hrow _ (Yl hk)
       have he:Zn9 S1 ls k=Zl2 (ZiN S1 ls[k]):=by
         unfold Zn9;rw [List.getD_eq_getElem?_getD,hg];exact if_pos d4
       rw [he]
       exact Zuh hS hf hi hB Zo (hrep _ hg) (Znq d2) d3 d4
     have fin: ∀(e:Ending) (w':World),(e= .returned (.string ⟨(Proofs.Tryz.text (Zn9 S1 ls) ls.length).toArray⟩)/\RowKit.Below w.heap.size w w')-> ∃bs:ByteArray,e= .returned (.string bs)/\ZbJ bs=Zrn S1 ls/\RowKit.Below w.heap.size w w':=fun e w' ⟨h1,h2⟩=>⟨_,h1,rfl,h2⟩
     cases h8 with
     | nils a cap=>
       exact (Proofs.Tryz.print_walk (Zn9 S1 []) hD v0 v1 v2 v3 v4 v5 v6 v7 v9 a 0 0 0 cap (fun h=>absurd h Zd) (fun _ _=> .bool false) Zd (fun _=>Yd _) w (fun i j h=>absurd h (YH _)) (fun k wr h=>absurd h (YH _))).mono fin
     | sl b o len cap _ _ vv hl hcap hpr hrl hc hrep=>
       subst hl
       refine (Proofs.Tryz.print_walk (Zn9 S1 ls) hD v0 v1 v2 v3 v4 v5 v6 v7 v9 (some ⟨b,o,none⟩) b o ls.length cap (fun _=>rfl) vv hlen (fun _=>hcap) w hc (fun k wr hk hB=>key k wr _ hk hB rfl fun row hrw j v x hv hx=>?_)).mono fin
       have:=hrep k row j x hrw hx
       have hj:j<10:=by have:=Zaq hx;rw [hrl k row hrw] at this;exact this
       match j,hj with
       | 0,_=>injection hv with hv;subst hv;exact this
       | 1,_=>injection hv with hv;subst hv;exact this
       | 2,_=>injection hv with hv;subst hv;exact this
       | 3,_=>injection hv with hv;subst hv;exact this
       | 4,_=>injection hv with hv;subst hv;exact this
       | 5,_=>injection hv with hv;subst hv;exact this
       | 6,_=>injection hv with hv;subst hv;exact this
       | 7,_=>injection hv with hv;subst hv;exact this
       | 8,_=>injection hv with hv;subst hv;exact this
       | 9,_=>injection hv with hv;subst hv;exact this
   · cases ht
 · cases ht
end Go.Am
end
section
namespace Go.Am
open Fe
def Zvr (sep:ByteArray) (xs:List (List Nat)):ByteArray:=⟨(Lib.join ((xs.map Zf5).map (·.data.toList)) sep.data.toList).toArray⟩
def Ztr (sep:ByteArray) {pr:Nat->Nat} {w:World} {v:Value} {xs:List (List Nat)} (h:RepP pr w v (.sl 1 (strs xs))) (hx:xs.length<=2147483648) (hl:(Zvr sep xs).size<=2147483648):
   Calls Proofs.Tryz.prog 133 #[v,.string sep] w fun e w'=>e= .returned (.string (Zvr sep xs))/\RowKit.Below w.heap.size w w':=by
 generalize hr:strs xs=rows at h
 cases h with
 | nils a cap=>
   have:xs=[]:=by cases xs with
     | nil=>rfl
     | cons x l=>simp [strs] at hr
   subst this
   refine (Proofs.Tryz.strings_Join_none a cap sep w).mono ?_
   rintro e w' ⟨rfl,rfl⟩
   exact ⟨by simp [Zvr,Lib.join],RowKit.Below.refl _ _⟩
 | sl b o len cap _ _ vs hlen hcap hpr hrl hc hrep=>
   subst hr
   by_cases he:xs=[]
   · subst he
     have:len=0:=by simpa using hlen
     subst this
     refine (Proofs.Tryz.strings_Join_none _ cap sep w).mono ?_
     rintro e w' ⟨rfl,rfl⟩
     exact ⟨by simp [Zvr,Lib.join],RowKit.Below.refl _ _⟩
   have hlen:len=xs.length:=by simpa using hlen
   subst hlen
   have hp:0<xs.length:=List.length_pos_iff.2 he
   have hb:=ZrY (hc 0 0 hp Zd)
   have hcell: ∀(j:Nat) x,(xs.map Zf5)[j]? =some x->w.cell? ⟨b,o+j,none⟩=some (.string x):=fun j x hj=>by
     rw [Yn,YF] at hj
     obtain ⟨y,hy,rfl⟩:=hj
     have hj2:=Zaq hy
     have h1:=hc j 0 hj2 Zd
     have h2:=hrep j [.str y] 0 (.str y) (by simp [strs,hy]) rfl
     rw [Nat.mul_one,Nat.add_zero] at h1
     rw [h1]
     generalize vs j 0=u at h2⊢
     cases h2 with
     | str bs t h=>rw [Zna h];rfl
   have hsz:(Lib.join ((xs.map Zf5).map (·.data.toList)) sep.data.toList).length<=140737488355328:=by
     have:(Zvr sep xs).size=(Lib.join ((xs.map Zf5).map (·.data.toList)) sep.data.toList).length:=by simp [Zvr,ByteArray.size]
     omega
   have hm:(xs.map Zf5).length=xs.length:=Yh ..
   have:=Proofs.Tryz.strings_Join b o cap (xs.map Zf5) sep w hcell hb Zo Zo hsz
   rw [hm] at this
   exact this
def Zrq:List (List P)->Option (List (List Nat))
 | []=>some []
 | [.str s]::l=>(Zrq l).map (s:: ·)
 | _=>none
theorem ZnM: ∀{rows:List (List P)} {xs:List (List Nat)},Zrq rows=some xs->strs xs=rows
 | [],xs,h=>by simp [Zrq] at h;subst h;rfl
 | r::l,xs,h=>by
   match r,h with
   | [.str s],h=>
     have h:(Zrq l).map (s:: ·)=some xs:=h
     rw [YF] at h
     obtain ⟨ys,h1,rfl⟩:=h
     rw [<-ZnM h1];rfl
def ZEq: ∀(xs:List (List Nat)),Zrq (strs xs)=some xs
 | []=>rfl
 | x::l=>by show (Zrq (strs l)).map (x:: ·)=_;rw [ZEq l];rfl
theorem ZF5 {pr:Nat->Nat} {w:World} {v:Value} {xs:List (List Nat)} (h:RepP pr w v (.sl 1 (strs xs))): ∀x∈xs,Byt x:=by
 generalize hr:strs xs=rows at h
 cases h with
 | nils a cap=>
   have:xs=[]:=by cases xs with
     | nil=>rfl
     | cons x l=>simp [strs] at hr
   subst this
   exact fun _ h=>nomatch h
 | sl b o len cap _ _ vs hlen hcap hpr hrl hc hrep=>
   subst hr
   intro x hx
   obtain ⟨j,hj,rfl⟩:=YD hx
   have h2:=hrep j [.str xs[j]] 0 (.str xs[j]) (by simp [strs,hj]) rfl
   generalize vs j 0=u at h2
   cases h2 with
   | str bs t h=>rw [<-h];intro c hc;obtain ⟨y,_,rfl⟩:=List.mem_map.1 hc;exact y.toNat_lt
def ZEo {x:List Nat} (h:Byt x):(Zf5 x).data.toList.map UInt8.toNat=x:=by
 show (x.map UInt8.ofNat).map UInt8.toNat=x
 rw [YK]
 refine (YC fun c hc=>?_).trans (List.map_id x)
 have:=h c hc
 simp
 omega
def ZEY: ∀(xs:List (List Nat)),(∀x∈xs,Byt x)->(Lib.join ((xs.map Zf5).map (·.data.toList)) [46]).map UInt8.toNat=[46].intercalate xs
 | [],_=>rfl
 | [x],h=>by
   have:=ZEo (h x Yr)
   simpa [Lib.join,List.intercalate] using this
 | x::y::l,h=>by
   have h1:=ZEo (h x Yr)
   have h2:=ZEY (y::l) fun z hz=>h z (Yk _ hz)
   simp only [Lib.join,List.intercalate,List.intersperse,Yp,List.flatten_cons,YB] at h2⊢
   rw [h1,h2]
   rfl
def ZBA (args:List A):Option (List Nat):=match args with
 | [.one (.p (.sl 1 rows)),.one (.p (.str [46]))]=>match Zrq rows with
   | some xs=>if xs.length<=2147483648/\([46].intercalate xs).length<=2147483648 then some ([46].intercalate xs) else none
   | none=>none
 | _=>none
def Zwq [WI]:Zf2 Proofs.Tryz.prog 133 (ZpA ZBA):=by
 refine ZqS (by kernel_rfl) fun args t ht g w vs hr hf hi=>?_
 unfold ZBA at ht
 split at ht
 ·rename_i rows
  split at ht
  ·rename_i xs hx
   split at ht
   ·rename_i hs
    injection ht with ht
    subst ht
    obtain ⟨v,u,rfl,hv,hu⟩:=ZkJ hr
    obtain ⟨y,rfl,hy⟩:=ZrQ hu
    have hv:RepP g.pr w v (.sl 1 rows):=hv
    rw [<-ZnM hx] at hv
    have e:y=Zf5 [46]:=Zna hy
    subst e
    have hj:=ZEY xs (ZF5 hv)
    have hj':ZbJ (Zvr (Zf5 [46]) xs)=[46].intercalate xs:=hj
    refine (Ztr (Zf5 [46]) hv hs.1 ?_).mono ?_
    ·have h1:(ZbJ (Zvr (Zf5 [46]) xs)).length=(Zvr (Zf5 [46]) xs).size:=by rw [ZbJ,Yh,Array.length_toList];rfl
     rw [hj'] at h1;omega
    ·rintro e w' ⟨rfl,hB⟩
     exact ⟨_,rfl,hj',hB⟩
   ·cases ht
  ·cases ht
 ·cases ht
abbrev ZBS (p:List A->Option (List A)) (args:List A) (os:List (List C)):Option (List A×List (List C)):=if os.isEmpty then (p args).map fun t=>(t,[]) else none
def ZBM (args:List A):Option (List A):=match args with
 | [.one (.p (.sl 1 rows))]=>match Zrq rows with
   | some xs=>if xs.length<=2147483648 then some [.one (.p (.sl 1 rows))] else none
   | none=>none
 | _=>none
def ZFg {pr:Nat->Nat} {w:World} {v:Value} {xs:List (List Nat)} (h:RepP pr w v (.sl 1 (strs xs))) (hx:xs.length<=2147483648):
   Calls Proofs.Tryz.prog 75 #[v] w fun e w'=> ∃v',e= .returned v'/\RowKit.Below w.heap.size w w'/\
     ((xs=[]/\ ∀pr',RepP pr' w' v' (.sl 1 []))∨ ∃b,w.heap.size<=b/\b<w'.heap.size/\ ∀pr':Nat->Nat,xs.length<=pr' b->RepP pr' w' v' (.sl 1 (strs xs))):=by
 have hz: ∀(a:Addr) (cap:Nat),Calls Proofs.Tryz.prog 75 #[.slice (some a) 0 cap] w fun e w'=> ∃v',e= .returned v'/\RowKit.Below w.heap.size w w'/\ ∀pr',RepP pr' w' v' (.sl 1 []):=fun a cap=>by
   refine (Proofs.Tryz.slices_Clone_string_zero a cap w).mono ?_
   rintro e w' ⟨v',rfl,ho,_,hB⟩
   refine ⟨_,rfl,hB,fun pr'=>?_⟩
   obtain ⟨_,h|⟨g0,c0,cur,h,_⟩⟩:=ho
   · rw [h.1];exact RepP.nils _ _ _
   · rw [h];exact RepP.nils _ _ _
 generalize hr:strs xs=rows at h
 cases h with
 | nils a cap=>
   obtain rfl:xs=[]:=by cases xs with
     | nil=>rfl
     | cons x l=>simp [strs] at hr
   cases a with
   | none=>
     refine (Proofs.Tryz.slices_Clone_string_nil 0 cap w).mono ?_
     rintro e w' ⟨rfl,rfl⟩
     exact ⟨_,rfl,RowKit.Below.refl _ _,.inl ⟨rfl,fun _=>RepP.nils _ _ _⟩⟩
   | some a=>
     refine (hz a cap).mono ?_
     rintro e w' ⟨v',rfl,hB,hv⟩
     exact ⟨_,rfl,hB,.inl ⟨rfl,hv⟩⟩
 | sl b o len cap _ _ vs hlen hcap hpr hrl hc hrep=>
   subst hr
   have hlen:len=xs.length:=by simpa using hlen
   subst hlen
   by_cases he:xs=[]
   · subst he
     refine (hz ⟨b,o,none⟩ cap).mono ?_
     rintro e w' ⟨v',rfl,hB,hv⟩
     exact ⟨_,rfl,hB,.inl ⟨rfl,hv⟩⟩
   have hm:(xs.map Zf5).length=xs.length:=Yh ..
   have hcell: ∀j,j<(xs.map Zf5).length->w.cell? ⟨b,o+j,none⟩=some (.string ((xs.map Zf5).getD j ByteArray.empty)):=fun j hj=>by
     rw [hm] at hj
     have h1:=hc j 0 hj Zd
     have h2:=hrep j [.str xs[j]] 0 (.str xs[j]) (by simp [strs,hj]) rfl
     rw [Nat.mul_one,Nat.add_zero] at h1
     rw [h1,List.getD_eq_getElem?_getD,Ya (by rw [hm];exact hj),Option.getD_some,List.getElem_map]
     generalize vs j 0=u at h2⊢
     cases h2 with
     | str bs t h=>rw [Zna h];rfl
   refine (Proofs.Tryz.slices_Clone_string b o xs.length cap (xs.map Zf5) w Zo Zo hcell).mono ?_
   rintro e w' ⟨v',rfl,⟨_,ho⟩,hne,hB⟩
   refine ⟨_,rfl,hB,.inr ?_⟩
   rcases ho with ⟨h,_⟩|⟨g0,c0,cur,rfl,hg,hw,hn,_,_,ht⟩
   · exact absurd h hne
   refine ⟨g0,hg,ZaB hw,fun pr' hp=>?_⟩
   have hb:=ZF5 (RepP.sl (pr:=pr) (w:=w) b o xs.length cap 1 (strs xs) vs (by simp [strs]) hcap hpr hrl hc hrep)
   rw [Nat.mul_one,<-hm,List.take_length] at ht
   refine RepP.sl g0 0 xs.length c0 1 (strs xs) (fun i _=> .string (Zf5 (xs.getD i []))) (by simp [strs]) hn Zo (fun i row hi=>?_) (fun i j hi hj=>?_) (fun i row j x hi hj=>?_)
   · simp only [strs,Yn,YF] at hi
     obtain ⟨_,_,rfl⟩:=hi
     rfl
   · obtain rfl:j=0:=by omega
     rw [Nat.mul_one,Nat.zero_add,Nat.add_zero,cell_of_heap hw]
     have h4:(cur.toList.take (xs.map Zf5).length)[i]? =some (.string (Zf5 xs[i])):=by rw [ht];simp [hi]
     rw [YG,if_pos Zo] at h4
     rw [List.getD_eq_getElem?_getD,Ya hi,Option.getD_some,<-Array.getElem?_toList]
     exact h4
   · simp only [strs,Yn,YF] at hi
     obtain ⟨y,hy,rfl⟩:=hi
     cases j with
     | succ j=>simp at hj
     | zero=>
       injection hj with hj
       subst hj
       obtain ⟨hi2,rfl⟩:=List.getElem?_eq_some_iff.1 hy
       rw [List.getD_eq_getElem?_getD,Ya hi2,Option.getD_some]
       exact RepP.str _ _ (ZEo (hb _ (Yl hi2)))
def ZwV:Zf2 Proofs.Tryz.prog 75 fun args os=>if os.isEmpty then (ZBM args).map fun t=>(t,[]) else none:=by
 intro args os rs os' hp
 cases os with
 | cons o os=>simp at hp
 | nil=>
   simp only [List.isEmpty_nil,if_true,YF] at hp
   obtain ⟨t,ht,e⟩:=hp
   injection e with e1 e2
   subst e1 e2
   refine ⟨by kernel_rfl,fun g w vs hr k1 k2 k3 k4 hf hi k5=>?_⟩
   unfold ZBM at ht
   split at ht
   · rename_i rows
     split at ht
     · rename_i xs hx
       split at ht
       · rename_i hs
         injection ht with ht
         subst ht
         obtain ⟨v,rfl,hv⟩:=Zih hr
         have hv:RepP g.pr w v (.sl 1 rows):=hv
         rw [<-ZnM hx] at hv⊢
         refine (ZFg hv hs).mono ?_
         rintro e w' ⟨v',rfl,hB,⟨rfl,h1⟩|⟨b,hb,hb',h1⟩⟩
         · exact ⟨_,g,rfl,Znz hB,rfl,rfl,fun b hb=>hf b (Yy hB.size hb),h1 _,by simp⟩
         · have hne: ∀k,k<w.heap.size->(if k=b then xs.length else g.pr k)=g.pr k:=fun k hk=>if_neg Zo
           have hE:=Znz (T:=g.T) (pr:=g.pr) (ow:=g.ow) hB
           refine ⟨_,{g with pr:=fun k=>if k=b then xs.length else g.pr k},rfl,⟨hE.os,hE.tape,hE.output,hE.size,hE.blk,fun k hk=>Nat.le_of_eq (hne k hk).symm,fun k hk ho hT=>⟨hne k hk,ho⟩,hE.hid⟩,rfl,rfl,fun k hk=>?_,h1 _ Zs,by simp⟩
           have:=hf k (Yy hB.size hk)
           exact ⟨(if_neg Zo).trans this.1,this.2⟩
       · cases ht
     · cases ht
   · cases ht
end Go.Am
end
section
namespace Go.Proofs
open Go.RowKit
set_option maxHeartbeats 4000000
set_option maxRecDepth 1000000
def Tryz.DeleteFunc_none (v c:Value) (w:World) {Q:World->Prop} (h:Calls Tryz.prog 144 #[v,c] w fun e w'=>e= .returned (.int .i64 (-1))/\Q w'):
  Calls Tryz.prog 80 #[v,c] w fun e w'=>e= .returned v/\Q w':=by
 have e144: ∀args w,(callFunc 144 args).run Tryz.prog w= .ok (.enter 144 args) w:=enters_of Tryz.func144 (by kernel_rfl) rfl
 go_enter Tryz.func80,Tryz.ntmps80
 go_wp2_with (go_at_fn 144;refine h.mono ?_)
 rintro e w1 ⟨rfl,h1⟩
 go_wp2
 go_ret
 exact ⟨rfl,h1⟩
end Go.Proofs
namespace Go.Am
variable [WI]
def ZKk: ∀{cs:List C} {ps:List P},toPs cs=some ps->cs.length=ps.length/\ ∀(i:Nat) c p,cs[i]? =some c->ps[i]? =some p->c.toP=some p
 | [],ps,h=>by simp [toPs] at h;subst h;exact ⟨rfl,fun i c p h=>by simp at h⟩
 | c::cs,ps,h=>by
   unfold toPs at h
   split at h
   · rename_i x xs h1 h2
     injection h with h;subst h
     obtain ⟨l,g⟩:=ZKk h2
     refine ⟨by simp [l],fun i c' p' hc hp=>?_⟩
     cases i with
     | zero=>simp at hc hp;subst hc hp;exact h1
     | succ i=>exact g i c' p' (by simpa using hc) (by simpa using hp)
   · cases h
def RepC.toP {g:G} {w:World} {ℓ:Loc} {v:Value} {c:C} {x:P} (h:RepC g w ℓ v c) (e:c.toP=some x):RepP g.pr w v x:=by
 cases c with
 | p y=>injection e with e;subst e;exact h
 | tip s r=>injection e with e;subst e;exact h.1
 | _=>cases e
def ZJX {pr pr':Nat->Nat} {ow':Nat->Option Loc} {w w1:World} {T:Nat->Prop} (hE:Ext T pr (fun _=>none) w w1 pr' ow') (hT: ∀b,b<w.heap.size-> ¬T b):RowKit.Below w.heap.size w w1:=
 ⟨hE.os,hE.tape,hE.output,hE.size,fun b hb=>hE.hid b hb rfl (hT b hb)⟩
theorem ZKp {F:ZaQ} (hF:Zcv Proofs.Tryz.prog F) {s f:Nat} {rows:List (List P)} {v c:Value} {w:World} {pr:Nat->Nat} {g:G}
  (h:F 144 [.one (.p (.sl s rows)),.one (.clo f [] [])] []=some ([.one (.p (.int .i64 (-1)))],[])) (hv:RepP pr w v (.sl s rows)) (hc:c= .func (.func f) #[] #[])
  (hf: ∀b,w.heap.size<=b->pr b=0) (hi:WI.I pr w):Calls Proofs.Tryz.prog 144 #[v,c] w fun e w'=>e= .returned (.int .i64 (-1))/\RowKit.Below w.heap.size w w':=by
 obtain ⟨_,hC⟩:=hF _ _ _ _ _ h
 refine (hC ⟨g.nt,fun b=>w.heap.size<=b∨ ∃i,i<([]:List (List C)).length/\b=g.ω i,pr,fun _=>none,g.β,g.ω⟩ w [v,c] ?_ ?_ Zs Zs Zs (fun b hb=>⟨hf b hb,rfl⟩) hi rfl).mono ?_
 ·refine ⟨rfl,fun j u x hu hx=>?_⟩
  match j with
  | 0=>injection hu with hu;injection hx with hx;subst hu hx;exact hv
  | 1=>injection hu with hu;injection hx with hx;subst hu hx;exact hc
  | j+2=>simp at hu
 ·intro x hx
  simp only [Yv,List.not_mem_nil,or_false] at hx
  rcases hx with rfl|rfl<;>simp [A.clean,A.cells,C.clean]
 ·rintro e w1 ⟨u,g',rfl,hE,_,_,_,hr,_⟩
  have hr:RepP g'.pr w1 u (.int .i64 (-1)):=hr
  cases hr
  refine ⟨rfl,ZJX hE fun b hb=>?_⟩
  rintro (h|⟨i,h,_⟩)
  ·omega
  ·simp at h
def ZKo (S:Nat->Option Fn) (s f:Nat) (rows:List (List P)):Prop:= ∃n,call S n 144 [.one (.p (.sl s rows)),.one (.clo f [] [])] []=some ([.one (.p (.int .i64 (-1)))],[])
open Classical in
noncomputable def delP (S:Nat->Option Fn) (args:List A) (os:List (List C)):Option (List A×List (List C)):=match args,os with
 | [.one (.own ⟨false,0,0⟩ s n),.one (.clo f [] [])],[cs]=>match toPs cs with
   | some ps=>if ps.length=n*s/\ZKo S s f (Zo0 s n ps) then some ([.one (.own ⟨false,0,0⟩ s n)],[cs]) else none
   | none=>none
 | [.one (.p (.sl s rows)),.one (.clo f [] [])],[]=>if ZKo S s f rows then some ([.one (.p (.sl s rows))],[]) else none
 | _,_=>none
theorem ZLD {S:Nat->Option Fn} (hS:FnOK Proofs.Tryz.prog S):Zf2 Proofs.Tryz.prog 80 (delP S):=by
 intro args os rs os' hp
 refine ⟨by kernel_rfl,fun g w vs hr k1 k2 hbox k3 hf hi hT=>?_⟩
 unfold delP at hp
 split at hp
 · rename_i s n f cs
   split at hp
   · rename_i ps hps
     split at hp
     · rename_i hlen
       obtain ⟨hlen,m,heq⟩:=hlen
       · injection hp with hp
         injection hp with h1 h2
         subst h1 h2
         obtain ⟨v,c,rfl,hv,hc⟩:=ZkJ hr
         have hc:c= .func (.func f) #[] #[]:=hc
         obtain ⟨cap,hv,hn,cs2,t2,r2,r3⟩:=(show RepC g w (0,0,0) v (.own ⟨false,0,0⟩ s n) from hv)
         obtain ⟨us,t,hb,⟨hl,hrc⟩,hpr,how⟩:=hbox 0 cs rfl
         obtain ⟨tl,tg⟩:=ZKk hps
         have hlt:=ZaB hb
         have hrow: ∀k,k<n*s-> ∃u x,us.toList[k]? =some u/\ps[k]? =some x/\RepP g.pr w u x:=fun k hk=>by
           have k1:k<ps.length:=by omega
           have k2:k<cs.length:=by omega
           have k3:k<us.toList.length:=by rw [Array.length_toList];omega
           refine ⟨us.toList[k],ps[k],Ya k3,Ya k1,?_⟩
           refine (hrc.2 k _ cs[k] ?_ (Ya k2)).toP (tg k _ _ (Ya k2) (Ya k1))
           rw [YG,if_pos k2,Ya k3]
         obtain ⟨pr2,hpr2⟩: ∃pr2,pr2=fun b=>if b=g.ω 0 then n*s else g.pr b:=⟨_,rfl⟩
         have hle: ∀b,g.pr b<=pr2 b:=fun b=>by
           rw [hpr2];dsimp only
           split
           · rename_i e;subst e;omega
           · exact Yc _
         have hv2:RepP pr2 w v (.sl s (Zo0 s n ps)):=by
           subst hv
           refine RepP.sl (g.ω 0) 0 n cap s (Zo0 s n ps) (fun i j=>us.toList.getD (i*s+j) undef) (Zf3 s n ps).symm hn (by rw [hpr2];simp) (fun i row hi=>(Zqh s n ps i row hlen hi).1) (fun i j hi hj=>?_) (fun i row j x hi hj=>?_)
           · have:=ZdS hi hj
             obtain ⟨u,x,k1,_,_⟩:=hrow (i*s+j) this
             rw [Nat.zero_add,cell_of_heap hb,<-Array.getElem?_toList,List.getD_eq_getElem?_getD,k1]
             rfl
           · obtain ⟨c1,c2⟩:=Zqh s n ps i row hlen hi
             have hi':=Zaq hi
             rw [Zf3] at hi'
             have hj':=Zaq hj
             rw [c1] at hj'
             obtain ⟨u,y,k1,k2,k3⟩:=hrow (i*s+j) (ZdS hi' hj')
             rw [List.getD_eq_getElem?_getD,k1]
             rw [c2 j hj',k2] at hj
             injection hj with hj
             subst hj
             exact k3.mono (fun _ _ _ _ h=>h) hle
         have hf2: ∀b,w.heap.size<=b->pr2 b=0:=fun b hb=>by
           rw [hpr2];dsimp only
           rw [if_neg Zo]
           exact (hf b hb).1
         have hi2:WI.I pr2 w:=WI.mono (T:=fun _=>True) (ow:=g.ow) (ow':=g.ow) hi ⟨rfl,rfl,rfl,Yc _,fun _ o h=>⟨o,h,.refl _ _⟩,fun b _=>hle b,fun _ _ _ h=>absurd trivial h,fun _ _ _ _=>rfl⟩ hle
         refine (Proofs.Tryz.DeleteFunc_none v c w (ZKp (g:=g) (ZlN hS m) heq hv2 hc hf2 hi2)).mono ?_
         rintro e w1 ⟨rfl,hB⟩
         have hk:=Zrc (pr:=g.pr) hB
         have hb1:w1.heap[g.ω 0]? =some (.cells us t (0,0)):=(hB.block _ hlt).trans hb
         refine ⟨v,g,rfl,Znz hB,rfl,rfl,fun b hb=>hf b (Yy hB.size hb),?_,fun i cs' hi=>?_⟩
         · exact ⟨cap,hv,hn,cs2,t2,(hB.block _ (ZaB r2)).trans r2,r3⟩
         · match i,hi with
           | 0,hi=>
             injection hi with hi
             subst hi
             refine ⟨us,t,hb1,⟨hl,hrc.1,fun k u x hu hx=>?_⟩,hpr,how⟩
             have hk2:=Zaq hx
             have hx2:=tg k x (ps[k]'(by omega)) hx (Ya _)
             have h0:=hrc.2 k u x hu hx
             cases x with
             | p y=>exact RepP.mono h0 hk fun _=>Yc _
             | tip s' r=>
               obtain ⟨z1,a,cap',z2,z3⟩:=h0
               refine ⟨z1.mono hk fun _=>Yc _,a,cap',z2,z3.imp id ?_⟩
               rintro ⟨b,o,ha,hl2,z4,z5,cs3,t3,z6,z7⟩
               exact ⟨b,o,ha,hl2,z4,z5,cs3,t3,(hB.block _ (ZaB z6)).trans z6,z7⟩
             | _=>cases hx2
           | i+1,hi=>simp at hi
     · cases hp
   · cases hp
 · rename_i s rows f
   split at hp
   · rename_i heq
     obtain ⟨m,heq⟩:=heq
     injection hp with hp
     injection hp with h1 h2
     subst h1 h2
     obtain ⟨v,c,rfl,hv,hc⟩:=ZkJ hr
     have hc:c= .func (.func f) #[] #[]:=hc
     have hv:RepP g.pr w v (.sl s rows):=hv
     refine (Proofs.Tryz.DeleteFunc_none v c w (ZKp (g:=g) (ZlN hS m) heq hv hc (fun b hb=>(hf b hb).1) hi)).mono ?_
     rintro e w1 ⟨rfl,hB⟩
     exact ⟨v,g,rfl,Znz hB,rfl,rfl,fun b hb=>hf b (Yy hB.size hb),RepP.mono hv (Zrc hB) fun _=>Yc _,by simp⟩
   · cases hp
 · cases hp
def hasP (args:List A):Option (List A):=match args with
 | [.one (.p (.str s)),.one (.p (.str [c]))]=>if c<256 then some [.one (.p (.bool (s.elem c)))] else none
 | _=>none
def ZLm:Zf2 Proofs.Tryz.prog 82 fun args os=>if os.isEmpty then (hasP args).map fun t=>(t,[]) else none:=by
 refine ZAQ (by kernel_rfl) fun args t ht g w vs hr hf hi=>?_
 unfold hasP at ht
 split at ht
 ·rename_i s c
  split at ht
  ·rename_i hc
   injection ht with ht
   subst ht
   obtain ⟨v,u,rfl,hv,hu⟩:=ZkJ hr
   obtain ⟨x,rfl,hx⟩:=ZrQ hv
   obtain ⟨y,rfl,hy⟩:=ZrQ hu
   obtain rfl:y=⟨#[UInt8.ofNat c]⟩:=by rw [Zna hy];rfl
   refine (Proofs.Tryz.strings_Contains_one x (UInt8.ofNat c) w).mono ?_
   rintro e w' ⟨rfl,rfl⟩
   have hx':x.data.toList.map UInt8.toNat=s:=hx
   have hc':(UInt8.ofNat c).toNat=c:=by simp;omega
   rw [ZJl,hx',hc']
   refine ⟨_,rfl,RowKit.Below.refl _ _,?_⟩
   have:decide (0<=ixN s c)=s.elem c:=by
    unfold ixN
    cases h:s.elem c<;>simp [h]
   rw [this]
   exact RepP.bool _
  ·cases ht
 ·cases ht
end Go.Am
end
