/- Part. -/
import Derived.Test.YtcdpeppblcijfaaGreatDoorXbc
set_option maxRecDepth 999999
set_option maxHeartbeats 0
set_option linter.all false
section
namespace Go.Am.Fe
variable {S:SF} {Q:QF}
attribute [local simp] ZbO if_pos if_neg decide_eq_true decide_eq_false Yi Yj ZgF Ops.callv List.idxOf?_cons
def No.bare (x:No):No:=⟨x.s,x.k,x.gs,x.m,x.f,x.fs,x.cs,.zero⟩
def Fu.bare (f:Fu):Fu:=⟨f.s,f.gs,f.rs,f.ps,f.r,f.e,.zero⟩
def Mo.bare (m:Mo):Mo:=⟨m.ns.map No.bare,m.ps,m.cs,m.fs.map Fu.bare⟩
def ZIB {α β:Type} {f g:α->Option β}: ∀{l:List α},(∀x∈l,f x=g x)->l.filterMap f=l.filterMap g
 | [],_=>rfl
 | a::l,h=>by
   rw [List.filterMap_cons,List.filterMap_cons,h a Yr,ZIB (l:=l) fun x hx=>h x (Yk _ hx)]
def ZIU {α:Type} {f:α->LN} {p:α->α} (hp: ∀x,f (p x)=f x) (l:List α):ZDP f (l.map p)=(ZDP f l).map p:=by
 unfold ZDP ZDO
 rw [List.map_filterMap,Yh]
 refine ZIB fun i hi=>?_
 have hi:=List.mem_range.1 hi
 have e:ZGt f (l.map p) i↔ZGt f l i:=by
  constructor
  ·rintro ⟨h,h2⟩
   refine ⟨hi,fun x hx=>?_⟩
   have:=h2 (p x) (by rw [<-List.map_take];exact List.mem_map_of_mem hx)
   rwa [List.getElem_map,hp,hp] at this
  ·rintro ⟨h,h2⟩
   refine ⟨by rw [Yh];exact h,fun x hx=>?_⟩
   rw [<-List.map_take] at hx
   obtain ⟨y,hy,rfl⟩:=List.mem_map.1 hx
   rw [List.getElem_map,hp,hp]
   exact h2 y hy
 rw [ZJL e]
 split
 ·rw [Yn]
 ·rfl
def ZIK {α:Type} {f:α->LN} {p:α->α} (hp: ∀x,f (p x)=f x) {g:α->List Rz} (hg: ∀x,g (p x)=g x) (l:List α):(ZDP f (l.map p)).flatMap g=(ZDP f l).flatMap g:=by
 rw [ZIU hp,List.flatMap_map]
 exact congrArg (fun h=>(ZDP f l).flatMap h) (funext fun x=>hg x)
def ZIC {α:Type} {p:α->α} {g:α->Bool} (hg: ∀x,g (p x)=g x) (l:List α):(l.map p).any g=l.any g:=by
 rw [List.any_map]
 exact congrArg l.any (funext fun x=>hg x)
def ZJm {m:Mo}:m.bare.meth=m.meth:=rfl
def ZJO {m:Mo}:m.bare.fld=m.fld:=funext fun _=>ZIC (p:=No.bare) (fun _=>rfl) m.ns
def ZI5 {m:Mo} {f:Fu}:m.bare.lacks f↔m.lacks f:=⟨fun h g hg he=>h g.bare (List.mem_map_of_mem hg) he,fun h g hg he=>by
 obtain ⟨g',hg',rfl⟩:=List.mem_map.1 hg
 exact h g' hg' he⟩
def ZIO {m:Mo} {f:Fu}:m.bare.beside f=m.beside f:=ZIC (p:=Fu.bare) (fun _=>rfl) m.fs
def ZIL {m:Mo} {i:Nat}:m.bare.isFree i↔m.isFree i:=by
 have hl:m.bare.fs.length=m.fs.length:=Yh _
 have hs: ∀(i:Nat) (h:i<m.bare.fs.length),m.bare.fs[i].s=(m.fs[i]'(hl ▸ h)).s:=fun i h=>by
  have e:(m.fs.map Fu.bare)[i]'h=(m.fs[i]'(hl ▸ h)).bare:=List.getElem_map ..
  have e2:((m.fs.map Fu.bare)[i]'h).s=((m.fs[i]'(hl ▸ h)).bare).s:=congrArg Fu.s e
  exact e2
 have ht: ∀s:LN,(∀x∈m.bare.fs.take i,x.s≠s)↔ ∀x∈m.fs.take i,x.s≠s:=fun s=>by
  show (∀x∈(m.fs.map Fu.bare).take i,x.s≠s)↔_
  rw [<-List.map_take]
  exact ⟨fun h x hx=>h x.bare (List.mem_map_of_mem hx),fun h x hx=>by obtain ⟨y,hy,rfl⟩:=List.mem_map.1 hx;exact h y hy⟩
 constructor
 ·rintro ⟨h,⟨h1,h2,h3⟩,h4⟩
  rw [hs i h] at h3 h4
  exact ⟨hl ▸ h,⟨hl ▸ h,rfl,(ht _).1 h3⟩,h4⟩
 ·rintro ⟨h,⟨h1,h2,h3⟩,h4⟩
  refine ⟨hl.symm ▸ h,⟨hl.symm ▸ h,rfl,?_⟩,?_⟩
  ·rw [hs i (hl.symm ▸ h)];exact (ht _).2 h3
  ·rw [hs i (hl.symm ▸ h)];exact h4
def ZJr {m:Mo}:m.bare.free=m.free.map Fu.bare:=by
 have hl:m.bare.fs.length=m.fs.length:=Yh _
 unfold Mo.free Mo.freeTo
 rw [List.map_filterMap,hl]
 refine ZIB fun i _=>?_
 rw [ZJL ZIL]
 split
 ·show (m.fs.map Fu.bare)[i]? =_
  rw [Yn]
 ·rfl
def ZH6 {m1 m2:Mo}:ZD1 m1.bare m2=ZD1 m1 m2:=by
 have a1:(ZDP No.s m1.bare.ns).flatMap (No.rs m2)=(ZDP No.s m1.ns).flatMap (No.rs m2):=ZIK (p:=No.bare) (fun _=>rfl) (fun _=>rfl) m1.ns
 have a4:ZEb m1.bare m2 m1.bare.free.length=ZEb m1 m2 m1.free.length:=by
  unfold ZEb
  rw [List.take_length,List.take_length,ZJr,List.filter_map,YK]
  rfl
 have a5:ZEa m1.bare m2 m2.free.length=ZEa m1 m2 m2.free.length:=by
  unfold ZEa
  congr 2
  funext f
  rw [ZJL ZI5,ZIO]
 have a6:(ZDP Pr.s m2.ps).flatMap (Pr.chosen m1.bare)=(ZDP Pr.s m2.ps).flatMap (Pr.chosen m1):=by
  have e:Pr.chosen m1.bare=Pr.chosen m1:=funext fun p=>by
   unfold Pr.chosen Pr.ch
   rw [ZJO,ZJm]
   rfl
  rw [e]
 have a7:(ZDP No.s m1.bare.ns).flatMap (No.chosen m1.bare m2)=(ZDP No.s m1.ns).flatMap (No.chosen m1 m2):=ZIK (p:=No.bare) (g:=No.chosen m1 m2) (fun _=>rfl) (fun _=>rfl) m1.ns
 have a8:(ZDP Co.nm m2.cs).flatMap (Co.news m1.bare)=(ZDP Co.nm m2.cs).flatMap (Co.news m1):=by
  have e:Co.news m1.bare=Co.news m1:=funext fun c=>by
   unfold Co.news
   rw [show m1.bare.ns.any (fun y=>dq (y.s=c.t.s))=m1.ns.any (fun y=>dq (y.s=c.t.s)) from ZIC (p:=No.bare) (fun _=>rfl) m1.ns]
   rfl
  rw [e]
 unfold ZD1
 rw [a1,a4,a5,a6,a7,a8]
 rfl
def Mo.bare_okn {m:Mo} (h:m.okn):m.bare.okn:=⟨h.n.map fun _ h=>h,h.p,h.c,h.f.map fun _ h=>h⟩
def Mo.Good.nobrace {m:Mo} (h:m.Good): ∀f∈m.fs,123∉f.s:=fun f hf=>(h.f.2 f hf).2.2.2
def ZKf (R:HR S) {m:Mo} (hm:m.okn) (hb: ∀f∈m.fs,123∉f.s) (hQ:Q [.agg m.bare.cs'] []):Gives S ZJk [.agg m.cs'] [] Q:=by
 have n1:=hm.n.1
 have n2:=hm.f.1
 have b1:(m.ns.map No.row).length=m.ns.length:=Yh _
 have b2:(m.fs.map Fu.row).length=m.fs.length:=Yh _
 refine .code R.zuOf rfl ?_
 simp(disch:=omega)[ZJN]
 obtain ⟨T,hT⟩: ∃T,T=(m.ns.map No.bare).map No.row:=⟨_,rfl⟩
 have hTl:T.length=m.ns.length:=by rw [hT,Yh,Yh]
 have hTs: ∀(j:Nat) (hj:j<m.ns.length),T.take (j+1)=T.take j++[m.ns[j].bare.row]:=fun j hj=>by
  rw [Ym,hT,Yn,Yn,Ya hj];rfl
 obtain ⟨U,hU⟩: ∃U,U=(m.fs.map Fu.bare).map Fu.row:=⟨_,rfl⟩
 have hUl:U.length=m.fs.length:=by rw [hU,Yh,Yh]
 have hUs: ∀(j:Nat) (hj:j<m.fs.length),U.take (j+1)=U.take j++[m.fs[j].bare.row]:=fun j hj=>by
  rw [Ym,hU,Yn,Yn,Ya hj];rfl
 have hcs:m.bare.cs'=[.l 17 T,.l 3 (m.ps.map Pr.row),.l 9 (m.cs.map Co.row),.l 22 U]:=by rw [hT,hU];rfl
 rw [hcs] at hQ
 refine Lp.rule (fun (j:Nat)=>[(1,.a (.one (.ref ⟨true,10001,0⟩))),(2,.a (.one (.ref ⟨true,10002,0⟩))),(3,.a (.one (.ref ⟨true,10003,0⟩))),(4,.a (pi j)),o9,(10001,.a (.agg m.cs')),(10002,.a (.agg [.tip 17 [],.tip 3 [],.tip 9 [],.tip 22 []])),(10003,.a (.agg [.tip 17 (T.take j),.l 3 (m.ps.map Pr.row),.l 9 (m.cs.map Co.row),.tip 22 []]))]) (fun j=>j<=m.ns.length) (fun j=>m.ns.length-j) (a₀:=0) Zs (Yd _) ?_
 intro j k1
 by_cases hj:j<m.ns.length
 ·have r1:=ZG2 (f:=No.row) (l:=m.ns) (j:=j) Zo
  have el:(T.take j).length<=100000:=by rw [List.length_take];omega
  have e1:=hTs j hj
  simp(disch:=omega)[r1]
  exact RdN.mk (j+1) (by rw [e1];simp [No.bare];exact ⟨rfl,rfl,rfl,rfl,rfl,rfl,rfl,rfl,rfl,rfl⟩) hj Zo
 rw [show T.take j=T from Yg Zo]
 simp(disch:=omega)
 refine Lp.rule (fun (j:Nat)=>[(1,.a (.one (.ref ⟨true,10001,0⟩))),(2,.a (.one (.ref ⟨true,10002,0⟩))),(3,.a (.one (.ref ⟨true,10003,0⟩))),(6,.a (pi j)),o9,(10001,.a (.agg m.cs')),(10002,.a (.agg [.tip 17 [],.tip 3 [],.tip 9 [],.tip 22 []])),(10003,.a (.agg [.tip 17 T,.l 3 (m.ps.map Pr.row),.l 9 (m.cs.map Co.row),.tip 22 (U.take j)]))]) (fun j=>j<=m.fs.length) (fun j=>m.fs.length-j) (a₀:=0) Zs (Yd _) ?_
 clear hj k1 j
 intro j k1
 by_cases hj:j<m.fs.length
 ·have r1:=ZG2 (f:=Fu.row) (l:=m.fs) (j:=j) Zo
  have el:(U.take j).length<=100000:=by rw [List.length_take];omega
  have e1:=hUs j hj
  have hs:=(hm.f.get hj).1.1.1
  simp(disch:=omega)[r1]
  refine R.ib _ 123 Zd Zo (fun _=>?_) (fun h=>absurd h (hb _ (Yl hj)))
  simp(disch:=omega)
  exact RdN.mk (j+1) (by rw [e1];simp [Fu.bare];exact ⟨rfl,rfl,rfl,rfl,rfl,rfl,rfl,rfl,rfl,rfl⟩) hj Zo
 ·rw [show U.take j=U from Yg Zo]
  simp(disch:=omega)
  exact hQ
abbrev TabW (S:SF) (src:LN):Prop:= ∀Q:QF,(∀(m:Mo) (ok:Bool),m.Good->(ok=true->ZH8 m)->Q [.agg m.cs',pb ok] [])->Gives S Zgf [ps src,pi 4000] [] Q
def ZHV (H:Has S) (G:HG S) (R:HR S) (HL:S ZG9=some (.code ZHk))
  (HE: ∀(Q:QF) (l:List Rz),l.length<=100->Q [pb true] []->Gives S ZG7 [.one (.l 2 (rzs l)),.one (.l 2 (rzs l))] [] Q)
  (HA: ∀Q:QF,Q [pb true] []->Gives S Zd3 [] [] Q) {a b:LN} (H1:TabW S a) (H2:TabW S b)
  (hQ:Q [pb true] []):Gives S ZG9 [ps a,ps b] [] Q:=by
 refine .code HL rfl ?_
 simp(disch:=omega)[ZHk]
 refine H1 _ fun x i hx hi=>?_
 simp(disch:=omega)
 refine H2 _ fun y j hy hj=>?_
 simp(disch:=omega)
 cases i
 ·simp(disch:=omega)
  refine HA _ ?_
  simp(disch:=omega)
  exact hQ
 cases j
 ·simp(disch:=omega)
  refine HA _ ?_
  simp(disch:=omega)
  exact hQ
 simp(disch:=omega)
 refine ZIx H R ⟨hx,hi rfl⟩ ⟨hy,hj rfl⟩ ?_
 have hb:=ZIi hx hy
 have hl:((ZD1 x y).take 100).length<=100:=List.length_take_le _ _
 have er:(rzs (ZD1 x y)).take 100=rzs ((ZD1 x y).take 100):=by simp [rzs,List.map_take]
 have g1:=fun Q=>ZFH (Q:=Q) G hx.okn hy.okn hb
 have g2:=fun Q=>ZEh (Q:=Q) G hx.okn hy.okn hb
 have g3:=fun Q=>ZFH (Q:=Q) (m1:=x.bare) G (Mo.bare_okn hx.okn) hy.okn (by rw [ZH6];exact hb)
 rw [ZH6] at g3
 simp only [er] at g1 g3⊢
 have hz:(dq (ZD1 x y=[])=true)↔(ZD1 x y).take 100=[]:=by
  rw [ZD3]
  cases ZD1 x y with
  | nil=>simp
  | cons r l=>simp
 generalize (ZD1 x y).take 100=L at hl g1 g3 hz⊢
 have hrl:=ZFe (l:=L)
 simp(disch:=omega)
 refine g1 _ ?_
 simp(disch:=omega)
 refine HE _ L hl ?_
 simp(disch:=omega)
 refine g2 _ ?_
 have hz2:dq (ZD1 x y=[])=decide (L.length=0):=by
  rw [Bool.eq_iff_iff,hz,decide_eq_true_iff,List.length_eq_zero_iff]
 rw [hz2]
 simp(disch:=omega)[hrl]
 refine ZKf R hx.okn hx.nobrace ?_
 simp(disch:=omega)
 refine g3 _ ?_
 simp(disch:=omega)
 refine HE _ L hl ?_
 simp(disch:=omega)
 refine HA _ ?_
 simp(disch:=omega)
 exact hQ
end Go.Am.Fe
end
