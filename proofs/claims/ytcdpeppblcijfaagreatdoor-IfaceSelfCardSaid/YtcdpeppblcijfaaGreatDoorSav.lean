/- Part. -/
import Derived.Test.YtcdpeppblcijfaaGreatDoorSau
set_option maxRecDepth 999999
set_option maxHeartbeats 0
set_option linter.all false
section
namespace Go.Am.Fe
variable {S:SF} {Q:QF}
attribute [local simp] ZbO if_pos if_neg decide_eq_true decide_eq_false Yi Yj ZgF Ops.callv List.idxOf?_cons
def ZDJ (ns:List LN):LN:=[46].intercalate ns
def ZFC {os:List LC} (h: ∀x∈os,∀y∈x,C.clean y=true) {c:LC} (hc: ∀y∈c,C.clean y=true) {k:Nat}: ∀x∈os.set k c,∀y∈x,C.clean y=true:=fun x hx=>by
 rcases List.mem_or_eq_of_mem_set hx with hx|rfl
 ·exact h x hx
 ·exact hc
def ZGE (H:HG S) {m1 m2:Mo} {l:List Rz} {os:List LC} {k:Nat} (ho:Pass os) (hk:os[k]? =some (RS m1 m2 l)) {c:Int} {ns:List LN} (hn:ns.length<=2) (hs: ∀s∈ns,s.length<=300000) (hl:(l++[(c,ZDJ ns)]).length<68719476736) (hQ:Q [] (os.set k (RS m1 m2 (l++[(c,ZDJ ns)])))):
  Gives S ZaE [.one (.ref ⟨false,k,0⟩),pi c,.one (.l 1 (ns.map fun x=>[.str x]))] os Q:=by
 obtain ⟨hkl,hk'⟩:=List.getElem?_eq_some_iff.1 hk
 rw [YE,List.length_singleton] at hl
 have hrl:=ZFe (l:=l)
 have hc:=fun κ=>ho.ment (κ:=κ)
 refine .code H.ifaceReasonsAddq rfl ?_
 simp(disch:=omega)[ZjN,hk']
 refine H.join ns hn hs ?_
 have e1: ∀x:LC,(os.set k x)[k]? =some x:=fun x=>by rw [List.getElem?_set_self hkl]
 simp(disch:=omega)[e1]
 rw [if_pos (ZFC ho.clean (by simp [C.clean]))]
 rw [RS,ZGo] at hQ
 exact ⟨_,_,rfl,hQ⟩
def ZEi (H:HG S) {m1 m2:Mo} {l:List Rz} {c:Int} {ns:List LN} (hn:ns.length<=2) (hs: ∀s∈ns,s.length<=300000) (hl:(l++[(c,ZDJ ns)]).length<68719476736) (hQ:Q [] [RS m1 m2 (l++[(c,ZDJ ns)])]):
 Gives S ZaE [.one (.ref ⟨false,0,0⟩),pi c,.one (.l 1 (ns.map fun x=>[.str x]))] [RS m1 m2 l] Q:=ZGE H (Pass.dat rfl) rfl hn hs hl hQ
def ZD2 {α:Type} {f:α->LN} {l:List α} {s:LN} {j:Nat} (h:At f l s j):l.find? (fun y=>dq (f y=s))=some (l[j]'h.1):=by
 obtain ⟨hj,h1,h2⟩:=h
 rw [List.find?_eq_some_iff_getElem]
 exact ⟨ZDz h1,j,hj,rfl,fun i hi=>by rw [ZDy (h2 _ (List.mem_take_iff_getElem.2 ⟨i,by omega,rfl⟩))];rfl⟩
def ZEC {α:Type} {f:α->LN} {l:List α} {s:LN} (h: ∀x∈l,f x≠s):l.find? (fun y=>dq (f y=s))=none:=by
 rw [List.find?_eq_none]
 exact fun x hx=>by rw [ZDy (h x hx)];simp
noncomputable def Fi.put (gs hs:List LN) (x:Fi):Fi:=⟨x.s,x.t.put gs hs,x.v⟩
noncomputable def Ca.put (gs hs:List LN) (x:Ca):Ca:=⟨x.s,x.ts.map (Ty.put gs hs),x.i⟩
def Fi.put_ok {gs hs:List LN} (x:Fi) (hx:x.ok):(x.put gs hs).ok:=⟨hx.1,Ty.put_fw hx.2⟩
def Ca.put_ok {gs hs:List LN} (x:Ca) (hx:x.ok):(x.put gs hs).ok:=⟨hx.1,hx.2.map fun t ht=>Ty.put_fw ht⟩
def Fi.bad (fs:List Fi) (f:Fi):Prop:= ∀g,fs.find? (fun y=>dq (y.s=f.s))=some g->f.t≠g.t∨(f.v=true/\g.v=false)
def Ca.bad (cs:List Ca) (f:Ca):Prop:= ∀g,cs.find? (fun y=>dq (y.s=f.s))=some g->f.ts≠g.ts
noncomputable def No.mf (x:No) (fs:List Fi) (j:Nat):List Rz:=((x.fs.take j).filter fun f=>dq (f.bad fs)).map fun f=>(4,ZDJ [x.s,f.s])
noncomputable def No.mc (x:No) (cs:List Ca) (j:Nat):List Rz:=((x.cs.take j).filter fun f=>dq (f.bad cs)).map fun f=>(4,ZDJ [x.s,f.s])
noncomputable def No.mems (x:No) (fs:List Fi) (cs:List Ca):List Rz:=x.mf fs x.fs.length++x.mc cs x.cs.length
noncomputable def No.cmp (x y:No):List Rz:=
 if dq (x.k=y.k/\x.gs.length=y.gs.length/\x.m=y.m/\x.f=y.f) then
  if x.f then if dq (x.fs=y.fs.map (Fi.put y.gs x.gs)/\x.cs=y.cs.map (Ca.put y.gs x.gs)) then [] else [(3,ZDJ [x.s])]
  else x.mems (y.fs.map (Fi.put y.gs x.gs)) (y.cs.map (Ca.put y.gs x.gs))
 else [(2,ZDJ [x.s])]
noncomputable def No.rs (m2:Mo) (x:No):List Rz:=match m2.ns.find? fun y=>dq (y.s=x.s) with
 | none=>[(1,ZDJ [x.s])]
 | some y=>x.cmp y
def No.okn (x:No):Prop:=x.ok/\Sns x.gs
def Fi.bad_none {fs:List Fi} {f:Fi} (h: ∀g∈fs,g.s≠f.s):f.bad fs:=fun g hg=>by rw [ZEC (f:=Fi.s) h] at hg;cases hg
def Fi.bad_at {fs:List Fi} {f:Fi} {j:Nat} (h:At Fi.s fs f.s j):f.bad fs↔f.t≠(fs[j]'h.1).t∨(f.v=true/\(fs[j]'h.1).v=false):=
 ⟨fun hb=>hb _ (ZD2 h),fun hb g hg=>by rw [ZD2 h] at hg;injection hg with hg;rw [<-hg];exact hb⟩
def Ca.bad_none {fs:List Ca} {f:Ca} (h: ∀g∈fs,g.s≠f.s):f.bad fs:=fun g hg=>by rw [ZEC (f:=Ca.s) h] at hg;cases hg
def Ca.bad_at {fs:List Ca} {f:Ca} {j:Nat} (h:At Ca.s fs f.s j):f.bad fs↔f.ts≠(fs[j]'h.1).ts:=
 ⟨fun hb=>hb _ (ZD2 h),fun hb g hg=>by rw [ZD2 h] at hg;injection hg with hg;rw [<-hg];exact hb⟩
def ZD4 {α:Type} {p:α->Bool} {l:List α} {j:Nat} (hj:j<l.length) (h:p l[j]=true):(l.take (j+1)).filter p=(l.take j).filter p++[l[j]]:=by
 rw [Ym,Ya hj,List.filter_append];simp [h]
def ZEc {α:Type} {p:α->Bool} {l:List α} {j:Nat} (hj:j<l.length) (h:p l[j]=false):(l.take (j+1)).filter p=(l.take j).filter p:=by
 rw [Ym,Ya hj,List.filter_append];simp [h]
def ZDK {α:Type} {p:α->Bool} {l:List α} {i j:Nat} (h:i<=j):((l.take i).filter p).length<=((l.take j).filter p).length:=by
 rw [show l.take i=(l.take j).take i by rw [List.take_take,Nat.min_eq_left h]]
 conv=>rhs;rw [<-List.take_append_drop i (l.take j),List.filter_append,YE]
 omega
def No.mf_yes {x:No} {fs:List Fi} {j:Nat} (hj:j<x.fs.length) (h:(x.fs[j]).bad fs):x.mf fs (j+1)=x.mf fs j++[(4,ZDJ [x.s,x.fs[j].s])]:=by
 rw [No.mf,ZD4 hj (ZDz h),YB];rfl
def No.mf_no {x:No} {fs:List Fi} {j:Nat} (hj:j<x.fs.length) (h: ¬(x.fs[j]).bad fs):x.mf fs (j+1)=x.mf fs j:=by
 rw [No.mf,ZEc hj (ZDy h)];rfl
def No.mf_le {x:No} {fs:List Fi} {i j:Nat} (h:i<=j):(x.mf fs i).length<=(x.mf fs j).length:=by
 rw [No.mf,No.mf,Yh,Yh];exact ZDK h
def No.mc_yes {x:No} {fs:List Ca} {j:Nat} (hj:j<x.cs.length) (h:(x.cs[j]).bad fs):x.mc fs (j+1)=x.mc fs j++[(4,ZDJ [x.s,x.cs[j].s])]:=by
 rw [No.mc,ZD4 hj (ZDz h),YB];rfl
def No.mc_no {x:No} {fs:List Ca} {j:Nat} (hj:j<x.cs.length) (h: ¬(x.cs[j]).bad fs):x.mc fs (j+1)=x.mc fs j:=by
 rw [No.mc,ZEc hj (ZDy h)];rfl
def No.mc_le {x:No} {fs:List Ca} {i j:Nat} (h:i<=j):(x.mc fs i).length<=(x.mc fs j).length:=by
 rw [No.mc,No.mc,Yh,Yh];exact ZDK h
def ZFM (H:HG S) {m1 m2:Mo} {b:List Rz} (hm:Ok No.okn m2.ns) {x:No} (hx:x.okn) (hb:(b++x.rs m2).length<68719476736) (hQ:Q [] [RS m1 m2 (b++x.rs m2)]):
  Gives S ZdY [.one (.ref ⟨false,0,0⟩),.agg (x.row.map .p)] [RS m1 m2 b] Q:=by
 obtain ⟨⟨x1,x2,x3,x4⟩,x5⟩:=hx
 have x1':=x1.1
 have gx:(strs x.gs).length=x.gs.length:=by simp [strs]
 refine .code H.ifaceReasonsNominalq rfl ?_
 simp(disch:=omega)[ZgU]
 refine Zng H (m:=m2) hm.1 (fun h=>?_) (fun j h=>?_)
 ·rw [show x.rs m2=[(1,ZDJ [x.s])] from by rw [No.rs,ZEC h]] at hb hQ
  simp(disch:=omega)
  refine ZEi H (ns:=[x.s]) Zs Ze hb ?_
  simp(disch:=omega)
  simpa [RS] using hQ
 ·have hj:=h.1
  obtain ⟨⟨y1,y2,y3,y4⟩,y5⟩:=hm.get hj
  rw [show x.rs m2=x.cmp m2.ns[j] from by rw [No.rs,ZD2 h]] at hb hQ
  generalize m2.ns[j]=y at*
  have gy:(strs y.gs).length=y.gs.length:=by simp [strs]
  have fail: ¬(x.k=y.k/\x.gs.length=y.gs.length/\x.m=y.m/\x.f=y.f)->x.cmp y=[(2,ZDJ [x.s])]:=fun h=>by rw [No.cmp,ZDy h];rfl
  by_cases c1:x.k=y.k
  ·by_cases c2:x.gs.length=y.gs.length
   ·by_cases c3:x.m=y.m
    ·by_cases c4:x.f=y.f
     ·simp(disch:=omega)[c1,c2,c3,c4,gx,gy]
      refine ZEy H Zo ?_
      simp(disch:=omega)
      have gf:=y3.1
      have gc:=y4.1
      have z3:Ok Fi.ok (y.fs.map (Fi.put y.gs x.gs)):=y3.map Fi.put_ok
      have z4:Ok Ca.ok (y.cs.map (Ca.put y.gs x.gs)):=y4.map Ca.put_ok
      have hcmp:x.cmp y=if x.f then if dq (x.fs=y.fs.map (Fi.put y.gs x.gs)/\x.cs=y.cs.map (Ca.put y.gs x.gs)) then [] else [(3,ZDJ [x.s])]
        else x.mems (y.fs.map (Fi.put y.gs x.gs)) (y.cs.map (Ca.put y.gs x.gs)):=by rw [No.cmp,ZDz ⟨c1,c2,c3,c4⟩];rfl
      rw [hcmp] at hb hQ
      obtain ⟨zf,hzf⟩: ∃zf,zf=y.fs.map (Fi.put y.gs x.gs):=⟨_,rfl⟩
      obtain ⟨zc,hzc⟩: ∃zc,zc=y.cs.map (Ca.put y.gs x.gs):=⟨_,rfl⟩
      rw [<-hzf,<-hzc] at hb hQ
      rw [<-hzf] at z3
      rw [<-hzc] at z4
      have gzf:zf.length=y.fs.length:=by rw [hzf,Yh]
      have gzc:zc.length=y.cs.length:=by rw [hzc,Yh]
      refine Lp.rule (fun (j:Nat)=>[(0,.a (.one (.ref ⟨false,0,0⟩))),fR 3,fR 4,fR 7,(8,.a (.one (.tip 6 ((zf.map Fi.row).take j)))),(79,.a (.one (.l 6 (y.fs.map Fi.row)))),(80,.a (pi y.fs.length)),(81,.a (pi j)),(9999,.objs [RS m1 m2 b]),
       (10003,.a (.agg (x.row.map .p))),(10004,.a (.agg (y.row.map .p))),(10007,.a (.agg (ren y.gs x.gs)))]) (fun j=>j<=y.fs.length) (fun j=>y.fs.length-j) (a₀:=0) (by simp [c1,c3,c4]) (Yd _) ?_
      intro j k1
      by_cases hj:j<y.fs.length
      ·simp(disch:=omega)
       refine ZER H y2 x5.1 (y3.get hj).2 ?_
       simp(disch:=omega)
       exact RdN.mk (j+1) (by simp [hzf,Ym,Ya hj,Fi.put]) hj Zo
      ·simp(disch:=omega)
       rw [Yg Ze]
       refine Lp.rule (fun (j:Nat)=>[(0,.a (.one (.ref ⟨false,0,0⟩))),fR 3,fR 7,(8,.a (.one (.tip 6 (zf.map Fi.row)))),(11,.a (.one (.tip 3 ((zc.map Ca.row).take j)))),(96,.a (.one (.l 3 (y.cs.map Ca.row)))),(97,.a (pi y.cs.length)),(98,.a (pi j)),(9999,.objs [RS m1 m2 b]),
        (10003,.a (.agg (x.row.map .p))),(10007,.a (.agg (ren y.gs x.gs)))]) (fun j=>j<=y.cs.length) (fun j=>y.cs.length-j) (a₀:=0) Zs (Yd _) ?_
       intro j k1
       by_cases hj:j<y.cs.length
       ·simp(disch:=omega)
        refine ZF6 H y2 x5.1 (y4.get hj).2 ?_
        simp(disch:=omega)
        exact RdN.mk (j+1) (by simp [hzc,Ym,Ya hj,Ca.put]) hj Zo
       ·simp(disch:=omega)
        rw [Yg Ze]
        clear hcmp hzf hzc
        cases hxf:x.f
        ·rw [hxf] at hb hQ
         simp only [Yw,if_false,No.mems] at hb hQ
         rw [<-Yu] at hb hQ
         have gxf:=x3.1
         have gxc:=x4.1
         simp(disch:=omega)
         refine Lp.rule (fun (j:Nat)=>[(0,.a (.one (.ref ⟨false,0,0⟩))),fR 3,(8,.a (.one (.tip 6 (zf.map Fi.row)))),(11,.a (.one (.tip 3 (zc.map Ca.row)))),(132,.a (.one (.l 6 (x.fs.map Fi.row)))),(133,.a (pi x.fs.length)),(134,.a (pi j)),
          (9999,.objs [RS m1 m2 (b++x.mf zf j)]),(10003,.a (.agg (x.row.map .p)))]) (fun j=>j<=x.fs.length) (fun j=>x.fs.length-j) (a₀:=0) (by simp [hxf,No.mf]) (Yd _) ?_
         intro j k1
         by_cases hj:j<x.fs.length
         ·have hle:=No.mf_le (x:=x) (fs:=zf) (i:=j+1) hj
          have hok:=x3.get hj
          simp(disch:=omega)[cloR]
          refine ZFW H.slicesIndexFuncLApiFieldApiField z3.1 (fun _ _=>rfl) (os:=[(x.fs[j].row.map .p)]) (p:=fun g=>dq (g.s=x.fs[j].s)) (Pass.dat rfl) PassR.nil (by simp [PassR]) (fun g hg Q hQ=>?_) (fun hno=>?_) (fun i hi hi1 hi2=>?_)
          ·simp [ZDB]
           refine .code H.ifaceReasonsNominalX1q rfl ?_
           simp(disch:=omega)[Zgb]
           by_cases e:g.s=x.fs[j].s
           ·rw [ZDz e] at hQ
            simp(disch:=omega)[e]
            exact hQ
           ·rw [ZDy e] at hQ
            simp(disch:=omega)[e]
            exact hQ
          ·have hy:=No.mf_yes hj (Fi.bad_none fun g hg=>ZEg.1 (hno g hg))
           simp(disch:=omega)
           refine ZEi H (l:=b++x.mf zf j) (ns:=[x.s,x.fs[j].s]) Zs (by have:=hok.1.1;simp;omega) (by rw [Yu,<-hy];simp at hb⊢;omega) ?_
           simp(disch:=omega)
           exact RdN.mk (j+1) (by rw [hy];simp [RS]) hj Zo
          ·have hat:At Fi.s zf x.fs[j].s i:=⟨hi,ZD3.1 hi1,fun g hg=>ZEg.1 (hi2 g hg)⟩
           have hbd:=Fi.bad_at hat
           simp(disch:=omega)
           refine ZEE H hok.2 (z3.get hi).2 ?_
           by_cases e1:x.fs[j].t=zf[i].t
           ·rw [ZDz e1]
            cases e2:x.fs[j].v
            ·have hy:=No.mf_no (fs:=zf) hj (by rw [hbd];simp [e1,e2])
             simp(disch:=omega)[e2]
             exact RdN.mk (j+1) (by rw [hy];simp [RS]) hj Zo
            ·cases e3:zf[i].v
             ·have hy:=No.mf_yes (fs:=zf) hj (by rw [hbd];simp [e2,e3])
              simp(disch:=omega)[e2,e3]
              refine ZEi H (l:=b++x.mf zf j) (ns:=[x.s,x.fs[j].s]) Zs (by have:=hok.1.1;simp;omega) (by rw [Yu,<-hy];simp at hb⊢;omega) ?_
              simp(disch:=omega)
              exact RdN.mk (j+1) (by rw [hy];simp [RS]) hj Zo
             ·have hy:=No.mf_no (fs:=zf) hj (by rw [hbd];simp [e1,e3])
              simp(disch:=omega)[e2,e3]
              exact RdN.mk (j+1) (by rw [hy];simp [RS]) hj Zo
           ·have hy:=No.mf_yes (fs:=zf) hj (by rw [hbd];exact .inl e1)
            rw [ZDy e1]
            simp(disch:=omega)
            refine ZEi H (l:=b++x.mf zf j) (ns:=[x.s,x.fs[j].s]) Zs (by have:=hok.1.1;simp;omega) (by rw [Yu,<-hy];simp at hb⊢;omega) ?_
            simp(disch:=omega)
            exact RdN.mk (j+1) (by rw [hy];simp [RS]) hj Zo
         ·simp(disch:=omega)
          rw [show j=x.fs.length by omega]
          obtain ⟨b',hb'⟩: ∃b',b'=b++x.mf zf x.fs.length:=⟨_,rfl⟩
          rw [<-hb'] at hb hQ⊢
          refine Lp.rule (fun (j:Nat)=>[(0,.a (.one (.ref ⟨false,0,0⟩))),fR 3,(11,.a (.one (.tip 3 (zc.map Ca.row)))),(175,.a (.one (.l 3 (x.cs.map Ca.row)))),(176,.a (pi x.cs.length)),(177,.a (pi j)),
           (9999,.objs [RS m1 m2 (b'++x.mc zc j)]),(10003,.a (.agg (x.row.map .p)))]) (fun j=>j<=x.cs.length) (fun j=>x.cs.length-j) (a₀:=0) (by simp [hxf,No.mc]) (Yd _) ?_
          intro j k1
          by_cases hj:j<x.cs.length
          ·have hle:=No.mc_le (x:=x) (fs:=zc) (i:=j+1) hj
           have hok:=x4.get hj
           simp(disch:=omega)[cloR]
           refine ZFW H.slicesIndexFuncLApiCaseApiCase z4.1 (fun _ _=>rfl) (os:=[(x.cs[j].row.map .p)]) (p:=fun g=>dq (g.s=x.cs[j].s)) (Pass.dat rfl) PassR.nil (by simp [PassR]) (fun g hg Q hQ=>?_) (fun hno=>?_) (fun i hi hi1 hi2=>?_)
           ·simp [ZDB]
            refine .code H.ifaceReasonsNominalX2q rfl ?_
            simp(disch:=omega)[ZDH]
            by_cases e:g.s=x.cs[j].s
            ·rw [ZDz e] at hQ
             simp(disch:=omega)[e]
             exact hQ
            ·rw [ZDy e] at hQ
             simp(disch:=omega)[e]
             exact hQ
           ·have hy:=No.mc_yes hj (Ca.bad_none fun g hg=>ZEg.1 (hno g hg))
            simp(disch:=omega)
            refine ZEi H (l:=b'++x.mc zc j) (ns:=[x.s,x.cs[j].s]) Zs (by have:=hok.1.1;simp;omega) (by rw [Yu,<-hy];simp at hb⊢;omega) ?_
            simp(disch:=omega)
            exact RdN.mk (j+1) (by rw [hy];simp [RS]) hj Zo
           ·have hat:At Ca.s zc x.cs[j].s i:=⟨hi,ZD3.1 hi1,fun g hg=>ZEg.1 (hi2 g hg)⟩
            have hbd:=Ca.bad_at hat
            simp(disch:=omega)
            refine ZEp H hok.2 (z4.get hi).2 ?_
            by_cases e1:x.cs[j].ts=zc[i].ts
            ·have hy:=No.mc_no (fs:=zc) hj (by rw [hbd];simp [e1])
             rw [ZDz e1]
             simp(disch:=omega)
             exact RdN.mk (j+1) (by rw [hy];simp [RS]) hj Zo
            ·have hy:=No.mc_yes (fs:=zc) hj (by rw [hbd];exact e1)
             rw [ZDy e1]
             simp(disch:=omega)
             refine ZEi H (l:=b'++x.mc zc j) (ns:=[x.s,x.cs[j].s]) Zs (by have:=hok.1.1;simp;omega) (by rw [Yu,<-hy];simp at hb⊢;omega) ?_
             simp(disch:=omega)
             exact RdN.mk (j+1) (by rw [hy];simp [RS]) hj Zo
          ·simp(disch:=omega)
           rw [show j=x.cs.length by omega]
           exact hQ
        ·rw [hxf] at hb hQ
         simp only [if_true] at hb hQ
         simp(disch:=omega)
         refine ZFT H x3 z3 ?_
         by_cases e1:x.fs=zf
         ·rw [ZDz e1]
          simp(disch:=omega)
          refine ZFA H x4 z4 ?_
          by_cases e2:x.cs=zc
          ·rw [ZDz ⟨e1,e2⟩] at hb hQ
           rw [ZDz e2]
           simp(disch:=omega)
           simpa [RS] using hQ
          ·rw [ZDy fun h=>e2 h.2] at hb hQ
           rw [ZDy e2]
           simp(disch:=omega)
           refine ZEi H (ns:=[x.s]) Zs Ze hb ?_
           simp(disch:=omega)
           simpa [RS] using hQ
         ·rw [ZDy fun h=>e1 h.1] at hb hQ
          rw [ZDy e1]
          simp(disch:=omega)
          refine ZEi H (ns:=[x.s]) Zs Ze hb ?_
          simp(disch:=omega)
          simpa [RS] using hQ
     ·rw [fail (by simp [c4])] at hb hQ
      have c4':(x.f !=y.f)=true:=by simpa using c4
      simp(disch:=omega)[c1,c2,c3,c4',gx,gy]
      refine ZEi H (ns:=[x.s]) Zs Ze hb ?_
      simp(disch:=omega)
      simpa [RS] using hQ
    ·rw [fail (by simp [c3])] at hb hQ
     have c3':(x.m !=y.m)=true:=by simpa using c3
     simp(disch:=omega)[c1,c2,c3',gx,gy]
     refine ZEi H (ns:=[x.s]) Zs Ze hb ?_
     simp(disch:=omega)
     simpa [RS] using hQ
   ·rw [fail (by simp [c2])] at hb hQ
    simp(disch:=omega)[c1,c2,gx,gy]
    refine ZEi H (ns:=[x.s]) Zs Ze hb ?_
    simp(disch:=omega)
    simpa [RS] using hQ
  ·rw [fail (by simp [c1])] at hb hQ
   simp(disch:=omega)[c1]
   refine ZEi H (ns:=[x.s]) Zs Ze hb ?_
   simp(disch:=omega)
   simpa [RS] using hQ
abbrev st3 (m1 m2 m:Mo) (b:List Rz):List LC:=[m.cs',[.ref ⟨false,2,0⟩],RS m1 m2 b]
def ZEn {m1 m2 m:Mo} {b:List Rz}:Pass (st3 m1 m2 m b):=⟨by simp [R.down],by simp [R.up],by simp [C.clean]⟩
def ZFc (H:HG S) {m1 m2 m:Mo} {l:List Rz} {c:Int} {ns:List LN} (hn:ns.length<=2) (hs: ∀s∈ns,s.length<=300000) (hl:(l++[(c,ZDJ ns)]).length<68719476736) (hQ:Q [] (st3 m1 m2 m (l++[(c,ZDJ ns)]))):
 Gives S ZaE [.one (.ref ⟨false,2,0⟩),pi c,.one (.l 1 (ns.map fun x=>[.str x]))] (st3 m1 m2 m l) Q:=ZGE H ZEn rfl hn hs hl hQ
noncomputable def Pr.rs (m2:Mo) (p:Pr):List Rz:=match m2.ps.find? fun q=>dq (q.s=p.s) with
 | none=>[(1,ZDJ [p.s])]
 | some q=>if dq (p.as=q.as/\p.ms.map Me.bare=q.ms.map Me.bare) then [] else [(5,ZDJ [p.s])]
def ZGV (H:HG S) {m1 m2 m:Mo} {b:List Rz} (hm:Ok Pr.ok m.ps) {p:Pr} (hp:p.ok) (hb:(b++p.rs m).length<68719476736) (hQ:Q [] (st3 m1 m2 m (b++p.rs m))):
  Gives S Zgy [.agg (p.row.map .p),.one (.ref ⟨false,0,0⟩),.one (.ref ⟨false,1,0⟩)] (st3 m1 m2 m b) Q:=by
 have p1:=hp.1.1
 refine .code H.ifaceReasonsX1 rfl ?_
 simp(disch:=omega)[Zk4]
 refine ZDS H (m:=m) hm.1 (fun h=>?_) (fun j h=>?_)
 ·rw [show p.rs m=[(1,ZDJ [p.s])] from by rw [Pr.rs,ZEC h]] at hb hQ
  simp(disch:=omega)
  refine ZFc H (m:=m) (ns:=[p.s]) Zs Ze hb ?_
  simp(disch:=omega)
  exact hQ
 ·have hj:=h.1
  have hq:=hm.get hj
  rw [show p.rs m=if dq (p.as=m.ps[j].as/\p.ms.map Me.bare=m.ps[j].ms.map Me.bare) then [] else [(5,ZDJ [p.s])] from by rw [Pr.rs,ZD2 h]] at hb hQ
  simp(disch:=omega)
  refine ZFP H hp.2.1 hq.2.1 ?_
  by_cases e1:p.as=m.ps[j].as
  ·rw [ZDz e1]
   simp(disch:=omega)
   refine ZFN H hp.2.2 hq.2.2 ?_
   by_cases e2:p.ms.map Me.bare=m.ps[j].ms.map Me.bare
   ·rw [ZDz ⟨e1,e2⟩] at hb hQ
    rw [ZDz e2]
    simp(disch:=omega)
    simpa using hQ
   ·rw [ZDy fun h=>e2 h.2] at hb hQ
    rw [ZDy e2]
    simp(disch:=omega)
    refine ZFc H (m:=m) (ns:=[p.s]) Zs Ze hb ?_
    simp(disch:=omega)
    exact hQ
  ·rw [ZDy fun h=>e1 h.1] at hb hQ
   rw [ZDy e1]
   simp(disch:=omega)
   refine ZFc H (m:=m) (ns:=[p.s]) Zs Ze hb ?_
   simp(disch:=omega)
   exact hQ
noncomputable def Co.rsn (m2:Mo) (c:Co):List Rz:=match m2.cs.find? fun d=>dq (d.nm=c.nm) with
 | none=>[(6,ZDJ [c.nm])]
 | some d=>if dq (c.sim d) then [] else [(6,ZDJ [c.nm])]
def Co.nm_len {c:Co} (h:c.oks):c.nm.length<=20000:=by have:=h.1.1.1;have:=h.2;simp [Co.nm];omega
def ZGS (H:HG S) {m1 m2 m:Mo} {b:List Rz} (hm:Ok Co.okn m.cs) {c:Co} (hc:c.okn) (hb:(b++c.rsn m).length<68719476736) (hQ:Q [] (st3 m1 m2 m (b++c.rsn m))):
  Gives S Zls [.agg (c.row.map .p),.one (.ref ⟨false,0,0⟩),.one (.ref ⟨false,1,0⟩)] (st3 m1 m2 m b) Q:=by
 have c1:=Co.nm_len hc.1
 refine .code H.ifaceReasonsX2 rfl ?_
 simp(disch:=omega)[ZD0]
 refine ZDT H hc.1 ?_
 simp(disch:=omega)
 refine ZFy H (m:=m) ⟨hm.1,fun x hx=>(hm.2 x hx).1⟩ (fun h=>?_) (fun j h=>?_)
 ·rw [show c.rsn m=[(6,ZDJ [c.nm])] from by rw [Co.rsn,ZEC h]] at hb hQ
  simp(disch:=omega)
  refine ZDT H hc.1 ?_
  simp(disch:=omega)
  refine ZFc H (m:=m) (ns:=[c.nm]) Zs Ze hb ?_
  simp(disch:=omega)
  exact hQ
 ·have hj:=h.1
  have hd:=hm.get hj
  rw [show c.rsn m=if dq (c.sim m.cs[j]) then [] else [(6,ZDJ [c.nm])] from by rw [Co.rsn,ZD2 h]] at hb hQ
  simp(disch:=omega)
  refine ZFk H hc hd ?_
  by_cases e1:c.sim m.cs[j]
  ·rw [ZDz e1] at hb hQ⊢
   simp(disch:=omega)
   simpa using hQ
  ·rw [ZDy e1] at hb hQ⊢
   simp(disch:=omega)
   refine ZDT H hc.1 ?_
   simp(disch:=omega)
   refine ZFc H (m:=m) (ns:=[c.nm]) Zs Ze hb ?_
   simp(disch:=omega)
   exact hQ
def ZFo {α:Type} {l:List α} {p:α->Bool}:(l.find? p).isSome=l.any p:=by
 rw [Bool.eq_iff_iff,List.find?_isSome,List.any_eq_true]
def ZFQ {α:Type} {f:α->LN} {l:List α} {s:LN} {j:Nat} (h:At f l s j):l.any (fun y=>dq (f y=s))=true:=by rw [<-ZFo,ZD2 h];rfl
def ZFU {α:Type} {f:α->LN} {l:List α} {s:LN} (h: ∀x∈l,f x≠s):l.any (fun y=>dq (f y=s))=false:=by rw [<-ZFo,ZEC h];rfl
noncomputable def Co.news (m:Mo) (c:Co):List Rz:=if (m.ns.any (fun y=>dq (y.s=c.t.s)) && m.ps.any fun y=>dq (y.s=c.p)) && !m.cs.any (fun y=>dq (y.nm=c.nm)) then [(10,ZDJ [c.nm])] else []
def ZGU (H:HG S) {m1 m2 m:Mo} {b:List Rz} (hn:Ok No.ok m.ns) (hp:Ok Pr.ok m.ps) (hm:Ok Co.okn m.cs) {c:Co} (hc:c.okn) (hb:(b++c.news m).length<68719476736) (hQ:Q [] (st3 m1 m2 m (b++c.news m))):
  Gives S ZkL [.agg (c.row.map .p),.one (.ref ⟨false,0,0⟩),.one (.ref ⟨false,1,0⟩)] (st3 m1 m2 m b) Q:=by
 have c1:=Co.nm_len hc.1
 refine .code H.ifaceReasonsX4 rfl ?_
 simp(disch:=omega)[ZDY]
 refine Zng H (m:=m) hn.1 (fun h=>?_) (fun j h=>?_)
 ·rw [show c.news m=[] from by rw [Co.news,ZFU h];rfl] at hb hQ
  simp(disch:=omega)
  refine ZDS H (m:=m) hp.1 (fun h2=>?_) (fun j2 h2=>?_)<;>simp(disch:=omega)<;>refine ZDT H hc.1 ?_<;>simp(disch:=omega)<;>refine ZFy H (m:=m) ⟨hm.1,fun x hx=>(hm.2 x hx).1⟩ (fun h3=>?_) (fun j3 h3=>?_)<;>simp(disch:=omega)<;>simpa using hQ
 ·have hj:=h.1
  simp(disch:=omega)
  refine ZDS H (m:=m) hp.1 (fun h2=>?_) (fun j2 h2=>?_)
  ·rw [show c.news m=[] from by rw [Co.news,ZFU h2];simp] at hb hQ
   simp(disch:=omega)
   refine ZDT H hc.1 ?_
   simp(disch:=omega)
   refine ZFy H (m:=m) ⟨hm.1,fun x hx=>(hm.2 x hx).1⟩ (fun h3=>?_) (fun j3 h3=>?_)<;>simp(disch:=omega)<;>simpa using hQ
  ·have hj2:=h2.1
   simp(disch:=omega)
   refine ZDT H hc.1 ?_
   simp(disch:=omega)
   refine ZFy H (m:=m) ⟨hm.1,fun x hx=>(hm.2 x hx).1⟩ (fun h3=>?_) (fun j3 h3=>?_)
   ·rw [show c.news m=[(10,ZDJ [c.nm])] from by rw [Co.news,ZFQ h,ZFQ h2,ZFU h3];rfl] at hb hQ
    simp(disch:=omega)
    refine ZDT H hc.1 ?_
    simp(disch:=omega)
    refine ZFc H (m:=m) (ns:=[c.nm]) Zs Ze hb ?_
    simp(disch:=omega)
    exact hQ
   ·rw [show c.news m=[] from by rw [Co.news,ZFQ h3];simp] at hb hQ
    have hj3:=h3.1
    simp(disch:=omega)
    simpa using hQ
abbrev st2 (m1 m2:Mo) (b:List Rz):List LC:=[RS m1 m2 b,[.ref ⟨false,0,0⟩]]
def ZES {m1 m2:Mo} {b:List Rz}:Pass (st2 m1 m2 b):=⟨by simp [R.down],by simp [R.up],by simp [C.clean]⟩
def ZGb (H:HG S) {m1 m2:Mo} {l:List Rz} {c:Int} {ns:List LN} (hn:ns.length<=2) (hs: ∀s∈ns,s.length<=300000) (hl:(l++[(c,ZDJ ns)]).length<68719476736) (hQ:Q [] (st2 m1 m2 (l++[(c,ZDJ ns)]))):
 Gives S ZaE [.one (.ref ⟨false,0,0⟩),pi c,.one (.l 1 (ns.map fun x=>[.str x]))] (st2 m1 m2 l) Q:=ZGE H ZES rfl hn hs hl hQ
noncomputable def Mo.meth (m:Mo) (s:LN):Bool:=m.ps.any fun p=>p.ms.any fun f=>dq (f.s=s)
noncomputable def Mo.fld (m:Mo) (s:LN):Bool:=m.ns.any fun x=>x.has s
noncomputable def Pr.ch (m:Mo) (p:Pr) (j:Nat):List Rz:=((p.ms.take j).filter fun f=>m.meth f.s||m.fld f.s).map fun f=>(9,ZDJ [p.s,f.s])
noncomputable def Pr.chosen (m:Mo) (p:Pr):List Rz:=if m.ps.any fun y=>dq (y.s=p.s) then [] else p.ch m p.ms.length
def Pr.ch_yes {m:Mo} {p:Pr} {j:Nat} (hj:j<p.ms.length) (h:(m.meth p.ms[j].s||m.fld p.ms[j].s)=true):p.ch m (j+1)=p.ch m j++[(9,ZDJ [p.s,p.ms[j].s])]:=by
 rw [Pr.ch,ZD4 hj h,YB];rfl
def Pr.ch_no {m:Mo} {p:Pr} {j:Nat} (hj:j<p.ms.length) (h:(m.meth p.ms[j].s||m.fld p.ms[j].s)=false):p.ch m (j+1)=p.ch m j:=by
 rw [Pr.ch,ZEc hj h];rfl
def Pr.ch_le {m:Mo} {p:Pr} {i j:Nat} (h:i<=j):(p.ch m i).length<=(p.ch m j).length:=by
 rw [Pr.ch,Pr.ch,Yh,Yh];exact ZDK h
def ZGZ (H:HG S) {m1 m2:Mo} {b:List Rz} (hn:Ok No.ok m1.ns) (hps:Ok Pr.ok m1.ps) {p:Pr} (hp:p.ok) (hb:(b++p.chosen m1).length<68719476736) (hQ:Q [] (st2 m1 m2 (b++p.chosen m1))):
  Gives S Zdq [.agg (p.row.map .p),.one (.ref ⟨false,1,0⟩)] (st2 m1 m2 b) Q:=by
 have p1:=hp.1.1
 have gp:=hp.2.2.1
 refine .code H.ifaceReasonsChosenX1q rfl ?_
 simp(disch:=omega)[Zgv]
 refine ZDS H (m:=m1) hps.1 (fun h=>?_) (fun j h=>?_)
 ·rw [Pr.chosen,ZFU h] at hb hQ
  simp only [Yw,if_false] at hb hQ
  simp(disch:=omega)
  refine Lp.rule (fun (j:Nat)=>[(1,.a (.one (.ref ⟨false,1,0⟩))),fR 2,(21,.a (.one (.l 10 (p.ms.map Me.row)))),(22,.a (pi p.ms.length)),(23,.a (pi j)),(9999,.objs (st2 m1 m2 (b++p.ch m1 j))),(10002,.a (.agg (p.row.map .p)))]) (fun j=>j<=p.ms.length) (fun j=>p.ms.length-j) (a₀:=0) (by simp [Pr.ch]) (Yd _) ?_
  intro j k1
  by_cases hj:j<p.ms.length
  ·have hle:=Pr.ch_le (m:=m1) (p:=p) (i:=j+1) hj
   have hok:=hp.2.2.get hj
   have hok1:=hok.1.1
   simp(disch:=omega)
   refine ZEH H (m:=m1) hps ?_
   cases hme:m1.meth p.ms[j].s
   ·simp only [Mo.meth] at hme
    have hme':m1.meth p.ms[j].s=false:=hme
    rw [hme]
    simp(disch:=omega)[cloR]
    refine ZFa H.slicesContainsFuncLApiNominalApiNominal H.slicesIndexFuncLApiNominalApiNominal hn.1 (fun _ _=>rfl) (os:=[(p.ms[j].row.map .p)]) (p:=fun x=>x.has p.ms[j].s) (Pass.dat rfl) PassR.nil (by simp [PassR]) (fun x hx Q hQ=>?_) ?_
    ·simp [ZDB]
     refine .code H.ifaceReasonsChosenX1X1q rfl ?_
     simp(disch:=omega)[ZDF]
     refine ZEM H (hn.2 x hx) ?_
     simp(disch:=omega)
     exact hQ
    ·cases hfe:m1.fld p.ms[j].s
     ·have hy:=Pr.ch_no (m:=m1) hj (by rw [hme',hfe];rfl)
      rw [Mo.fld] at hfe
      rw [hfe]
      simp(disch:=omega)
      exact RdN.mk (j+1) (by rw [hy];simp) hj Zo
     ·have hy:=Pr.ch_yes (m:=m1) hj (by rw [hfe,Bool.or_true])
      rw [Mo.fld] at hfe
      rw [hfe]
      simp(disch:=omega)
      refine ZGb H (l:=b++p.ch m1 j) (ns:=[p.s,p.ms[j].s]) Zs Ze (by rw [Yu,<-hy];simp at hb⊢;omega) ?_
      simp(disch:=omega)
      exact RdN.mk (j+1) (by rw [hy];simp) hj Zo
   ·have hy:=Pr.ch_yes (m:=m1) hj (by rw [hme];rfl)
    simp only [Mo.meth] at hme
    rw [hme]
    simp(disch:=omega)
    refine ZGb H (l:=b++p.ch m1 j) (ns:=[p.s,p.ms[j].s]) Zs Ze (by rw [Yu,<-hy];simp at hb⊢;omega) ?_
    simp(disch:=omega)
    exact RdN.mk (j+1) (by rw [hy];simp) hj Zo
  ·simp(disch:=omega)
   rw [show j=p.ms.length by omega]
   exact hQ
 ·rw [Pr.chosen,ZFQ h] at hb hQ
  simp only [if_true] at hb hQ
  have hj:=h.1
  simp(disch:=omega)
  simpa using hQ
noncomputable def No.ch (m:Mo) (x y:No) (j:Nat):List Rz:=((y.fs.take j).filter fun f=> !x.has f.s && m.meth f.s).map fun f=>(9,ZDJ [x.s,f.s])
noncomputable def No.chosen (m1 m2:Mo) (x:No):List Rz:=match m2.ns.find? fun y=>dq (y.s=x.s) with
 | none=>[]
 | some y=>if dq (x.k=2) then [] else x.ch m1 y y.fs.length
def No.ch_yes {m:Mo} {x y:No} {j:Nat} (hj:j<y.fs.length) (h:(!x.has y.fs[j].s && m.meth y.fs[j].s)=true):x.ch m y (j+1)=x.ch m y j++[(9,ZDJ [x.s,y.fs[j].s])]:=by
 rw [No.ch,ZD4 hj h,YB];rfl
def No.ch_no {m:Mo} {x y:No} {j:Nat} (hj:j<y.fs.length) (h:(!x.has y.fs[j].s && m.meth y.fs[j].s)=false):x.ch m y (j+1)=x.ch m y j:=by
 rw [No.ch,ZEc hj h];rfl
def No.ch_le {m:Mo} {x y:No} {i j:Nat} (h:i<=j):(x.ch m y i).length<=(x.ch m y j).length:=by
 rw [No.ch,No.ch,Yh,Yh];exact ZDK h
def ZGY (H:HG S) {m1 m2:Mo} {b:List Rz} (hn:Ok No.ok m2.ns) (hps:Ok Pr.ok m1.ps) {x:No} (hx:x.ok) (hb:(b++x.chosen m1 m2).length<68719476736) (hQ:Q [] (st2 m1 m2 (b++x.chosen m1 m2))):
  Gives S Zdp [.agg (x.row.map .p),.one (.ref ⟨false,1,0⟩)] (st2 m1 m2 b) Q:=by
 have x1:=hx.1.1
 refine .code H.ifaceReasonsChosenX2q rfl ?_
 simp(disch:=omega)[Zgs]
 refine Zng H (m:=m2) hn.1 (fun h=>?_) (fun j h=>?_)
 ·rw [show x.chosen m1 m2=[] from by rw [No.chosen,ZEC h]] at hb hQ
  simp(disch:=omega)
  simpa using hQ
 ·have hj:=h.1
  have hy:=hn.get hj
  rw [show x.chosen m1 m2=if dq (x.k=2) then [] else x.ch m1 m2.ns[j] m2.ns[j].fs.length from by rw [No.chosen,ZD2 h]] at hb hQ
  simp(disch:=omega)
  generalize m2.ns[j]=y at*
  have gy:=hy.2.2.1.1
  by_cases hk:x.k=2
  ·rw [ZDz hk] at hb hQ
   simp(disch:=omega)[hk]
   simpa using hQ
  ·rw [ZDy hk] at hb hQ
   simp only [Yw,if_false] at hb hQ
   simp(disch:=omega)[hk]
   refine Lp.rule (fun (j:Nat)=>[(1,.a (.one (.ref ⟨false,1,0⟩))),fR 2,(27,.a (.one (.l 6 (y.fs.map Fi.row)))),(28,.a (pi y.fs.length)),(29,.a (pi j)),(9999,.objs (st2 m1 m2 (b++x.ch m1 y j))),(10002,.a (.agg (x.row.map .p)))]) (fun j=>j<=y.fs.length) (fun j=>y.fs.length-j) (a₀:=0) (by simp [No.ch]) (Yd _) ?_
   intro j k1
   by_cases hj:j<y.fs.length
   ·have hle:=No.ch_le (m:=m1) (x:=x) (y:=y) (i:=j+1) hj
    have hok1:=(hy.2.2.1.get hj).1.1
    simp(disch:=omega)
    refine ZEM H hx ?_
    cases hfe:x.has y.fs[j].s
    ·simp(disch:=omega)
     refine ZEH H (m:=m1) hps ?_
     cases hme:m1.meth y.fs[j].s
     ·have hyy:=No.ch_no (m:=m1) (x:=x) hj (by rw [hme,Bool.and_false])
      rw [Mo.meth] at hme
      rw [hme]
      simp(disch:=omega)
      exact RdN.mk (j+1) (by rw [hyy];simp) hj Zo
     ·have hyy:=No.ch_yes (m:=m1) (x:=x) hj (by rw [hme,hfe];rfl)
      rw [Mo.meth] at hme
      rw [hme]
      simp(disch:=omega)
      refine ZGb H (l:=b++x.ch m1 y j) (ns:=[x.s,y.fs[j].s]) Zs Ze (by rw [Yu,<-hyy];simp at hb⊢;omega) ?_
      simp(disch:=omega)
      exact RdN.mk (j+1) (by rw [hyy];simp) hj Zo
    ·have hyy:=No.ch_no (m:=m1) (x:=x) hj (by rw [hfe];rfl)
     simp(disch:=omega)
     exact RdN.mk (j+1) (by rw [hyy];simp) hj Zo
   ·simp(disch:=omega)
    rw [show j=y.fs.length by omega]
    exact hQ
def ZGj (H:HG S) {m1 m2:Mo} {b:List Rz} (hn1:Ok No.ok m1.ns) (hn2:Ok No.ok m2.ns) (hp1:Ok Pr.ok m1.ps) (hp2:Ok Pr.ok m2.ps)
  (hb:(b++(ZDP Pr.s m2.ps).flatMap (Pr.chosen m1)++(ZDP No.s m1.ns).flatMap (No.chosen m1 m2)).length<68719476736)
  (hQ:Q [] [RS m1 m2 (b++(ZDP Pr.s m2.ps).flatMap (Pr.chosen m1)++(ZDP No.s m1.ns).flatMap (No.chosen m1 m2))]):
  Gives S Zej [.one (.ref ⟨false,0,0⟩)] [RS m1 m2 b] Q:=by
 refine .code H.ifaceReasonsChosenq rfl ?_
 simp(disch:=omega)[Zht,cloR]
 refine ZFb (N:=Zb4) (s:=3) (z:=[.s [],.tip 2 [],.tip 10 []]) H.ifaceFirstApiProtocolq rfl (first:=[]) (caps:=[⟨false,1,0⟩]) (st:=st2 m1 m2) (K:=2) (f:=Pr.s) (R:=Pr.chosen m1) hp2.1 (fun _ _=>rfl) (fun b=>ZES) (fun _=>rfl) PassR.nil (by simp [PassR]) (fun p hp b Q hQ=>?_) (fun p hp b Q hb hQ=>?_) (b:=b) ?_ ?_
 ·refine .code H.ifaceProtocolNameq rfl ?_
  simp(disch:=omega)[Zh8]
  exact hQ
 ·obtain ⟨i,hi,rfl,_⟩:=ZDI hp
  simp [ZDB]
  exact ZGZ H hn1 hp1 (hp2.get hi) hb hQ
 ·simp only [YE] at hb⊢;omega
 ·generalize b++(ZDP Pr.s m2.ps).flatMap (Pr.chosen m1)=b' at hb hQ⊢
  simp(disch:=omega)[cloR]
  refine ZFb (N:=Zci) (s:=17) H.ifaceFirstApiNominalq rfl (first:=[]) (caps:=[⟨false,1,0⟩]) (st:=st2 m1 m2) (K:=2) (f:=No.s) (R:=No.chosen m1 m2) hn1.1 (fun _ _=>rfl) (fun b=>ZES) (fun _=>rfl) PassR.nil (by simp [PassR]) (fun x hx b Q hQ=>?_) (fun x hx b Q hb hQ=>?_) (b:=b') hb ?_
  ·refine .code H.ifaceNominalNameq rfl ?_
   simp(disch:=omega)[ZiM]
   exact hQ
  ·obtain ⟨i,hi,rfl,_⟩:=ZDI hx
   simp [ZDB]
   exact ZGY H hn2 hp1 (hn1.get hi) hb hQ
  ·simp(disch:=omega)
   exact hQ
end Go.Am.Fe
end
