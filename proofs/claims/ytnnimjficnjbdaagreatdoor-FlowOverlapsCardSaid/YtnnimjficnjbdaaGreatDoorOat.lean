/- Part. -/
import Derived.Test.YtnnimjficnjbdaaGreatDoorOas
import Derived.Laws.Sem
set_option maxRecDepth 999999
set_option maxHeartbeats 0
set_option linter.all false
section
namespace Go.Am
variable [WI]
variable {Pg:Program}
def ZzU (Pg:Program):ResultVar->Res->Bool
 | .tmp t,.tmp k=>t==k && Nat.blt t OBJS
 | .cell a t,.cell k κ n=>a==k && Nat.blt a OBJS && Nat.ble BOX κ && ZgT Pg t n
 | _,_=>false
def Zsa (Pg:Program):List ResultVar->List Res->Bool
 | [],[]=>true
 | x::xs,y::ys=>ZzU Pg x y && Zsa Pg xs ys
 | _,_=>false
def ZiH (Pg:Program) (f:Nat) (F:SFunc):Bool:=
  match Pg.funcs[f]? with
  | some fn=>(match fn.body with
    | some c => fn.name != "runtime.NumGoroutine" && Nat.ble F.nargs fn.ntmps && Nat.blt fn.ntmps RESK && Zsa Pg fn.results.toList F.res && decide (F.res.map Res.key).Nodup && Zd4 Pg fn.ntmps c F.code
    | none=>false)
  | none=>false
def Zf2 (Pg:Program) (f:Nat) (p:List A->List (List C)->Option (List A×List (List C))):Prop:=
 ∀args os rs os',p args os=some (rs,os')->
  Zhz Pg f=true/\
  ∀(g:G) (w:World) (vs:List Value),ZdP g w vs args->(∀x∈args,x.clean=true)->(∀cs∈os,cs.all C.clean=true)->
   (∀(i:Nat) cs,os[i]? =some cs->Box g w (g.ω i) OBJS i cs)->(∀i j,i<os.length->j<os.length->g.ω i=g.ω j->i=j)->ZnQ g.pr g.ow w->WI.I g.pr w->
   (∀b,w.heap.size<=b∨(∃i,i<os.length/\b=g.ω i)->g.T b)->
   Calls Pg f vs.toArray w fun e w'=> ∃v g',e= .returned v/\Ext g.T g.pr g.ow w w' g'.pr g'.ow/\g'.T=g.T/\g'.ω=g.ω/\ZnQ g'.pr g'.ow w'/\
    RepD g' w' RESK v (resD rs)/\ ∀(i:Nat) cs,os'[i]? =some cs->Box g' w' (g.ω i) OBJS i cs
def FnOK (Pg:Program) (S:Nat->Option Fn):Prop:=
 ∀f,match S f with
 | some (.code F)=>ZiH Pg f F=true
 | some (.prim p)=>Zf2 Pg f p
 | none=>True
theorem ZqV: ∀(xs:List A) (k j:Nat) (r:Env),Env.get (enter k xs++r) j=if k<=j/\j<k+xs.length then (match xs[j-k]? with|some x=> .a x|none=> .undef) else Env.get r j
 | [],k,j,r=>by
   have: ¬(k<=j/\j<k+0):=by omega
   simp only [enter,List.nil_append,List.length_nil,this,if_false]
 | x::xs,k,j,r=>by
   simp only [enter,List.cons_append,Env.get]
   by_cases h:k=j
   · subst h
     simp
   · have hb:(k==j)=false:=by simp [h]
     rw [hb]
     simp only [Bool.false_eq_true,if_false]
     rw [ZqV xs (k+1) j r]
     by_cases h2:k+1<=j/\j<k+1+xs.length
     · rw [if_pos h2,if_pos Ze]
       rw [show j-k=(j-(k+1))+1 by omega]
       simp
     · rw [if_neg h2,if_neg Ze]
theorem Zqp {e:Env}: ∀{res:List Res} {rs:List A},ZpM e res=some rs->res.length=rs.length/\ ∀(j:Nat) r x,res[j]? =some r->rs[j]? =some x->r.get e=some x
 | [],rs,h=>by simp [ZpM] at h;subst h;exact ⟨rfl,fun j r x h=>by simp at h⟩
 | r::res,rs,h=>by
   unfold ZpM at h
   split at h
   · rename_i x xs h1 h2
     cases h
     obtain ⟨l,gt⟩:=Zqp h2
     refine ⟨by simp [l],fun j r' x' hr hx=>?_⟩
     cases j with
     | zero=>simp at hr hx;subst hr;subst hx;exact h1
     | succ j=>exact gt j r' x' (by simpa using hr) (by simpa using hx)
   · cases h
theorem Zoa: ∀{xs:List ResultVar} {ys:List Res},Zsa Pg xs ys=true->xs.length=ys.length/\ ∀(j:Nat) x y,xs[j]? =some x->ys[j]? =some y->ZzU Pg x y=true
 | [],[],_=>⟨rfl,fun j x y h=>by simp at h⟩
 | x::xs,y::ys,h=>by
   simp only [Zsa,Bool.and_eq_true] at h
   obtain ⟨l,gt⟩:=Zoa h.2
   refine ⟨by simp [l],fun j u v hu hv=>?_⟩
   cases j with
   | zero=>simp at hu hv;subst hu;subst hv;exact h.1
   | succ j=>exact gt j u v (by simpa using hu) (by simpa using hv)
 | [],_::_,h=>by cases h
 | _::_,[],h=>by cases h
def Zk0 (tmps:Array Value):ResultVar->Sem Value
 | .tmp t=>pure (tmps.getD t undef)
 | .cell a t=>do loadVar t (<-asAddr (tmps.getD a undef))
theorem Zj4 {α β:Type} {f:α->Sem β} {w:World}: ∀{xs:List α} {ys:List β},xs.length=ys.length->(∀(j:Nat) x y,xs[j]? =some x->ys[j]? =some y->(f x).run Pg w= .ok y w)->(xs.mapM f).run Pg w= .ok ys w
 | [],[],_,_=>by simp
 | x::xs,y::ys,hl,h=>by
   rw [List.mapM_cons]
   have h1:=h 0 x y rfl rfl
   have h2:=Zj4 (xs:=xs) (ys:=ys) (by simpa using hl) fun j u v hu hv=>h (j+1) u v (by simpa using hu) (by simpa using hv)
   rw [Sem.run_bind,h1,Result.andThen_ok,Sem.run_bind,h2,Result.andThen_ok]
   rfl
 | [],_::_,hl,_=>by simp at hl
 | _::_,[],hl,_=>by simp at hl
def retV:List Value->Value
 | [v]=>v
 | vs=> .tuple vs.toArray
theorem Zra {fn:Func} {tmps:Array Value} {w:World} {vs:List Value} (hl:fn.results.toList.length=vs.length)
  (h: ∀(j:Nat) x y,fn.results.toList[j]? =some x->vs[j]? =some y->(Zk0 tmps x).run Pg w= .ok y w):(results fn tmps).run Pg w= .ok (retV vs) w:=by
 have h1:(fn.results.mapM (Zk0 tmps)).run Pg w= .ok vs.toArray w:=by
  rw [Array.mapM_eq_mapM_toList]
  have:=Zj4 (Pg:=Pg) hl h
  change Sem.run Pg (fn.results.toList.mapM (Zk0 tmps)>>=fun x=>pure x.toArray) w=_
  rw [Sem.run_bind,this,Result.andThen_ok]
  rfl
 have h2:results fn tmps=(do let vs <-fn.results.mapM (Zk0 tmps);pure (if h:vs.size=1 then vs[0] else .tuple vs)):=rfl
 rw [h2,Sem.run_bind,h1,Result.andThen_ok]
 match vs with
 | []=>rfl
 | [v]=>rfl
 | _::_::_=>rfl
theorem Zr6 {F:SFunc} {e:Env} {rs:List A} {os:List (List C)} (h:ZrS F e=some (rs,os)): ∃rs0,ZpM e F.res=some rs0/\rs=Zks F.pl rs0/\e.get OBJS= .objs os:=by
 unfold ZrS at h
 split at h
 ·rename_i rs' os' h1 h2
  split at h
  ·cases h;exact ⟨rs',h1,rfl,h2⟩
  ·cases h
 ·cases h
theorem ZqK: ∀{bs:List Bool} {xs:List A},(Zks bs xs).length=xs.length/\ ∀(j:Nat) y,(Zks bs xs)[j]? =some y-> ∃x,xs[j]? =some x/\(y=x∨y=x.plain)
 | [],xs=>⟨by simp [Zks],fun j y h=>⟨y,by simpa [Zks] using h,.inl rfl⟩⟩
 | b::bs,[]=>⟨rfl,fun j y h=>by simp [Zks] at h⟩
 | b::bs,x::xs=>by
   obtain ⟨l,gt⟩:=ZqK (bs:=bs) (xs:=xs)
   refine ⟨by simp [Zks,l],fun j y h=>?_⟩
   cases j with
   | zero=>
     simp [Zks] at h
     refine ⟨x,rfl,?_⟩
     cases b
     · simp at h;exact .inl h.symm
     · simp at h;exact .inr h.symm
   | succ j=>obtain ⟨z,h1,h2⟩:=gt j y (by simpa [Zks] using h);exact ⟨z,by simpa using h1,h2⟩
theorem ZwF {g:G} {w:World} {k:Nat} {v:Value} {rs:List A} {bs:List Bool} (h:RepD g w k v (resD rs)):RepD g w k v (resD (Zks bs rs)):=by
 obtain ⟨l,gt⟩:=ZqK (bs:=bs) (xs:=rs)
 generalize Zks bs rs=ys at l gt
 have one: ∀{c:Nat} {u:Value} {x y:A},RepA g w k c u x->(y=x∨y=x.plain)->RepA g w k c u y:=fun hr hy=>by
   rcases hy with rfl|rfl
   · exact hr
   · exact hr.plain
 match rs,ys,l,h,gt with
 | [],[],_,h,_=>exact h
 | [x],[y],_,h,gt=>
   obtain ⟨z,h1,h2⟩:=gt 0 y rfl
   simp at h1;subst h1
   exact one (x:=x) h h2
 | x::x'::xs,y::y'::ys,l,h,gt=>
   obtain ⟨vs,q1,q2,q3⟩:=h
   refine ⟨vs,q1,by rw [q2];exact l.symm,fun j u z hu hz=>?_⟩
   obtain ⟨q,hq1,hq2⟩:=gt j z hz
   exact one (q3 j u q hu hq1) hq2
 | [],_::_,l,_,_=>simp at l
 | _::_,[],l,_,_=>simp at l
 | [_],_::_::_,l,_,_=>simp at l
 | _::_::_,[_],l,_,_=>simp at l
theorem Zry {l:List Nat} (hn:l.Nodup) {j k:Nat} (h:l[j]? =some k):l.idxOf? k=some j:=by
 have hil:=Zaq h
 rw [List.getElem?_eq_getElem hil] at h
 cases h
 rw [List.idxOf?_eq_some_iff]
 refine ⟨hil,rfl,fun i hi hh=>?_⟩
 exact absurd ((List.getElem_inj hn).1 hh) Zo
theorem ZoQ {g:G} {e:Env} {a:Act} {w:World} (hst:St g e a w) {fn:Func} {F:SFunc} {rs:List A} (hres:ZpM e F.res=some rs) (hok:Zsa Pg fn.results.toList F.res=true) (hn:(F.res.map Res.key).Nodup):
   ∃φ:Loc->Loc,((∀i m,φ (OBJS,i,m)=(OBJS,i,m))/\ ∀k c m,k∉F.res.map Res.key->φ (k,c,m)=(k,c,m))/\ ∃v,(results fn a.tmps).run Pg w= .ok v w/\RepD (g.remap φ) w RESK v (resD rs):=by
 obtain ⟨rl,rg⟩:=Zqp hres
 obtain ⟨ol,og⟩:=Zoa hok
 let base:Nat->Nat:=fun j=>if F.res.length=1 then 0 else 1+j
 let φ:Loc->Loc:=fun ℓ=>if ℓ.1=OBJS then ℓ else match (F.res.map Res.key).idxOf? ℓ.1 with|some j=>(RESK,base j,ℓ.2.2)|none=>ℓ
 have hφ: ∀(j:Nat) r,F.res[j]? =some r->r.key≠OBJS-> ∀i,φ (r.key,0,i)=(RESK,base j,i):=fun j r hr hk i=>by
   simp only [φ,hk,if_false]
   rw [Zry hn (j:=j) (by rw [List.getElem?_map,hr];rfl)]
 refine ⟨φ,⟨fun i m=>by simp [φ],fun k c m hk=>?_⟩,?_⟩
 · simp only [φ]
   split
   · rfl
   · rw [List.idxOf?_eq_none_iff.2 hk]
 obtain ⟨vs,vl,vq⟩:=Zmh F.res (fun j r v=> ∀x rv,rs[j]? =some x->fn.results.toList[j]? =some rv->(Zk0 a.tmps rv).run Pg w= .ok v w/\RepA (g.remap φ) w RESK (base j) v x) (fun j r hr=>by
   have hj:=Zaq hr
   have hx:rs[j]? =some (rs[j]'(by omega)):=List.getElem?_eq_getElem _
   have hv:fn.results.toList[j]? =some (fn.results.toList[j]'(by omega)):=List.getElem?_eq_getElem _
   generalize rs[j]'(by omega)=x at hx
   generalize fn.results.toList[j]'(by omega)=rv at hv
   have h1:=rg j r x hr hx
   have h2:=og j rv r hv hr
   suffices h: ∃v,(Zk0 a.tmps rv).run Pg w= .ok v w/\RepA (g.remap φ) w RESK (base j) v x by
     obtain ⟨v,hh⟩:=h
     refine ⟨v,fun x' rv' hx' hv'=>?_⟩
     rw [hx] at hx';rw [hv] at hv'
     cases hx';cases hv'
     exact hh
   cases r with
   | tmp k=>
     cases rv with
     | cell a t=>cases h2
     | tmp t=>
       simp only [ZzU,Bool.and_eq_true,beq_iff_eq] at h2
       obtain ⟨rfl,h2⟩:=h2
       have hk:=Nat.blt_eq.mp h2
       simp only [Res.get] at h1
       split at h1
       · rename_i x' hx'
         cases h1
         have hrep:=(hst.key t).tm hk
         rw [hx'] at hrep
         refine ⟨_,rfl,RepA.mono hrep (ZaN (Ext.refl _ _ _ _)) (fun _=>Nat.le_refl _) (fun i=>Za0 (hφ j _ hr (Nat.ne_of_lt hk) i)) (fun _ h=>h) (fun _ _=>rfl)⟩
       · cases h1
   | cell k κ n=>
     cases rv with
     | tmp t=>cases h2
     | cell a' t=>
       simp only [ZzU,Bool.and_eq_true,beq_iff_eq] at h2
       obtain ⟨⟨⟨rfl,h2⟩,h3⟩,h4⟩:=h2
       have hk:=Nat.blt_eq.mp h2
       have hκ:=Nat.le_of_ble_eq_true h3
       have hκO:κ≠OBJS:=by have:=Zau;omega
       simp only [Res.get] at h1
       split at h1
       · rename_i κ' cs hq1 hq2
         split at h1
         · rename_i hb
           have hb:κ'=κ:=by simpa using hb
           subst hb
           have hrep:=(hst.key a').tm hk
           rw [hq1] at hrep
           have hv:=ZmC hrep
           have hbox:=(hst.key κ').bx hκ cs hq2
           obtain ⟨us,u1,u2,u3,u4,u5⟩:=ZgH hbox h1
           refine ⟨valA n us,?_,?_⟩
           · simp only [Zk0]
             rw [hv]
             simp only [R.val,if_true,asAddr]
             rw [Sem.run_bind,Sem.run_pure,Result.andThen_ok]
             exact Zex h4 u1 u2
           · have hcells:RepCells g w κ' 0 us ((cs.drop 0).take (Zfl n)):=by
               refine ⟨by simp;omega,fun i u y hu hy=>?_⟩
               have:=u3 i u y hu hy
               rwa [Nat.zero_add] at this
             exact RepA.mono (hcells.wrap u5) (ZaN (Ext.refl _ _ _ _)) (fun _=>Nat.le_refl _) (fun i=>Za0 (hφ j _ hr hκO i)) (fun _ h=>h) (fun _ _=>rfl)
         · cases h1
       · cases h1)
 refine ⟨retV vs,Zra Zo fun j rv v hrv hv=>?_,?_⟩
 · have hj:=Zaq hv
   exact (vq j _ v (List.getElem?_eq_getElem Zo) hv _ rv (List.getElem?_eq_getElem Zo) hrv).1
 · have hA: ∀(j:Nat) v x,vs[j]? =some v->rs[j]? =some x->RepA (g.remap φ) w RESK (base j) v x:=fun j v x hv hx=>by
     have hj:=Zaq hv
     exact (vq j _ v (List.getElem?_eq_getElem Zo) hv x _ hx (List.getElem?_eq_getElem Zo)).2
   have hlen:vs.length=rs.length:=by omega
   have hlen2:F.res.length=rs.length:=rl
   match vs,rs,hlen,hlen2,hA with
   | [v],[x],_,hl2,hA=>
     have:=hA 0 v x rfl rfl
     simp only [base,hl2,List.length_singleton,if_true] at this
     exact this
   | [],[],_,hl2,hA=>exact ⟨#[],rfl,rfl,fun j u x hu=>by simp at hu⟩
   | v::v'::vs,x::x'::rs,hl,hl2,hA=>
     refine ⟨(v::v'::vs).toArray,rfl,by simpa using hl,fun j u y hu hy=>?_⟩
     have:=hA j u y (by simpa using hu) hy
     have hne: ¬F.res.length=1:=by rw [hl2];simp
     simp only [base,hne,if_false] at this
     exact this
   | [],_::_,hl,_,_=>simp at hl
   | _::_,[],hl,_,_=>simp at hl
   | [_],_::_::_,hl,_,_=>simp at hl
   | _::_::_,[_],hl,_,_=>simp at hl
theorem St.begin {g:G} {w:World} {vs:List Value} {args:List A} {os:List (List C)} {n:Nat} (hp:ZdP g w vs args) (hb: ∀(i:Nat) cs,os[i]? =some cs->Box g w (g.ω i) OBJS i cs)
  (hω: ∀i j,i<os.length->j<os.length->g.ω i=g.ω j->i=j) (hf:ZnQ g.pr g.ow w) (hwi:WI.I g.pr w) (hT: ∀b,w.heap.size<=b∨(∃i,i<os.length/\b=g.ω i)->g.T b) (hl:args.length<=n) (hn:n<OBJS):
  St {g with nt:=n} (enter 0 args++[(OBJS,.objs os)]) {tmps:=vs.toArray++Array.replicate (n-vs.toArray.size) undef,defers:=[]} w:=by
 have hob:=Zau
 have hget: ∀k,Env.get (enter 0 args++[(OBJS,.objs os)]) k=if k<args.length then (match args[k]? with|some x=> .a x|none=> .undef) else if k=OBJS then .objs os else .undef:=fun k=>by
  rw [ZqV]
  simp only [Nat.zero_le,Nat.zero_add,true_and,Nat.sub_zero]
  split
  ·rfl
  ·simp only [Env.get,beq_iff_eq]
   by_cases h:OBJS=k
   ·subst h;simp
   ·simp [h,Ne.symm h]
 have hgO:Env.get (enter 0 args++[(OBJS,.objs os)]) OBJS= .objs os:=by rw [hget,if_neg Zo,if_pos rfl]
 have hgB: ∀κ,BOX<=κ->Env.get (enter 0 args++[(OBJS,.objs os)]) κ= .undef:=fun κ hκ=>by rw [hget,if_neg Zo,if_neg Zo]
 refine ⟨fun k=>⟨fun hk=>?_,fun hk cs hc=>?_,fun hk os' ho i cs hi=>?_⟩,fun κ hκ=> .inl (hgB κ hκ),.inr ⟨os,hgO⟩,fun κ κ' h1 h2 h3=>absurd (hgB κ h1) h3,fun κ os' i h1 h2=>absurd (hgB κ h1) h2,fun os' i j ho=>?_,hf,hwi,rfl,?_,fun κ h1 h2=>absurd (hgB κ h1) h2,fun os' i ho hi=>?_,fun b hb=>?_,Nat.le_of_lt hn⟩
 ·rw [hget]
  by_cases h1:k<args.length
  ·rw [if_pos h1]
   have hx:args[k]? =some args[k]:=List.getElem?_eq_getElem h1
   have hkv:k<vs.length:=by rw [hp.1];exact h1
   have hv:vs[k]? =some vs[k]:=List.getElem?_eq_getElem hkv
   rw [hx]
   have:=hp.2 k _ _ hv hx
   have hgd:(vs.toArray++Array.replicate (n-vs.toArray.size) undef).getD k undef=vs[k]:=by
    simp only [Array.getD_eq_getD_getElem?]
    rw [Array.getElem?_append_left (by simpa using hkv)]
    simp [hv]
   rw [hgd]
   exact this
  ·rw [if_neg h1,if_neg Zo];trivial
 ·rw [hgB k hk] at hc;cases hc
 ·rw [hgO] at ho;cases ho;exact hb i cs hi
 ·rw [hgO] at ho;cases ho;exact hω i j
 ·have:=hp.1
  simp;omega
 ·rw [hgO] at ho;cases ho
  show g.T (g.ω i)
  exact hT _ (.inr ⟨i,hi,rfl⟩)
 ·show g.T b
  exact hT _ (.inl hb)
theorem ZKV {F:SFunc} {e:Env} {rs:List A} {os:List (List C)} (h:ZKC F e=some (rs,os)): ∃rs0 κs cs rs1 bs,ZpM e F.res=some rs0/\Zdf (κs.map e.get)=some cs/\ZlP (R.out κs) rs0=some rs1/\Zmc (R.out κs) cs=some bs/\
  rs=Zks F.pl rs1/\os=[]::bs/\(∀κ∈κs,BOX<=κ/\κ∉F.res.map Res.key)/\κs.Nodup:=by
 unfold ZKC at h
 split at h
 ·rename_i rs0 h1
  unfold ZLi at h
  split at h
  ·rename_i cs rs1 h2 h3
   split at h
   ·rename_i bs h4
    split at h
    ·rename_i h5
     simp only [Bool.and_eq_true,decide_eq_true_eq] at h5
     cases h
     refine ⟨rs0,_,cs,rs1,bs,h1,h2,h3,h4,rfl,rfl,fun κ hκ=>?_,h5.2⟩
     have:=List.all_eq_true.1 h5.1 κ hκ
     simp only [Bool.and_eq_true,Nat.ble_eq,Bool.not_eq_true'] at this
     refine ⟨this.1,fun hm=>?_⟩
     obtain ⟨r,hr,hk⟩:=List.mem_map.1 hm
     have h6:=List.any_eq_false.1 this.2 r hr
     exact h6 (by simp [hk])
    ·cases h
   ·cases h
  ·cases h
 ·cases h
theorem ZOx {κs:List Nat} {r r':R} (h:R.out κs r=some r'):r.own=true/\ ∃i,κs.idxOf? r.k=some i/\r'=⟨false,i,r.off⟩:=by
 unfold R.out at h
 split at h
 ·rename_i ho
  cases hi:κs.idxOf? r.k with
  | none=>rw [hi] at h;cases h
  | some i=>rw [hi] at h;cases h;exact ⟨ho,i,rfl,rfl⟩
 ·cases h
theorem ZOG {S:Nat->Option Fn} (hS:FnOK Pg S) (n:Nat) (hE:Zv5 Pg S n) {f:Nat} {args:List A} {rs:List A} {os':List (List C)} (h:upBy S (exec S n) f args=some (rs,os')): ∃bs,os'=[]::bs/\ZKX Pg f args rs bs:=by
 have hf:=hS f
 unfold upBy at h
 split at h
 ·rename_i F hSf
  rw [hSf] at hf
  simp only at hf
  split at h
  ·rename_i hlen
   obtain ⟨x,e,hx,hxe,hleave⟩: ∃x e,exec S n F.code (enter 0 args++[(OBJS,.objs [])])=some (x,e)/\(x= .normal∨x= .ret)/\ZKC F e=some (rs,os'):=by
    split at h
    ·rename_i e he;exact ⟨_,e,he,.inl rfl,h⟩
    ·rename_i e he;exact ⟨_,e,he,.inr rfl,h⟩
    ·cases h
   unfold ZiH at hf
   split at hf
   ·rename_i fn hfn
    split at hf
    ·rename_i c hc
     simp only [Bool.and_eq_true,decide_eq_true_eq] at hf
     obtain ⟨⟨⟨⟨⟨f1,f2⟩,f3⟩,f4⟩,f5⟩,f6⟩:=hf
     have f2:=Nat.le_of_ble_eq_true f2
     have f3:=Nat.blt_eq.mp f3
     obtain ⟨rs0,κs,cs,rs1,bs,hres,hcs,hrs1,hbs,rfl,rfl,hκs,hnd⟩:=ZKV hleave
     refine ⟨bs,rfl,by simp only [Zhz,hfn,hc,Option.isSome_some,Bool.and_true];exact f1,fun g w vs hp _ hfr hwi hT=>?_⟩
     have hnO:fn.ntmps<OBJS:=Nat.lt_trans f3 Zd
     have hst:=St.begin (os:=[]) (n:=fn.ntmps) hp (fun i cs hi=>by simp at hi) (fun i j hi=>by simp at hi) hfr hwi (fun b hb=>by rw [hT];rcases hb with hb|⟨i,hi,_⟩;exact hb;simp at hi) Zo hnO
     refine calls_of_wp hfn hc (hE c F.code _ _ _ _ x e f6 hx hst _ fun g' a' w' st' ext' ω' T' nt'=>?_)
     obtain ⟨φ,⟨_,hφ⟩,v,hv,hrep⟩:=ZoQ st' hres f4 f5
     obtain ⟨bl,bg⟩:=Zjz hcs
     rw [List.length_map] at bl
     obtain ⟨ol,og⟩:=Zkr hbs
     have hkey: ∀(i:Nat),i<bs.length-> ∃κ q,κs[i]? =some κ/\cs[i]? =some q/\e.get κ= .a (.agg q)/\BOX<=κ/\κ∉F.res.map Res.key:=fun i hi=>by
      have hi':i<κs.length:=by omega
      have hq:cs[i]? =some (cs[i]'(by omega)):=List.getElem?_eq_getElem _
      have:=bg i _ hq
      rw [List.getElem?_map,List.getElem?_eq_getElem hi'] at this
      exact ⟨_,_,List.getElem?_eq_getElem hi',hq,by simpa using this,hκs _ (List.getElem_mem hi')⟩
     let ψ:Loc->Loc:=fun ℓ=>if ℓ.2.1=0 then (match κs.idxOf? ℓ.1 with|some i=>(OBJS,i,ℓ.2.2)|none=>ℓ) else ℓ
     let g3:G:={(g'.remap φ).remap ψ with ω:=fun i=>g'.β (κs.getD i 0)}
     have hω: ∀(i:Nat) κ,κs[i]? =some κ->g3.ω i=g'.β κ:=fun i κ hi=>by simp [g3,List.getD,hi]
     have hψ: ∀(i:Nat) κ,κs[i]? =some κ-> ∀m,ψ (κ,0,m)=(OBJS,i,m):=fun i κ hi m=>by simp only [ψ,if_true];rw [Zry hnd hi]
     have hψR: ∀c m,ψ (RESK,c,m)=(RESK,c,m):=fun c m=>by
      simp only [ψ]
      split
      ·rw [List.idxOf?_eq_none_iff.2 (fun hm=>by have:=(hκs _ hm).1;unfold RESK BOX at this;omega)]
      ·rfl
     have hval: ∀r r',R.out κs r=some r'->r'.val g3=r.val g':=fun r r' hr=>by
      obtain ⟨ho,i,hi,rfl⟩:=ZOx hr
      obtain ⟨h1,h2,_⟩:=List.idxOf?_eq_some_iff.1 hi
      have hk:κs[i]? =some r.k:=by rw [List.getElem?_eq_getElem h1];exact congrArg some h2
      simp only [R.val,ho,if_true,Bool.false_eq_true,if_false,hω i _ hk]
     have hext3:Ext g.T g.pr g.ow w w' g3.pr g3.ow:=by
      have hx:Ext g.T g'.pr g'.ow w' w' (g'.remap φ).pr (g'.remap φ).ow:=by
       rw [show g.T=g'.T from T'.symm];exact ZaN (Ext.refl _ _ _ _)
      have hy:Ext g.T (g'.remap φ).pr (g'.remap φ).ow w' w' g3.pr g3.ow:=by
       rw [show g.T=(g'.remap φ).T from T'.symm];exact ZaN (Ext.refl _ _ _ _)
      exact Ext.trans (Ext.trans ext' hx) hy
     have hpost:a'.defers=[]/\ ∃v,(results fn a'.tmps).run Pg w'= .ok v w'/\(∃v' g',Ending.returned v= .returned v'/\Ext g.T g.pr g.ow w w' g'.pr g'.ow/\g'.T=g.T/\ZnQ g'.pr g'.ow w'/\
       RepD g' w' RESK v' (resD (Zks F.pl rs1))/\(∀(i:Nat) cs,bs[i]? =some cs->Box g' w' (g'.ω i) OBJS i cs/\w.heap.size<=g'.ω i)/\ ∀i j,i<bs.length->j<bs.length->g'.ω i=g'.ω j->i=j):=by
      refine ⟨st'.df,v,hv,v,g3,rfl,hext3,T',ZbV (ZbV st'.fr (Nat.le_refl _)) (Nat.le_refl _),ZwF ?_,fun i q hq=>?_,fun i j hi hj hh=>?_⟩
      ·exact Zq5 (g:=g'.remap φ) (g2:=g3) hrep hrs1 rfl (fun c i b hb=>⟨by
        show ((g'.remap φ).ow b).map ψ=_
        rw [hb];exact congrArg some (hψR c i),rfl,rfl⟩) (fun b hb _ _=>hb) hval
      ·obtain ⟨κ,q0,k1,k2,k3,k4,k5⟩:=hkey i (Zaq hq)
       obtain ⟨q1,hq1,hq2⟩:=og i q hq
       rw [k2] at hq1
       cases hq1
       have hbox:=(st'.key κ).bx k4 q0 k3
       rw [hω i κ k1]
       refine ⟨?_,?_⟩
       ·obtain ⟨_,_,_,hn⟩:=hbox.bk
        refine Box.mapped (g:=g') (g2:=g3) hbox hq2 rfl (fun m b hb=>⟨?_,rfl,rfl⟩) ?_ (.inr fun b hb _ _=>hb) hval
        ·show (((g'.ow b).map φ).map ψ)=_
         rw [hb]
         simp only [Option.map_some,hφ κ 0 m k5,hψ i κ k1 m]
        ·show (((g'.ow (g'.β κ)).map φ).map ψ)=_
         rw [hn];rfl
       ·have:=st'.tb κ k4 (by rw [k3];simp)
        rw [T'] at this
        change g.T _ at this
        rw [hT] at this
        exact this
      ·obtain ⟨κ,_,k1,_,k3,k4,_⟩:=hkey i hi
       obtain ⟨κ',_,k1',_,k3',k4',_⟩:=hkey j hj
       rw [hω i κ k1,hω j κ' k1'] at hh
       have:=st'.db κ κ' k4 k4' (by rw [k3];simp) (by rw [k3'];simp) hh
       subst this
       have e1:=Zry hnd k1
       have e2:=Zry hnd k1'
       rw [e1] at e2
       exact Option.some.inj e2
     rcases hxe with rfl|rfl<;>exact hpost
    ·cases hf
   ·cases hf
  ·cases h
 ·cases h
theorem Zk3 {S:Nat->Option Fn} (hS:FnOK Pg S) (n:Nat) (hE:Zv5 Pg S n):Zcv Pg (Zja S (exec S n)):=by
 intro f args os rs os' h
 have hf:=hS f
 unfold Zja at h
 split at h
 ·rename_i F hSf
  rw [hSf] at hf
  simp only at hf
  split at h
  ·rename_i hlen
   obtain ⟨x,e,hx,hxe,hleave⟩: ∃x e,exec S n F.code (enter 0 args++[(OBJS,.objs os)])=some (x,e)/\(x= .normal∨x= .ret)/\ZrS F e=some (rs,os'):=by
    split at h
    ·rename_i e he;exact ⟨_,e,he,.inl rfl,h⟩
    ·rename_i e he;exact ⟨_,e,he,.inr rfl,h⟩
    ·cases h
   unfold ZiH at hf
   split at hf
   ·rename_i fn hfn
    split at hf
    ·rename_i c hc
     simp only [Bool.and_eq_true,decide_eq_true_eq] at hf
     obtain ⟨⟨⟨⟨⟨f1,f2⟩,f3⟩,f4⟩,f5⟩,f6⟩:=hf
     have f2:=Nat.le_of_ble_eq_true f2
     have f3:=Nat.blt_eq.mp f3
     refine .inl ⟨by simp only [Zhz,hfn,hc,Option.isSome_some,Bool.and_true];exact f1,fun g w vs hp _ _ hb hω hfr hwi hT=>?_⟩
     have hnO:fn.ntmps<OBJS:=Nat.lt_trans f3 Zd
     have hst:=St.begin (n:=fn.ntmps) hp hb hω hfr hwi hT Zo hnO
     obtain ⟨rs0,hres,hrs0,hobj⟩:=Zr6 hleave
     subst hrs0
     refine calls_of_wp hfn hc (hE c F.code _ _ _ _ x e f6 hx hst _ fun g' a' w' st' ext' ω' T' nt'=>?_)
     obtain ⟨φ,⟨hφ,_⟩,v,hv,hrep⟩:=ZoQ st' hres f4 f5
     have hpost:a'.defers=[]/\ ∃v,(results fn a'.tmps).run Pg w'= .ok v w'/\(∃v' g',Ending.returned v= .returned v'/\Ext g.T g.pr g.ow w w' g'.pr g'.ow/\g'.T=g.T/\g'.ω=g.ω/\ZnQ g'.pr g'.ow w'/\
       RepD g' w' RESK v' (resD (Zks F.pl rs0))/\ ∀(i:Nat) cs,os'[i]? =some cs->Box g' w' (g.ω i) OBJS i cs):=by
      have hx:Ext g.T g'.pr g'.ow w' w' (g'.remap φ).pr (g'.remap φ).ow:=by
       rw [show g.T=g'.T from T'.symm];exact ZaN (Ext.refl _ _ _ _)
      refine ⟨st'.df,v,hv,v,g'.remap φ,rfl,Ext.trans ext' hx,T',ω',ZbV st'.fr (Nat.le_refl _),ZwF hrep,fun i cs hi=>?_⟩
      have hbox:=(st'.key OBJS).ob rfl os' hobj i cs hi
      rw [ω'] at hbox
      obtain ⟨_,_,_,hn⟩:=hbox.bk
      refine hbox.lift rfl rfl (ZaK hn) (fun _ _ _ _ h=>h) (fun _=>Nat.le_refl _) (fun _ h _=>h) ?_
      rintro ⟨us,t,b1,b2,b3,b4⟩
      exact ⟨us,t,b1,⟨b2.1,b2.2.mono (ZaN (Ext.refl _ _ _ _)) (fun _=>Nat.le_refl _) (fun m=>Za0 (hφ i m)) (fun _ h=>h) (fun _ _=>rfl)⟩,b3,ZaK b4⟩
     rcases hxe with rfl|rfl<;>exact hpost
    ·cases hf
   ·cases hf
  ·cases h
 ·rename_i p hSf
  rw [hSf] at hf
  exact .inl (hf args os rs os' h)
 ·split at h
  ·rename_i hup
   simp only [Bool.and_eq_true,Nat.ble_eq] at hup
   obtain ⟨hf0,hos⟩:=hup
   have hos:os=[]:=List.isEmpty_iff.1 hos
   subst hos
   refine .inr ⟨rfl,?_⟩
   obtain ⟨f0,rfl⟩: ∃f0,f=UPB+f0:=⟨f-UPB,by omega⟩
   have e0:Nat.sub (UPB+f0) UPB=f0:=Nat.add_sub_cancel_left _ _
   rw [e0] at h
   obtain ⟨bs,hbs,hcu⟩:=ZOG hS n hE h
   exact ⟨f0,bs,rfl,hbs,hcu⟩
  ·cases h
theorem ZlN {S:Nat->Option Fn} (hS:FnOK Pg S) (n:Nat):Zcv Pg (call S n):=
 Zk3 hS n (Zs2 (fun k hk=>Zk3 hS k hk) n n (Nat.le_refl _))
end Go.Am
end
