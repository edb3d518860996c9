/- Part. -/
import Derived.Test.YtnnimjficnjbdaaGreatDoorOap
import Derived.Test.YtnnimjficnjbdaaGreatDoorOal
import Derived.Laws.Shifts
set_option maxRecDepth 999999
set_option maxHeartbeats 0
set_option linter.all false
section
namespace Go.Cm
open Go.Am (ZbJ ZfP Zl4 eqS bytesLess ZmJ Zaw Addr.add_eq Zs6 Zs8 RepP Zsn Ze7 Zm8)
attribute [local instance] wi0
variable {P:Program} {F:ZaQ} {g:G} {e:Env} {a:Act} {w:World} {h h':H} {ov:Option V} {o:Oper}
theorem ZJg {xs:List V} {v:Value} (h:Rel g (.agg xs) v): ∃vs:List Value,v= .agg vs.toArray/\Rels g xs vs:=by simpa only [Rel] using h
theorem ZIZ {b i s n lo:Nat} {ex:Bool} {v:Value} (h:Rel g (.sl b i s n lo ex) v):g.ex b/\ ∃cap,v= .slice (some (g.at b i)) n cap/\n<=lo/\lo<=cap/\(ex=true->cap=lo)/\(g.β b).2+i+cap*s<=g.sz b:=by simpa only [Rel] using h
def g0:Am.G:=⟨0,fun _=>True,fun _=>0,fun _=>none,fun _=>0,fun _=>0⟩
theorem ZKb {op:BinOp} {t:TypeId} {x y:Operand} {u v:V} {p q:Value} (hp:Rel g u p) (hq:Rel g v q) (hg:vAgg P t u=false):(eqGuard op t x y p q).run P w= .ok () w:=by
 cases u with
 | agg xs=>
   obtain ⟨us,rfl,_⟩:=ZJg hp
   simp only [vAgg] at hg
   cases v with
   | agg ys=>obtain ⟨vs,rfl,_⟩:=ZJg hq;exact run_eqGuard_agg w op t x y _ _ hg
   | _=>
     simp only [Rel] at hq
     first
       | (subst hq;cases op<;>rfl)
       | (obtain ⟨_,rfl⟩:=hq;cases op<;>rfl)
       | (obtain ⟨_,rfl,_⟩:=hq;cases op<;>rfl)
       | (obtain ⟨_,_,rfl⟩:=hq;cases op<;>rfl)
       | (obtain ⟨_,_,rfl,_⟩:=hq;cases op<;>rfl)
 | nili=>cases hg
 | _=>
   simp only [Rel] at hp
   first
     | (subst hp;cases op<;>rfl)
     | (obtain ⟨_,rfl⟩:=hp;cases op<;>rfl)
     | (obtain ⟨_,rfl,_⟩:=hp;cases op<;>rfl)
     | (obtain ⟨_,_,rfl⟩:=hp;cases op<;>rfl)
     | (obtain ⟨_,_,rfl,_⟩:=hp;cases op<;>rfl)
theorem ZLt {t:TypeId} {u v:V} {p q:Value} {b:Bool} (hp:Rel g u p) (hq:Rel g v q) (h:eqT P DEEP t u v=some b) (hi: ∀k n,u≠ .int k n) (hs: ∀s,u≠ .str s):
   (binOp .eql t p q).run P w= .ok (.bool b) w/\(binOp .neq t p q).run P w= .ok (.bool (!b)) w:=by
 have hr:(Op.equal t p q).run P w= .ok b w:=ZMW (w:=w) DEEP 10000 Zd t u v p q b h hp hq
 have key: ∀(p q:Value),(∀k n,p≠ .int k n)->(∀s,p≠ .string s)->(∀k n,p≠ .float k n)->(∀k n m,p≠ .complex k n m)->(Op.equal t p q).run P w= .ok b w->(binOp .eql t p q).run P w= .ok (.bool b) w/\(binOp .neq t p q).run P w= .ok (.bool (!b)) w:=by
   intro p q h1 h2 h3 h4 hr
   constructor
   · cases p<;>first|exact absurd rfl (h1 _ _)|exact absurd rfl (h2 _)|exact absurd rfl (h3 _ _)|exact absurd rfl (h4 _ _ _)|(simp only [binOp];rw [Sem.run_bind,hr];rfl)
   · cases p<;>first|exact absurd rfl (h1 _ _)|exact absurd rfl (h2 _)|exact absurd rfl (h3 _ _)|exact absurd rfl (h4 _ _ _)|(simp only [binOp];rw [Sem.run_bind,hr];rfl)
 cases u with
 | int k n=>exact absurd rfl (hi k n)
 | str s=>exact absurd rfl (hs s)
 | _=>
   simp only [Rel] at hp
   first
     | (subst hp;exact key _ _ Zs Zs Zs Zs hr)
     | (obtain ⟨_,rfl⟩:=hp;exact key _ _ Zs Zs Zs Zs hr)
     | (obtain ⟨_,rfl,_⟩:=hp;exact key _ _ Zs Zs Zs Zs hr)
     | (obtain ⟨_,_,rfl⟩:=hp;exact key _ _ Zs Zs Zs Zs hr)
     | (obtain ⟨_,_,rfl,_⟩:=hp;exact key _ _ Zs Zs Zs Zs hr)
theorem ZP3 {t:TypeId} {k:IntKind} {m:Int} {v:V} (hv: ∀k' n',v≠ .int k' n'): ∀{n:Nat},eqT P n t (.int k m) v=none
 | 0=>rfl
 | n+1=>by
   unfold eqT
   split<;>first|rfl|skip
   all_goals first|(rename_i h;cases h;done)|skip
   all_goals exact absurd rfl (hv _ _)
theorem ZPK {t:TypeId} {s:List Nat} {v:V} (hv: ∀s',v≠ .str s'): ∀{n:Nat},eqT P n t (.str s) v=none
 | 0=>rfl
 | n+1=>by
   unfold eqT
   split<;>first|rfl|skip
   all_goals first|exact absurd rfl (hv _)|contradiction|(simp_all;done)
section
variable (hh:HR g h w) (he:EnvR g e a)
include hh he
theorem ZAE {op:BinOp} {t t':TypeId} {x y:Operand} (ho:o.op= .binOp op t x y t') (hx:opV P F e h (.binOp op t x y t')=some (ov,h')):OpOK P o a w g ov h':=by
 simp only [opV] at hx
 split at hx
 ·rename_i u v h1 h2
  simp only [Option.map_eq_some_iff,Prod.mk.injEq] at hx
  obtain ⟨z,hz,rfl,rfl⟩:=hx
  have hp:=ZG2 he h1
  have hq:=ZG2 he h2
  have fin: ∀r,(binOp op t (a.eval x) (a.eval y)).run P w= .ok r w->Rel g z r->(eqGuard op t x y (a.eval x) (a.eval y)).run P w= .ok () w->OpOK P o a w g (some z) h:=fun r hr hz hg=>by
   refine ZG3 hh (v:=r) ?_ hz
   simp only [execOp,ho]
   rw [Zaw,Sem.run_bind,hg,Result.andThen_ok,hr,Result.andThen_ok]
  unfold binV at hz
  split at hz
  ·rename_i k m k' m'
   have e1:=ZHv hp
   have e2:=ZHv hq
   split at hz
   ·split at hz
    ·rename_i h0
     simp only [Option.some.injEq] at hz;subst hz
     refine fin _ (by rw [e1,e2,binOp_shl,shift_shl_any _ _ _ _ h0,Sem.run_pure]) (by simp only [Rel]) (by rw [e1,e2];rfl)
    ·cases hz
   ·split at hz
    ·rename_i h0
     simp only [Option.some.injEq] at hz;subst hz
     refine fin _ (by rw [e1,e2,binOp_shr,shift_shr_any _ _ _ _ h0,Sem.run_pure]) (by simp only [Rel]) (by rw [e1,e2];rfl)
    ·cases hz
   split at hz
   ·rename_i hk
    subst hk
    split at hz
    ·rename_i k2 n2 hb
     simp only [Option.some.injEq] at hz;subst hz
     obtain ⟨v,hr,hv⟩:=Zs6 (Pg:=P) (w:=w) hb t g0
     cases hv
     refine fin _ (by rw [e1,e2];exact hr) (by simp only [Rel]) (by rw [e1,e2];unfold eqGuard;cases op<;>rfl)
    ·rename_i b2 hb
     simp only [Option.some.injEq] at hz;subst hz
     obtain ⟨v,hr,hv⟩:=Zs6 (Pg:=P) (w:=w) hb t g0
     cases hv
     refine fin _ (by rw [e1,e2];exact hr) (by simp only [Rel]) (by rw [e1,e2];unfold eqGuard;cases op<;>rfl)
    ·cases hz
   ·cases hz
  ·obtain ⟨b1,e1,rfl⟩:=ZHk hp
   obtain ⟨b2,e2,rfl⟩:=ZHk hq
   split at hz
   ·rename_i s hb
    simp only [Option.some.injEq] at hz;subst hz
    obtain ⟨v,hr,hv⟩:=Zs8 (Pg:=P) (w:=w) hb t g0
    cases hv
    rename_i bs ht
    refine fin _ (by rw [e1,e2];exact hr) (by simp only [Rel];exact ⟨_,rfl,ht⟩) (by rw [e1,e2];unfold eqGuard;cases op<;>rfl)
   ·rename_i s hb
    simp only [Option.some.injEq] at hz;subst hz
    obtain ⟨v,hr,hv⟩:=Zs8 (Pg:=P) (w:=w) hb t g0
    cases hv
    refine fin _ (by rw [e1,e2];exact hr) (by simp only [Rel]) (by rw [e1,e2];unfold eqGuard;cases op<;>rfl)
   ·cases hz
  ·rename_i hni hns
   split at hz
   ·cases hz
   ·rename_i hg
    have hg:vAgg P t u=false:=by simpa using hg
    have hnu:(∀k n,u≠ .int k n)/\(∀s,u≠ .str s)∨eqT P DEEP t u v=none:=by
     cases u with
     | int k n=>exact .inr (ZP3 fun k' n' hv=>(hni _ _ _ _ rfl hv))
     | str s=>exact .inr (ZPK fun s' hv=>(hns _ _ rfl hv))
     | _=>left;exact ⟨by simp,by simp⟩
    rcases hnu with ⟨n1,n2⟩|hno
    ·split at hz
     ·simp only [Option.map_eq_some_iff] at hz
      obtain ⟨b,hb,rfl⟩:=hz
      exact fin _ (ZLt hp hq hb n1 n2).1 (by simp only [Rel]) (ZKb hp hq hg)
     ·simp only [Option.map_eq_some_iff] at hz
      obtain ⟨b,hb,rfl⟩:=hz
      exact fin _ (ZLt hp hq hb n1 n2).2 (by simp only [Rel]) (ZKb hp hq hg)
     ·cases hz
    ·split at hz
     ·rw [hno] at hz;cases hz
     ·rw [hno] at hz;cases hz
     ·cases hz
 ·cases hx
theorem ZSa {op:UnOp} {t:TypeId} {x:Operand} (ho:o.op= .unOp op t x) (hx:opV P F e h (.unOp op t x)=some (ov,h')):OpOK P o a w g ov h':=by
 simp only [opV] at hx
 split at hx
 ·rename_i b h1
  simp only [Option.some.injEq,Prod.mk.injEq] at hx
  obtain ⟨rfl,rfl⟩:=hx
  have e1:=ZHr (ZG2 he h1)
  exact ZG3 hh (v:= .bool (!b)) (by simp [execOp,ho,e1,Op.unary]) (by simp only [Rel])
 ·rename_i k n h1
  simp only [Option.some.injEq,Prod.mk.injEq] at hx
  obtain ⟨rfl,rfl⟩:=hx
  have e1:=ZHv (ZG2 he h1)
  exact ZG3 hh (v:= .int k (k.wrap (0-n))) (by simp [execOp,ho,e1,Op.unary,Op.intArith]) (by simp only [Rel])
 ·cases hx
theorem ZO9 {t:TypeId} {x:Operand} {f:Nat} (ho:o.op= .field t x f) (hx:opV P F e h (.field t x f)=some (ov,h')):OpOK P o a w g ov h':=by
 simp only [opV] at hx
 split at hx
 ·rename_i cs fs h1 hu
  split at hx
  ·rename_i fd hf
   simp only [Option.map_eq_some_iff,Prod.mk.injEq] at hx
   obtain ⟨z,hz,rfl,rfl⟩:=hx
   obtain ⟨vs,hv,hr⟩:=ZJg (ZG2 he h1)
   obtain ⟨u,r1,r2⟩:=ZH8 (w:=w) hr hz
   refine ZG3 hh (v:=u) ?_ r2
   simp only [execOp,ho,hv]
   rw [Zaw]
   simp only [Instr.field,Sem.run_bind,run_underlying hu,Result.andThen_ok,hf,asAgg,Sem.run_pure,r1]
  ·cases hx
 ·cases hx
theorem ZMU {x:V} {n:Nat} {v:Value} (hr:Rel g x v) (hn:ZL6 x=some n): ∃k,v= .int k (n:Int):=by
 unfold ZL6 at hn
 split at hn
 ·split at hn
  ·rename_i k m hm
   cases hn
   refine ⟨k,?_⟩
   rw [ZHv hr,Int.toNat_of_nonneg hm]
  ·cases hn
 ·cases hn
end
section
variable (hh:HR g h w) (he:EnvR g e a)
include hh he
theorem ZKI {x:Operand} {n:Nat} (hx:(ev e x).bind ZL6=some n): ∃k,a.eval x= .int k (n:Int):=by
 obtain ⟨v,h1,h2⟩:=Option.bind_eq_some_iff.1 hx
 exact ZMU hh he (ZG2 he h1) h2
theorem Zo6 {t:TypeId} {x i:Operand} (ho:o.op= .indexAddr t x i) (hx:opV P F e h (.indexAddr t x i)=some (ov,h')):OpOK P o a w g ov h':=by
 simp only [opV] at hx
 split at hx
 · rename_i n el b q m hu h1 h2
   split at hx
   · rename_i s hs
     split at hx
     · rename_i hlt
       simp only [Option.some.injEq,Prod.mk.injEq] at hx
       obtain ⟨rfl,rfl⟩:=hx
       obtain ⟨hb,hv⟩:=ZIy (ZG2 he h1)
       obtain ⟨k,hk⟩:=ZKI hh he h2
       obtain ⟨inf,hi,rfl⟩:=Option.map_eq_some_iff.1 hs
       refine ZG3 hh (v:= .pointer (some (g.at b (q+m*inf.size)))) ?_ ⟨hb,rfl⟩
       simp only [execOp,ho,hv,hk,G.at]
       rw [Zaw]
       simp [Instr.indexAt,asIntOf,run_underlying hu,Instr.sureAddr,hlt,sizeOf,typeInfo,hi,Addr.add_eq,Nat.add_assoc]
     · cases hx
   · cases hx
 · rename_i el b q s n lo ex m hu h1 h2
   split at hx
   · rename_i hc
     simp only [Bool.and_eq_true,beq_iff_eq,decide_eq_true_eq] at hc
     obtain ⟨hs,hlt⟩:=hc
     simp only [Option.some.injEq,Prod.mk.injEq] at hx
     obtain ⟨rfl,rfl⟩:=hx
     obtain ⟨hb,cap,hv,_⟩:=ZIZ (ZG2 he h1)
     obtain ⟨k,hk⟩:=ZKI hh he h2
     obtain ⟨inf,hi,rfl⟩:=Option.map_eq_some_iff.1 hs
     refine ZG3 hh (v:= .pointer (some (g.at b (q+m*inf.size)))) ?_ ⟨hb,rfl⟩
     simp only [execOp,ho,hv,hk,G.at]
     rw [Zaw]
     simp [Instr.indexAt,asIntOf,run_underlying hu,hlt,sizeOf,typeInfo,hi,Addr.add_eq,Nat.add_assoc]
   · cases hx
 · rename_i el s rows m hu h1 h2
   split at hx
   · rename_i hs
     simp only [Option.map_eq_some_iff,Prod.mk.injEq] at hx
     obtain ⟨r,hr,rfl,rfl⟩:=hx
     have hd:=ZG2 he h1
     simp only [Rel] at hd
     obtain ⟨⟨ad,ln⟩,cap,hv,hp⟩:=hd
     obtain ⟨k,hk⟩:=ZKI hh he h2
     obtain ⟨inf,hi,rfl⟩:=Option.map_eq_some_iff.1 (show szOf P el=some s by simpa using hs)
     rw [hv] at hp
     have hlt:m<rows.length:=Am.Zaq hr
     simp only at hv hp
     cases hp with
     | nils=>simp at hlt
     | sl b q len cap s rows vs hl hcap hpr hlen hc hrr=>
       have hml:m<ln:=by omega
       refine ZG3 hh (v:= .pointer (some ⟨b,q+m*inf.size,none⟩)) ?_ ?_
       · simp only [execOp,ho,hv,hk]
         rw [Zaw]
         simp [Instr.indexAt,asIntOf,run_underlying hu,hml,sizeOf,typeInfo,hi,Addr.add_eq]
       · simp only [Rel]
         refine ⟨b,q+m*inf.size,rfl,fun i y hy=>?_⟩
         have hrl:=hlen m r hr
         have hil:i<inf.size:=by have:=Am.Zaq hy;omega
         have hb:=Am.ZdS (s:=inf.size) hml hil
         exact ⟨vs m i,hc m i hml hil,by omega,hrr m r i y hr hy⟩
   · cases hx
 · cases hx
theorem ZOI {t:TypeId} {x i:Operand} (ho:o.op= .index t x i) (hx:opV P F e h (.index t x i)=some (ov,h')):OpOK P o a w g ov h':=by
 simp only [opV] at hx
 split at hx
 ·rename_i n el cs m hu h1 h2
  split at hx
  ·rename_i s hs
   split at hx
   ·rename_i hlt
    simp only [Option.map_eq_some_iff,Prod.mk.injEq] at hx
    obtain ⟨z,hz,rfl,rfl⟩:=hx
    obtain ⟨vs,hv,hr⟩:=ZJg (ZG2 he h1)
    obtain ⟨k,hk⟩:=ZKI hh he h2
    obtain ⟨inf,hi,rfl⟩:=Option.map_eq_some_iff.1 hs
    obtain ⟨u,r1,r2⟩:=ZH8 (w:=w) hr hz
    refine ZG3 hh (v:=u) ?_ r2
    simp only [execOp,ho,hv,hk]
    rw [Zaw]
    simp [Instr.index,asIntOf,run_underlying hu,hlt,sizeOf,typeInfo,hi,r1]
   ·cases hx
  ·cases hx
 ·rename_i s m hu h1 h2
  simp only [Option.map_eq_some_iff,Prod.mk.injEq] at hx
  obtain ⟨c,hc,rfl,rfl⟩:=hx
  obtain ⟨bs,hv,rfl⟩:=ZHk (ZG2 he h1)
  obtain ⟨k,hk⟩:=ZKI hh he h2
  obtain ⟨u,hu1,rfl⟩:=Zsn hc
  refine ZG3 hh (v:= .int .u8 u.toNat) ?_ (by simp only [Rel])
  simp only [execOp,ho,hv,hk]
  rw [Zaw]
  simp [Instr.index,asIntOf,run_underlying hu,hu1]
 ·cases hx
end
end Go.Cm
end
section
namespace Go.Cm
attribute [local instance] wi0
variable {P:Program} {g:G} {w:World} {h:H}
theorem RelAt.mono {g g':G} (hl:Le0 g g') {cs:List V} {vs:Array Value} {o:Nat} (h:RelAt g cs vs o):RelAt g' cs vs o:=fun i x hx=>by
 obtain ⟨v,h1,h2⟩:=h i x hx
 exact ⟨v,h1,h2.mono hl⟩
theorem RelEs.mono {g g':G} (hl:Le0 g g') {es:List En} {ms:Array MapEntry} (h:RelEs g es ms):RelEs g' es ms:=⟨h.1,fun i e he=>by
 obtain ⟨m,h1,h2,h3,h4⟩:=h.2 i e he
 exact ⟨m,h1,h2.mono hl,h3.mono hl,h4⟩⟩
theorem ObOK.mono {g g':G} (hl:Le0 g g') {low:Nat->Nat} {w w':World} {b:Nat} {o:O} (h:ObOK g low w b o) (hb:g.ex b) (hw:w'.heap[(g.β b).1]? =w.heap[(g.β b).1]?):ObOK g' low w' b o:=by
 cases o with
 | cells cs grp ver kid=>
   obtain ⟨vs,t,fz,h1,h2,h3⟩:=h
   refine ⟨vs,t,fz,by rw [hl.β b hb,hw];exact h1,by rw [hl.sz b hb];exact h2,fun ha=>?_⟩
   obtain ⟨q1,q2,q3⟩:=h3 ha
   rw [hl.β b hb]
   exact ⟨q1,q2,q3.mono hl⟩
 | map es clock=>
   obtain ⟨ms,h1,h2,h3⟩:=h
   exact ⟨ms,by rw [hl.β b hb,hw];exact h1,h2.mono hl,by rw [hl.β b hb];exact h3⟩
 | siter s pos=>
   obtain ⟨bs,h1,h2,h3⟩:=h
   exact ⟨bs,by rw [hl.β b hb,hw];exact h1,h2,by rw [hl.β b hb];exact h3⟩
 | miter m since seen stepped=>
   obtain ⟨h1,h2,h3⟩:=h
   refine ⟨?_,fun i hi=>hl.ex _ (h2 i hi),by rw [hl.β b hb];exact h3⟩
   rw [hl.β b hb,hw,h1]
   cases m with
   | none=>rfl
   | some i=>simp only [Option.map_some,hl.β i (h2 i rfl)]
 | mapU ps=>
   obtain ⟨ms,c,es,h1,h2,h3,h4⟩:=h
   exact ⟨ms,c,es,by rw [hl.β b hb,hw];exact h1,h2,h3.mono hl,by rw [hl.β b hb];exact h4⟩
 | loop st pend e nt ps assign body=>
   obtain ⟨r,h1,h2,h3⟩:=h
   exact ⟨r,by rw [hl.β b hb,hw];exact h1,⟨h2.state,h2.pend,h2.ps,h2.assign,h2.body,h2.nt,fun t v hv=>(h2.env t v hv).mono hl⟩,by rw [hl.β b hb];exact h3⟩
def G.grow (g:G) (id b s:Nat):G:=⟨fun i=>g.ex i∨i=id,fun i=>if i=id then (b,0) else g.β i,fun i=>if i=id then s else g.sz i,g.base,max g.top (id+1),g.dfs,g.pr0,g.w0⟩
def G.up (g:G) (n:Nat):G:={g with top:=n}
theorem ZH9 (g:G) (n:Nat):Le0 g (g.up n):=⟨fun _ h=>h,fun _ _=>rfl,fun _ _=>rfl,rfl,ZI0 g⟩
theorem ZHf (g:G) {id:Nat} (hn: ¬g.ex id) (b s:Nat):Le0 g (g.grow id b s):=by
 have hne: ∀i,g.ex i->i≠id:=fun i hi he=>hn (he ▸ hi)
 exact ⟨fun i hi=> .inl hi,fun i hi=>by simp [G.grow,hne i hi],fun i hi=>by simp [G.grow,hne i hi],rfl,ZI0 g⟩
theorem HR.le_grow (hh:HR g h w) (b s:Nat):Le g (g.grow h.next b s):=
 ⟨ZHf g hh.fresh b s,Nat.le_max_left _ _,fun b hb=>hb.imp id fun e=>(by rw [e,hh.top];exact Nat.le_refl _),rfl⟩
theorem ZHa (g:G) (id b s:Nat):(g.grow id b s).β id=(b,0):=by simp [G.grow]
theorem ZKr (g:G) (id b s:Nat):(g.grow id b s).sz id=s:=by simp [G.grow]
theorem ZNP (g:G) (id b s:Nat):(g.grow id b s).ex id:= .inr rfl
theorem Grew.up {g':G} {w':World} (h:Grew g w g' w') (n:Nat):Grew g w (g'.up n) w':=⟨h.os,h.tape,h.output,h.size,h.old,h.img,h.pr⟩
theorem ZHx {id:Nat} (hn: ¬g.ex id) (o:Obj) (s:Nat):Grew g w (g.grow id w.heap.size s) {w with heap:=w.heap.push o}:=
 ⟨rfl,rfl,rfl,by simp,fun b hb _=>by simp only [Array.getElem?_push];rw [if_neg Zo],fun b hb=>hb.elim (fun hx=> .inl ⟨b,hx,by rw [(ZHf g hn _ s).β b hx]⟩) fun he=> .inr (by rw [he,ZHa];exact Nat.le_refl _),fun _ _=>rfl⟩
theorem ZLn (h:H) (o:O) (ty:Option (Nat×Nat)) (k:Nat):(h.new o ty).obs.get k=if k=h.next then some o else h.obs.get k:=T.get_set _ _ _ _
theorem ZJA (h:H) (o:O) (ty:Option (Nat×Nat)) (k:Nat):(h.new o ty).tys.get k=if k=h.next then (match ty with|some x=>some x|none=>h.tys.get k) else h.tys.get k:=by
 cases ty with
 | none=>show h.tys.get k=_;split<;>rfl
 | some x=>exact T.get_set _ _ _ _
theorem HR.ty_next (hh:HR g h w):h.tys.get h.next=none:=by
 cases hx:h.tys.get h.next with
 | none=>rfl
 | some x=>exact absurd (hh.tl _ _ hx) (Nat.lt_irrefl _)
theorem ZJo (hh:HR g h w) (o:O) (ty:Option (Nat×Nat)):(h.new o ty).tys.get h.next=ty:=by
 rw [ZJA,if_pos rfl]
 cases ty with
 | none=>exact hh.ty_next
 | some x=>rfl
theorem HR.ghost (hh:HR g h w) (o:O) (ty:Option (Nat×Nat)):HR (g.up (h.next+1)) (h.new o ty) w:=by
 have hk: ∀k,g.ex k->(h.new o ty).obs.get k=h.obs.get k:=fun k hx=>by rw [ZLn,if_neg (Nat.ne_of_lt (hh.nx k hx))]
 have ha: ∀{k gr ver kid cs},ZHG (g.up (h.next+1)) (h.new o ty) k gr ver kid cs->ZHG g h k gr ver kid cs:=fun ⟨h1,h2,h3⟩=>⟨by rw [<-hk _ h3];exact h1,h2,h3⟩
 refine ⟨hh.bs,fun b hb=>Nat.lt_succ_of_lt (hh.nx b hb),rfl,hh.mins,fun b cs gr ver kid hx hb=>hh.grp b cs gr ver kid hx (by rw [<-hk b hx];exact hb),hh.blk,fun b o' hx hb=>(hh.ob b o' hx (by rw [<-hk b hx];exact hb)).mono (ZH9 g _) hx rfl,fun b x hb=>?_,fun b t n hx hb=>hh.ty b t n hx (by rw [ZJA,if_neg (Nat.ne_of_lt (hh.nx b hx))] at hb;exact hb),
  fun b b' gr ver kid cs gr' ver' kid' cs' h1 h2=>hh.i1 b b' gr ver kid cs gr' ver' kid' cs' (ha h1) (ha h2),fun b b' gr ver cs ver' kid' cs' h1 h2=>hh.i2 b b' gr ver cs ver' kid' cs' (ha h1) (ha h2),
  fun b b' gr ver cs ver' cs' x1 x2 h1 h2=>hh.i4 b b' gr ver cs ver' cs' x1 x2 (by rw [<-hk b x1];exact h1) (by rw [<-hk b' x2];exact h2),fun b o' b' x1 h1 hc x2 hne=>hh.dm b o' b' x1 (by rw [<-hk b x1];exact h1) hc x2 hne,⟨hh.dt.kp,hh.dt.dj,hh.dt.fr⟩⟩
 rw [ZJA] at hb
 split at hb
 ·rename_i e;rw [e];exact Nat.lt_succ_self _
 ·exact Nat.lt_succ_of_lt (hh.tl b x hb)
theorem HR.low_un (hh:HR g h w) {id:Nat} (hn: ¬g.ex id):h.low id=0:=by
 unfold H.low
 cases hm:h.mins.get id with
 | none=>rfl
 | some m=>exact absurd (hh.mins _ _ hm) hn
theorem HR.map (hh:HR g h w) {id:Nat} (hn: ¬g.ex id) (hid:id<h.next) {o:O} (ho:h.obs.get id=some o) (ob:Obj) (s:Nat) (hob:ObOK (g.grow id w.heap.size s) h.low {w with heap:=w.heap.push ob} id o)
  (hgr: ∀cs gr ver kid,o= .cells cs gr ver kid->gr=id) (hty: ∀t n,h.tys.get id=some (t,n)-> ∃vs fz,ob= .cells vs t fz/\(n≠0->vs.size=n)):HR (g.grow id w.heap.size s) h {w with heap:=w.heap.push ob}:=by
 have hne: ∀b,g.ex b->b≠id:=fun b hb he=>hn (he ▸ hb)
 have hβ: ∀b,g.ex b->(g.grow id w.heap.size s).β b=g.β b:=(ZHf g hn _ s).β
 have hold: ∀b,g.ex b->((g.grow id w.heap.size s).β b).1<w.heap.size:=fun b hb=>by rw [hβ b hb];exact (hh.blk b hb).2
 have hn1:((g.grow id w.heap.size s).β id).1=w.heap.size:=by rw [ZHa]
 have hbase:=hh.bs
 have ha: ∀{k gr ver kid cs},ZHG (g.grow id w.heap.size s) h k gr ver kid cs->(k=id/\o= .cells cs gr ver kid)∨(k≠id/\ZHG g h k gr ver kid cs):=fun {k gr ver kid cs} ⟨h1,h2,h3⟩=>by
  rcases h3 with h3|h3
  ·exact .inr ⟨hne k h3,h1,h2,h3⟩
  ·exact .inl ⟨h3,by rw [h3,ho] at h1;cases h1;rfl⟩
 have hgx: ∀{k gr ver kid cs},ZHG g h k gr ver kid cs->gr≠id:=fun {k gr ver kid cs} hk=>hne _ (hh.grp k _ _ _ _ hk.2.2 hk.1)
 refine ⟨by simp [G.grow];omega,fun b hb=>?_,by have:=hh.top;simp only [G.grow];omega,fun k m hk=> .inl (hh.mins k m hk),fun b cs gr ver kid hx hb=>?_,fun b hb=>?_,fun b o' hx hb=>?_,hh.tl,fun b t n hx hb=>?_,fun b b' gr ver kid cs gr' ver' kid' cs' h1 h2 hnb hbb=>?_,fun b b' gr ver cs ver' kid' cs' h1 h2=>?_,fun b b' gr ver cs ver' cs' x1 x2 h1 h2=>?_,fun b o' b' x1 hb hc x2 hnb=>?_,hh.dt.grew (ZHx hn ob s) rfl rfl⟩
 ·rcases hb with hb|rfl
  ·exact hh.nx b hb
  ·exact hid
 ·rcases hx with hx|hx
  ·exact .inl (hh.grp b cs gr ver kid hx hb)
  ·rw [hx,ho] at hb
   cases hb
   exact .inr (hgr _ _ _ _ rfl)
 ·rcases hb with hb|hb
  ·rw [hβ b hb]
   obtain ⟨q1,q2⟩:=hh.blk b hb
   exact ⟨q1,by simp;omega⟩
  ·rw [hb,hn1];exact ⟨hbase,by simp⟩
 ·rcases hx with hx|hx
  ·refine (hh.ob b o' hx hb).mono (ZHf g hn _ s) hx ?_
   simp only [Array.getElem?_push]
   rw [if_neg (Nat.ne_of_lt (hh.blk b hx).2)]
  ·rw [hx,ho] at hb
   cases hb
   rw [hx];exact hob
 ·rcases hx with hx|hx
  ·obtain ⟨q1,vs,fz,q2,q3⟩:=hh.ty b t n hx hb
   rw [hβ b hx]
   refine ⟨q1,vs,fz,?_,q3⟩
   simp only [Array.getElem?_push]
   rw [if_neg (Nat.ne_of_lt (hh.blk b hx).2)]
   exact q2
  ·subst hx
   obtain ⟨vs,fz,rfl,q⟩:=hty t n hb
   rw [ZHa]
   exact ⟨rfl,vs,fz,by simp,q⟩
 ·rcases ha h1 with ⟨e1,o1⟩|⟨n1,a1⟩
  ·rcases ha h2 with ⟨e2,o2⟩|⟨n2,a2⟩
   ·exact absurd (e1.trans e2.symm) hnb
   ·have:=hold b' a2.2.2
    rw [e1,hn1] at hbb;omega
  ·rcases ha h2 with ⟨e2,o2⟩|⟨n2,a2⟩
   ·have:=hold b a1.2.2
    rw [e2,hn1] at hbb;omega
   ·rw [hβ b a1.2.2,hβ b' a2.2.2] at hbb
    exact hh.i1 b b' gr ver kid cs gr' ver' kid' cs' a1 a2 hnb hbb
 ·rcases ha h1 with ⟨e1,o1⟩|⟨n1,a1⟩
  ·have hg1:=hgr _ _ _ _ o1
   rcases ha h2 with ⟨e2,o2⟩|⟨n2,a2⟩
   ·rw [o1] at o2;cases o2
    exact ⟨Nat.le_refl _,fun _=>by rw [e1,e2];exact Nat.le_refl _⟩
   ·exact absurd hg1 (hgx a2)
  ·rcases ha h2 with ⟨e2,o2⟩|⟨n2,a2⟩
   ·exact absurd (hgr _ _ _ _ o2) (hgx a1)
   ·rw [hβ b a1.2.2,hβ b' a2.2.2]
    exact hh.i2 b b' gr ver cs ver' kid' cs' a1 a2
 ·rcases x1 with x1|x1
  ·rcases x2 with x2|x2
   ·exact hh.i4 b b' gr ver cs ver' cs' x1 x2 h1 h2
   ·rw [x2,ho] at h2;cases h2
    exact absurd (hgr _ _ _ _ rfl) (hne _ (hh.grp b _ _ _ _ x1 h1))
  ·rcases x2 with x2|x2
   ·rw [x1,ho] at h1;cases h1
    exact absurd (hgr _ _ _ _ rfl) (hne _ (hh.grp b' _ _ _ _ x2 h2))
   ·exact x1.trans x2.symm
 ·rcases x1 with x1|x1
  ·rw [hβ b x1]
   rcases x2 with x2|x2
   ·rw [hβ b' x2];exact hh.dm b o' b' x1 hb hc x2 hnb
   ·rw [x2,hn1];have:=(hh.blk b x1).2;omega
  ·rcases x2 with x2|x2
   ·rw [x1,hn1];have:=hold b' x2;omega
   ·exact absurd (x2.trans x1.symm) hnb
theorem HR.push (hh:HR g h w) (o:O) (ob:Obj) (s:Nat) (hob:ObOK (g.grow h.next w.heap.size s) h.low {w with heap:=w.heap.push ob} h.next o)
  (hgr: ∀cs gr ver kid,o= .cells cs gr ver kid->gr=h.next) (ty:Option (Nat×Nat)) (hty: ∀t n,ty=some (t,n)-> ∃vs fz,ob= .cells vs t fz/\(n≠0->vs.size=n)):HR (g.grow h.next w.heap.size s) (h.new o ty) {w with heap:=w.heap.push ob}:=
 by
 have he:(g.up (h.next+1)).grow h.next w.heap.size s=g.grow h.next w.heap.size s:=by simp [G.grow,G.up,hh.top]
 have:=(hh.ghost o ty).map hh.fresh (Nat.lt_succ_self _) (by rw [ZLn,if_pos rfl]) ob s (by rw [he];exact hob) hgr (fun t n ht=>hty t n (by rw [ZJo hh] at ht;exact ht))
 rw [he] at this
 exact this
theorem HR.newCells (hh:HR g h w) {cs:List V} {vs:Array Value} (t:TypeId) (hl:cs.length<=vs.size) (hr:RelAt g cs vs 0) (ty:Option (Nat×Nat)) (hty: ∀t' n,ty=some (t',n)->t'=t/\n=0):
  HR (g.grow h.next w.heap.size vs.size) (h.newCells cs ty) {w with heap:=w.heap.push (.cells vs t)}:=by
 unfold H.newCells
 refine hh.push (.cells cs h.next 0 false) (.cells vs t) vs.size ⟨vs,t,(0,0),?_,(ZKr _ _ _ _).symm,fun _=>⟨rfl,?_,?_⟩⟩ (fun cs' gr ver kid e=>(by cases e;rfl)) ty (fun t' n ht=>(by obtain ⟨rfl,rfl⟩:=hty t' n ht;exact ⟨vs,(0,0),rfl,fun h=>absurd rfl h⟩))
 ·rw [ZHa];simp
 ·rw [ZHa];simp;exact hl
 ·rw [ZHa];exact hr.mono (ZHf g hh.fresh _ _)
theorem Rels.at {cs:List V} {vs:List Value} (h:Rels g cs vs):RelAt g cs vs.toArray 0:=fun i x hx=>by
 obtain ⟨l,hr⟩:=Rels.iff.1 h
 have hi:=Am.Zaq hx
 have hu:vs[i]? =some (vs[i]'(by omega)):=List.getElem?_eq_getElem _
 exact ⟨vs[i]'(by omega),by simpa using hu,hr i x _ hx hu⟩
theorem Rels.at' {cs:List V} {vs:Array Value} (h:Rels g cs vs.toList):RelAt g cs vs 0:=by
 have:=h.at;simpa using this
theorem RelAt.cut {cs:List V} {vs:Array Value} {b:Nat} (h:RelAt g cs vs b) {i n:Nat} {xs:List V} (hc:cutC cs i n=some xs): ∃us:List Value,us.length=n/\Rels g xs us/\(∀(j:Nat) u,us[j]? =some u->vs[b+i+j]? =some u)/\xs.length=n/\i+n<=cs.length:=by
 unfold cutC at hc
 split at hc
 ·rename_i hle
  cases hc
  have hx: ∀(j:Nat) x,((cs.drop i).take n)[j]? =some x-> ∃v,vs[b+i+j]? =some v/\Rel g x v:=fun j x hx=>by
   rw [List.getElem?_take] at hx
   split at hx
   ·rw [List.getElem?_drop] at hx
    obtain ⟨v,h1,h2⟩:=h (i+j) x hx
    exact ⟨v,by rw [Nat.add_assoc];exact h1,h2⟩
   ·cases hx
  obtain ⟨us,l,hq⟩:=Am.Zmh ((cs.drop i).take n) (fun j x v=>vs[b+i+j]? =some v/\Rel g x v) hx
  have hlen:((cs.drop i).take n).length=n:=by simp;omega
  refine ⟨us,l.trans hlen,Rels.iff.2 ⟨l.symm,fun j x v h1 h2=>(hq j x v h1 h2).2⟩,fun j u hu=>?_,hlen,hle⟩
  have hj:=Am.Zaq hu
  exact (hq j _ u (List.getElem?_eq_getElem Zo) hu).1
 ·cases hc
theorem HR.read (hh:HR g h w) {b:Nat} (hx:g.ex b) {cs:List V} (hr:h.rd b=some cs): ∃vs t,w.heap[(g.β b).1]? =some (.cells vs t (0,0))/\vs.size=g.sz b/\(g.β b).2+cs.length<=vs.size/\RelAt g cs vs (g.β b).2:=by
 unfold H.rd at hr
 split at hr
 ·rename_i cs' grp ver kid hb
  split at hr
  ·rename_i ha
   cases hr
   obtain ⟨vs,t,fz,h1,h2,h3⟩:=hh.ob b _ hx hb
   obtain ⟨rfl,q2,q3⟩:=h3 ha
   exact ⟨vs,t,h1,h2,q2,q3⟩
  ·cases hr
 ·cases hr
theorem Rel.one {x:V} {v:Value} (h:Rel g x v) (h1:x.one=true):v.oneCell'=true:=by
 cases x with
 | agg=>cases h1
 | tup=>cases h1
 | _=>
   simp only [Rel] at h
   first
     | (subst h;rfl)
     | (obtain ⟨_,rfl⟩:=h;rfl)
     | (obtain ⟨_,rfl,_⟩:=h;rfl)
     | (obtain ⟨_,_,rfl⟩:=h;rfl)
     | (obtain ⟨_,_,rfl,_⟩:=h;rfl)
theorem ZII {cs xs cs':List V} {o:Nat} (h:putC cs o xs=some cs'):o+xs.length<=cs.length/\cs'=cs.take o++xs++cs.drop (o+xs.length)/\cs'.length=cs.length:=by
 unfold putC at h
 split at h
 ·cases h
  refine ⟨by assumption,rfl,?_⟩
  simp;omega
 ·cases h
theorem ZLF {α:Type} {l xs:List α} {o:Nat} (h:o+xs.length<=l.length) (i:Nat):(l.take o++xs++l.drop (o+xs.length))[i]? =if i<o then l[i]? else if i<o+xs.length then xs[i-o]? else l[i]? :=by
 have hm:(l.take o).length=o:=by rw [List.length_take];omega
 rcases Nat.lt_or_ge i o with h1|h1
 ·rw [if_pos h1,List.append_assoc,List.getElem?_append_left Zo,List.getElem?_take,if_pos h1]
 ·rw [if_neg Zo]
  rcases Nat.lt_or_ge i (o+xs.length) with h2|h2
  ·rw [if_pos h2,List.append_assoc,List.getElem?_append_right Zo,hm,List.getElem?_append_left Zo]
  ·rw [if_neg Zo,List.append_assoc,List.getElem?_append_right Zo,hm,List.getElem?_append_right Zo,List.getElem?_drop]
   congr 1
   omega
theorem HR.write (hh:HR g h w) {b o:Nat} (hbn:g.ex b) {xs:List V} {h':H} (hw:h.wr b o xs=some h') {us:List Value} (hr:Rels g xs us):
   (∀u∈us,u.oneCell'=true)/\ ∃vs t,w.heap[(g.β b).1]? =some (.cells vs t (0,0))/\(g.β b).2+o+us.length<=vs.size/\
     HR g h' (w.setRow (g.β b).1 (vs.toList.take ((g.β b).2+o)++us++vs.toList.drop ((g.β b).2+o+us.length)).toArray)/\
     Grew g w g (w.setRow (g.β b).1 (vs.toList.take ((g.β b).2+o)++us++vs.toList.drop ((g.β b).2+o+us.length)).toArray):=by
 unfold H.wr at hw
 split at hw
 · rename_i cs grp ver hb
   split at hw
   · rename_i hc
     obtain ⟨ha,hone⟩:=hc
     split at hw
     · rename_i cs' hp
       obtain ⟨p1,p2,p3⟩:=ZII hp
       obtain ⟨vs,t,fz,o1,o2,o3⟩:=hh.ob b _ hbn hb
       obtain ⟨rfl,q2,q3⟩:=o3 ha
       have hlen:xs.length=us.length:=hr.len
       have hle:(g.β b).2+o+us.length<=vs.size:=by omega
       have hal:ZHG g h b grp ver false cs:=⟨hb,ha,hbn⟩
       refine ⟨fun u hu=>?_,vs,t,o1,hle,?_,?_⟩
       · obtain ⟨i,hi⟩:=List.mem_iff_getElem?.1 hu
         have hil:=Am.Zaq hi
         have hx:xs[i]? =some (xs[i]'(by omega)):=List.getElem?_eq_getElem _
         refine ((Rels.iff.1 hr).2 i _ u hx hi).one (List.all_eq_true.1 hone _ (List.mem_of_getElem? hx))
       · generalize hN:(vs.toList.take ((g.β b).2+o)++us++vs.toList.drop ((g.β b).2+o+us.length)).toArray=new
         have hnew:new.size=vs.size:=by rw [<-hN];simp;omega
         have hget: ∀i:Nat,new[i]? =if i<(g.β b).2+o then vs[i]? else if i<(g.β b).2+o+us.length then us[i-((g.β b).2+o)]? else vs[i]? :=fun i=>by
           rw [<-hN,List.getElem?_toArray,ZLF (by simpa using hle)]
           simp only [Array.getElem?_toList]
         have hlow: ∀k,h'.low k=if k=grp then ver else h.low k:=by
           intro k
           simp only [Option.some.injEq] at hw
           subst hw
           unfold H.low
           simp only
           split
           · rename_i hl
             have hl:(h.mins.get grp).getD 0=ver:=by simpa using hl
             split
             · rename_i e;subst e;exact hl
             · rfl
           · rw [T.get_set]
             split
             · rfl
             · rfl
         have hobs: ∀k,h'.obs.get k=if k=b then some (.cells cs' grp ver false) else h.obs.get k:=fun k=>by
           simp only [Option.some.injEq] at hw
           subst hw
           exact T.get_set _ _ _ _
         have htys:h'.tys=h.tys:=by simp only [Option.some.injEq] at hw;subst hw;rfl
         have hnext:h'.next=h.next:=by simp only [Option.some.injEq] at hw;subst hw;rfl
         have hmins: ∀k m,h'.mins.get k=some m->g.ex k:=fun k m hm=>by
           simp only [Option.some.injEq] at hw
           subst hw
           simp only at hm
           split at hm
           · exact hh.mins k m hm
           · rw [T.get_set] at hm
             split at hm
             · rename_i e;rw [e];exact hh.grp b _ _ _ _ hbn hb
             · exact hh.mins k m hm
         have hdown: ∀b' gr ve kid c,ZHG g h' b' gr ve kid c-> ∃c',ZHG g h b' gr ve kid c'/\c'.length=c.length/\(b'≠b->c'=c):=fun b' gr ve kid c ⟨e1,e2,e3⟩=>by
           rw [hobs] at e1
           rw [hlow] at e2
           split at e1
           · rename_i e
             cases e1
             exact ⟨cs,by rw [e];exact hal,p3.symm,fun hn=>absurd e hn⟩
           · refine ⟨c,⟨e1,?_,e3⟩,rfl,fun _=>rfl⟩
             split at e2
             · rename_i e;rw [e];exact Nat.le_trans ha e2
             · exact e2
         have hver: ∀b' gr ve kid c,ZHG g h' b' gr ve kid c->gr=grp->ver<=ve:=fun b' gr ve kid c ⟨e1,e2,_⟩ e=>by
           rw [hlow,if_pos e] at e2;exact e2
         have hapart: ∀b' gr ve kid c,ZHG g h' b' gr ve kid c->b'≠b->(g.β b').1≠(g.β b).1:=fun b' gr ve kid c hal' hne heq=>by
           obtain ⟨c',hd,_,_⟩:=hdown _ _ _ _ _ hal'
           obtain ⟨e1,e2⟩:=hh.i1 b b' grp ver false cs gr ve kid c' hal hd (Ne.symm hne) heq.symm
           subst e1
           have h1:=hver _ _ _ _ _ hal' rfl
           have h2:=(hh.i2 b b' grp ver cs ve kid c' hal hd).1
           omega
         refine ⟨by rw [size_setRow];exact hh.bs,fun b' hb'=>by rw [hnext];exact hh.nx b' hb',hh.top.trans hnext.symm,hmins,fun b' c gr ve kid hx' hb'=>?_,fun b' hb'=>?_,fun b' o' hx' hb'=>?_,fun b' x hb'=>by rw [htys] at hb';rw [hnext];exact hh.tl b' x hb',fun b' tt n hx' hb'=>?_,fun b1 b2 gr ve kid c gr' ve' kid' c' h1 h2 hne hbb=>?_,fun b1 b2 gr ve c ve' kid' c' h1 h2=>?_,fun b1 b2 gr ve c ve' c' x1 x2 h1 h2=>?_,fun b1 o' b2 x1 hb1 hc hb2 hne=>?_,hh.dt.at hbn (by rw [size_setRow];exact Nat.le_refl _) fun k hk=>setRow_other w (g.β b).1 k _ hk⟩
         · rw [hobs] at hb'
           split at hb'
           · cases hb';exact hh.grp b _ _ _ _ hbn hb
           · exact hh.grp b' c gr ve kid hx' hb'
         · rw [size_setRow];exact hh.blk b' hb'
         · by_cases hbb:b'=b
           · subst hbb
             rw [hobs,if_pos rfl] at hb'
             cases hb'
             refine ⟨new,t,(0,0),setRow_heap w _ vs new t (0,0) o1,hnew.trans o2,fun _=>⟨rfl,by rw [hnew,p3];exact q2,fun i x hx=>?_⟩⟩
             rw [p2,ZLF p1] at hx
             rw [hget]
             by_cases i1:i<o
             · rw [if_pos i1] at hx
               rw [if_pos Zo];exact q3 i x hx
             · rw [if_neg i1] at hx
               rw [if_neg Zo]
               by_cases i2:i<o+xs.length
               · rw [if_pos i2] at hx
                 rw [if_pos Zo]
                 have hj:(g.β b').2+i-((g.β b').2+o)=i-o:=by omega
                 rw [hj]
                 have hu:us[i-o]? =some (us[i-o]'(by omega)):=List.getElem?_eq_getElem _
                 exact ⟨_,hu,(Rels.iff.1 hr).2 _ x _ hx hu⟩
               · rw [if_neg i2] at hx
                 rw [if_neg Zo];exact q3 i x hx
           · rw [hobs,if_neg hbb] at hb'
             have hob:=hh.ob b' o' hx' hb'
             cases ho:ZJD o' with
             | false=>
               have hne:=hh.dm b' o' b hx' hb' ho hbn (Ne.symm hbb)
               have hm:=hob.mono (Le.refl g).toLe0 hx' (setRow_other w (g.β b).1 (g.β b').1 new hne)
               cases o' with
               | cells=>cases ho
               | map=>exact hm
               | siter=>exact hm
               | miter=>exact hm
               | mapU=>exact hm
               | loop=>exact hm
             | true=>
               cases o' with
               | cells c gr ve kid=>
                 obtain ⟨us',t',fz',z1,z2,z3⟩:=hob
                 by_cases heq:(g.β b').1=(g.β b).1
                 · have hv:us'=vs/\t'=t/\fz'=(0,0):=by rw [heq,o1] at z1;cases z1;exact ⟨rfl,rfl,rfl⟩
                   obtain ⟨rfl,rfl,rfl⟩:=hv
                   refine ⟨new,t',(0,0),by rw [heq];exact setRow_heap w _ us' new t' (0,0) o1,hnew.trans z2,fun hl=>?_⟩
                   have hal':ZHG g h' b' gr ve kid c:=⟨by rw [hobs,if_neg hbb];exact hb',hl,hx'⟩
                   exact absurd heq (hapart _ _ _ _ _ hal' hbb)
                 · refine ⟨us',t',fz',by rw [setRow_other w (g.β b).1 (g.β b').1 new heq];exact z1,z2,fun hl=>z3 ?_⟩
                   have hal':ZHG g h' b' gr ve kid c:=⟨by rw [hobs,if_neg hbb];exact hb',hl,hx'⟩
                   obtain ⟨c',hd,_,_⟩:=hdown _ _ _ _ _ hal'
                   exact hd.2.1
               | map=>cases ho
               | siter=>cases ho
               | miter=>cases ho
               | mapU=>cases ho
               | loop=>cases ho
         · rw [htys] at hb'
           obtain ⟨y1,us',fz',y2,y3⟩:=hh.ty b' tt n hx' hb'
           refine ⟨y1,?_⟩
           by_cases heq:(g.β b').1=(g.β b).1
           · rw [heq,o1] at y2
             cases y2
             exact ⟨new,(0,0),by rw [heq];exact setRow_heap w _ vs new t (0,0) o1,fun hn=>hnew.trans (y3 hn)⟩
           · exact ⟨us',fz',by rw [setRow_other w (g.β b).1 (g.β b').1 new heq];exact y2,y3⟩
         · obtain ⟨c1,d1,_,_⟩:=hdown _ _ _ _ _ h1
           obtain ⟨c2,d2,_,_⟩:=hdown _ _ _ _ _ h2
           exact hh.i1 b1 b2 gr ve kid c1 gr' ve' kid' c2 d1 d2 hne hbb
         · obtain ⟨c1,d1,l1,_⟩:=hdown _ _ _ _ _ h1
           obtain ⟨c2,d2,l2,_⟩:=hdown _ _ _ _ _ h2
           have:=hh.i2 b1 b2 gr ve c1 ve' kid' c2 d1 d2
           rw [l1,l2] at this
           exact this
         · rw [hobs] at h1 h2
           split at h1
           · rename_i e1
             cases h1
             split at h2
             · rename_i e2;exact e1.trans e2.symm
             · rw [e1];exact hh.i4 b b2 grp ver cs ve' c' hbn x2 hb h2
           · split at h2
             · rename_i e2
               cases h2
               rw [e2];exact hh.i4 b1 b grp ve c ver cs x1 hbn h1 hb
             · exact hh.i4 b1 b2 gr ve c ve' c' x1 x2 h1 h2
         · rw [hobs] at hb1
           split at hb1
           · cases hb1;cases hc
           · exact hh.dm b1 o' b2 x1 hb1 hc hb2 hne
       · exact ⟨rfl,rfl,rfl,by rw [size_setRow];exact Nat.le_refl _,fun k hk hn=>setRow_other w _ k _ fun he=>hn b hbn he.symm,fun b hb=> .inl ⟨b,hb,rfl⟩,fun _ _=>rfl⟩
     · cases hw
   · cases hw
 · cases hw
end Go.Cm
end
section
namespace Go.Cm
open Go.Am (Zcs Zaw Addr.add_eq)
attribute [local instance] wi0
variable {P:Program} {F:ZaQ} {g:G} {e:Env} {a:Act} {w:World} {h h':H} {ov:Option V} {o:Oper}
theorem ZHt {t:TypeId} {z:V} (h:ZL3 P t=some z): ∃i v,P.info? t=some i/\i.zero=some v/\ofConst v=some z:=by
 unfold ZL3 at h
 split at h
 ·rename_i i hi
  split at h
  ·rename_i v hv;exact ⟨i,v,hi,hv,h⟩
  ·cases h
 ·cases h
def MkOK (P:Program) (o:Oper) (a:Act) (w:World) (g:G) (c:Nat->O) (v:Nat->V) (ty:Option (Nat×Nat)):Prop:=
 ∃r ob s,(execOp a.eval o).run P w= .ok (.value r) (w.alloc ob)/\(∀id low,¬g.ex id->ObOK (g.grow id w.heap.size s) low {w with heap:=w.heap.push ob} id (c id))/\
  (∀id,Rel (g.grow id w.heap.size s) (v id) r)/\(∀id cs gr ver kid,c id= .cells cs gr ver kid->gr=id)/\ ∀t n,ty=some (t,n)-> ∃vs fz,ob= .cells vs t fz/\(n≠0->vs.size=n)
theorem MkOK.op {c:Nat->O} {v:Nat->V} {ty:Option (Nat×Nat)} (hm:MkOK P o a w g c v ty) (hh:HR g h w):OpOK P o a w g (some (v h.next)) (h.new (c h.next) ty):=by
 obtain ⟨r,ob,s,h1,h2,h3,h4,h5⟩:=hm
 exact ⟨_,r,_,g.grow h.next w.heap.size s,h1,.inl rfl,h3 _,hh.push _ ob s (h2 _ _ hh.fresh) (h4 _) ty h5,hh.le_grow _ _,ZHx hh.fresh _ _⟩
theorem ZPT {cs:List V} {cells:Array Value} (hr:Rels g cs cells.toList) (t:TypeId) {id:Nat} (low:Nat->Nat) (hn: ¬g.ex id):ObOK (g.grow id w.heap.size cells.size) low {w with heap:=w.heap.push (.cells cells t)} id (.cells cs id 0 false):=by
 refine ⟨cells,t,(0,0),?_,(ZKr _ _ _ _).symm,fun _=>⟨rfl,?_,?_⟩⟩
 ·rw [ZHa];simp
 ·rw [ZHa];have:=hr.len;simp at this;simp;omega
 ·rw [ZHa];exact hr.at'.mono (ZHf g hn _ _)
theorem ZN1 {x:V} {v:Value} (hx:Rel g x v) (t:TypeId) (ty:Option (Nat×Nat)) (hty: ∀t' n,ty=some (t',n)->t'=t/\n=x.cells.length) (hr:(execOp a.eval o).run P w= .ok (.value (.pointer (some ⟨w.heap.size,0,none⟩))) (w.alloc (.cells v.cells t))):MkOK P o a w g (fun i=> .cells x.cells i 0 false) (fun i=> .ptr i 0) ty:=by
 refine ⟨_,_,v.cells.size,hr,fun id low hn=>ZPT hx.cells t low hn,fun id=>?_,(fun id cs gr ver kid e=>by cases e;rfl),fun t' n ht=>?_⟩
 rotate_left
 ·obtain ⟨rfl,rfl⟩:=hty t' n ht
  exact ⟨_,(0,0),rfl,fun _=>by have:=hx.cells.len;simp at this;exact this.symm⟩
 simp only [Rel,G.at,ZHa]
 exact ⟨.inr rfl,trivial⟩
section
variable {c:Nat->O} {v:Nat->V} {ty:Option (Nat×Nat)}
theorem ZOw {el:TypeId} (ho:o.op= .alloc el) (hx:mkV P e (.alloc el)=some (c,v,ty)):MkOK P o a w g c v ty:=by
 simp only [mkV,Option.map_eq_some_iff,Prod.mk.injEq] at hx
 obtain ⟨z,hz,rfl,rfl,rfl⟩:=hx
 obtain ⟨i,v,hi,hv,hc⟩:=ZHt hz
 refine ZN1 (ofConst_rel g v hc) el _ (fun t' n ht=>by cases ht;exact ⟨rfl,rfl⟩) ?_
 simp [execOp,ho,Instr.alloc,Zcs hi hv,newVar,newRow]
theorem ZQy (he:EnvR g e a) {el:TypeId} {x:Operand} (ho:o.op= .box el x) (hx:mkV P e (.box el x)=some (c,v,ty)):MkOK P o a w g c v ty:=by
 simp only [mkV,Option.map_eq_some_iff,Prod.mk.injEq] at hx
 obtain ⟨z,hz,rfl,rfl,rfl⟩:=hx
 refine ZN1 (ZG2 he hz) el _ (fun t' n ht=>by cases ht) ?_
 simp [execOp,ho,Instr.box,newVar,newRow]
theorem ZM3 (he:EnvR g e a) {t:TypeId} {r:Option Operand} (ho:o.op= .makeMap t r) (hx:mkV P e (.makeMap t r)=some (c,v,ty)):MkOK P o a w g c v ty:=by
 have fin:(execOp a.eval o).run P w= .ok (.value (.map (some w.heap.size))) (w.alloc (.map #[] 0))->MkOK P o a w g (fun _=> .map [] 0) (fun i=> .map i) none:=fun hr=>by
   refine ⟨.map (some w.heap.size),.map #[] 0,0,hr,fun id low hn=>⟨#[],by rw [ZHa];simp,⟨rfl,fun i e he=>by simp at he⟩,by rw [ZHa]⟩,fun id=>?_,(fun _ _ _ _ _ e=>by cases e),fun _ _ e=>by cases e⟩
   simp only [Rel,ZHa]
   exact ⟨.inr rfl,trivial⟩
 simp only [mkV] at hx
 split at hx
 · rename_i k el hu hr
   simp only [Option.some.injEq,Prod.mk.injEq] at hx
   obtain ⟨rfl,rfl,rfl⟩:=hx
   cases r with
   | none=>exact fin (by simp [execOp,ho,Instr.makeMap])
   | some r=>simp [optV] at hr
 · rename_i k el kk n hu hr
   simp only [Option.some.injEq,Prod.mk.injEq] at hx
   obtain ⟨rfl,rfl,rfl⟩:=hx
   cases r with
   | none=>simp [optV] at hr
   | some r=>
     simp only [optV,Option.map_eq_some_iff,Option.some.injEq] at hr
     obtain ⟨v,hv,rfl⟩:=hr
     have hi:=ZHv (ZG2 he hv)
     exact fin (by simp [execOp,ho,Instr.makeMap,hi,run_underlying hu,asInt,asIntOf])
 · cases hx
end
section
variable (hh:HR g h w) (he:EnvR g e a)
include hh he
theorem ZMv {t:TypeId} {b i:Nat} {cs:List V} {x:V} {vs:Array Value} {ty:TypeId} (hb:w.heap[(g.β b).1]? =some (.cells vs ty (0,0))) (hr:RelAt g cs vs (g.β b).2) (hx:ZLP P t cs i=some x):
  ∃v,(loadVar t (g.at b i)).run P w= .ok v w/\Rel g x v:=by
 unfold ZLP aggT szOf at hx
 split at hx
 ·rename_i n h1 h2
  simp only [Option.map_eq_some_iff] at hx
  obtain ⟨xs,h3,rfl⟩:=hx
  obtain ⟨us,u1,u2,u3,u4,u5⟩:=hr.cut h3
  obtain ⟨inf,hi,rfl⟩:=Option.map_eq_some_iff.1 h2
  have ha:(Go.isAgg t).run P w= .ok true w:=by
   split at h1<;>first|cases h1|skip
   all_goals rename_i hu;simp [Go.isAgg,run_underlying hu]
  refine ⟨.agg us.toArray,?_,by simp only [Rel];exact ⟨us,rfl,u2⟩⟩
  have hl:=run_loadCells_list (P:=P) w (g.at b i) us (fun j v hv=>by
   rw [G.at,Addr.add_eq,Am.ZG6 hb];exact u3 j v hv)
  unfold loadVar
  rw [Sem.run_bind,ha,Result.andThen_ok]
  simp [sizeOf,typeInfo,hi]
  rw [<-u1,hl];rfl
 ·rename_i n h1 h2
  obtain ⟨v,hv,hrel⟩:=hr i x hx
  have ha:(Go.isAgg t).run P w= .ok false w:=by
   split at h1<;>first|cases h1|skip
   rename_i d hn1 hn2 hd
   cases d<;>first|exact (hn1 _ rfl).elim|exact (hn2 _ _ rfl).elim|simp [Go.isAgg,run_underlying hd]
  refine ⟨v,?_,hrel⟩
  unfold loadVar
  rw [Sem.run_bind,ha,Result.andThen_ok]
  have hc:w.cell? (g.at b i)=some v:=by rw [G.at,Am.ZG6 hb];exact hv
  simp [hc]
 ·cases hx
omit hh he in
theorem ZKM {u:Value} {x:Am.P} (h:Am.RepP g.pr0 g.w0 u x):Rel g (vOfP x) u:=by
 cases h with
 | int k n=>rfl
 | bool b=>rfl
 | str bs t h=>exact ⟨bs,rfl,h⟩
 | nils a cap s=>exact ⟨(a,0),cap,rfl,.nils a cap s⟩
 | sl b o len cap s rows vs hl hcap hpr hlen hc hr=>exact ⟨(some ⟨b,o,none⟩,len),cap,rfl,.sl b o len cap s rows vs hl hcap hpr hlen hc hr⟩
omit hh he in
theorem ZgH {t:TypeId} {b i:Nat} {cs:List V} {x:V} (hc: ∀(j:Nat) y,cs[j]? =some y-> ∃v,w.cell? ⟨b,i+j,none⟩=some v/\Rel g y v) (hx:ZLP P t cs 0=some x):
  ∃v,(loadVar t ⟨b,i,none⟩).run P w= .ok v w/\Rel g x v:=by
 obtain ⟨vs,hvs⟩: ∃vs:Array Value,vs=((List.range cs.length).map fun j=>(w.cell? ⟨b,i+j,none⟩).getD undef).toArray:=⟨_,rfl⟩
 have hget: ∀(j:Nat),j<cs.length->w.cell? ⟨b,i+j,none⟩=vs[j]? :=fun j hj=>by
  obtain ⟨v,h1,_⟩:=hc j _ (List.getElem?_eq_getElem hj)
  rw [hvs,h1]
  simp [hj,h1]
 have hr:RelAt g cs vs 0:=fun j y hy=>by
  obtain ⟨v,h1,h2⟩:=hc j y hy
  exact ⟨v,by rw [Nat.zero_add,<-hget j (Am.Zaq hy)];exact h1,h2⟩
 unfold ZLP aggT szOf at hx
 split at hx
 ·rename_i n h1 h2
  simp only [Option.map_eq_some_iff] at hx
  obtain ⟨xs,h3,rfl⟩:=hx
  obtain ⟨us,u1,u2,u3,u4,u5⟩:=hr.cut h3
  obtain ⟨inf,hi,rfl⟩:=Option.map_eq_some_iff.1 h2
  have ha:(Go.isAgg t).run P w= .ok true w:=by
   split at h1<;>first|cases h1|skip
   all_goals rename_i hu;simp [Go.isAgg,run_underlying hu]
  refine ⟨.agg us.toArray,?_,by simp only [Rel];exact ⟨us,rfl,u2⟩⟩
  have hle:us.length<=cs.length:=by
   rcases Nat.lt_or_ge cs.length inf.size with hlt|hge
   ·rw [cutC,if_neg Zo] at h3;cases h3
   ·omega
  have hl:=run_loadCells_list (P:=P) w ⟨b,i,none⟩ us (fun j v hv=>by
   have:=Am.Zaq hv
   rw [Addr.add_eq,hget j Zo]
   have:=u3 j v hv
   simpa using this)
  unfold loadVar
  rw [Sem.run_bind,ha,Result.andThen_ok]
  simp [sizeOf,typeInfo,hi]
  rw [<-u1,hl];rfl
 ·rename_i n h1 h2
  obtain ⟨v,hv,hrel⟩:=hc 0 x hx
  have ha:(Go.isAgg t).run P w= .ok false w:=by
   split at h1<;>first|cases h1|skip
   rename_i d hn1 hn2 hd
   cases d<;>first|exact (hn1 _ rfl).elim|exact (hn2 _ _ rfl).elim|simp [Go.isAgg,run_underlying hd]
  refine ⟨v,?_,hrel⟩
  unfold loadVar
  rw [Sem.run_bind,ha,Result.andThen_ok]
  have hc:w.cell? ⟨b,i,none⟩=some v:=by simpa using hv
  simp [hc]
 ·cases hx
theorem Zyq {t:TypeId} {x:Operand} (ho:o.op= .load t x) (hx:opV P F e h (.load t x)=some (ov,h')):OpOK P o a w g ov h':=by
 simp only [opV] at hx
 split at hx
 ·rename_i p h1
  simp only [Option.map_eq_some_iff,Prod.mk.injEq] at hx
  obtain ⟨z,hz,rfl,rfl⟩:=hx
  unfold ZQv at hz
  split at hz
  ·rename_i b i
   split at hz
   ·rename_i cs hrd
    obtain ⟨hb,hv⟩:=ZIy (ZG2 he h1)
    obtain ⟨vs,ty,r1,r2,r3,r4⟩:=hh.read hb hrd
    obtain ⟨v,q1,q2⟩:=ZMv hh he r1 r4 hz
    refine ZG3 hh (v:=v) ?_ q2
    simp only [execOp,ho,hv]
    rw [Zaw]
    simp only [Instr.loadAt,Instr.sureAddr,Sem.run_bind,Sem.run_pure,Result.andThen_ok,q1]
   ·cases hz
  ·rename_i cs
   have hr:=ZG2 he h1
   simp only [Rel] at hr
   obtain ⟨b,q,hv,hc⟩:=hr
   obtain ⟨v,q1,q2⟩:=ZgH (P:=P) (g:=g) (w:=w) (b:=b) (i:=q) (fun j y hy=>by
    rw [List.getElem?_map,Option.map_eq_some_iff] at hy
    obtain ⟨z0,hz0,rfl⟩:=hy
    obtain ⟨u,r1,r2,r3⟩:=hc j z0 hz0
    exact ⟨u,hh.dt.kp _ _ _ r2 r1,ZKM r3⟩) hz
   refine ZG3 hh (v:=v) ?_ q2
   simp only [execOp,ho,hv]
   rw [Zaw]
   simp only [Instr.loadAt,Instr.sureAddr,Sem.run_bind,Sem.run_pure,Result.andThen_ok,q1]
  ·cases hz
 ·cases hx
theorem ZOQ {t:TypeId} {x y:Operand} (ho:o.op= .store t x y) (hx:opV P F e h (.store t x y)=some (ov,h')):OpOK P o a w g ov h':=by
 simp only [opV] at hx
 split at hx
 ·rename_i p v h1 h2
  simp only [Option.map_eq_some_iff,Prod.mk.injEq] at hx
  obtain ⟨h2',hz,rfl,rfl⟩:=hx
  unfold ZJ5 at hz
  split at hz
  ·rename_i b i
   split at hz
   ·rename_i hs
    have hs:szOf P t=some v.cells.length:=by simpa using hs
    obtain ⟨hb,hv⟩:=ZIy (ZG2 he h1)
    have hc:=(ZG2 he h2).cells
    obtain ⟨u1,vs,ty,r1,r2,r3,r4⟩:=hh.write hb hz hc
    obtain ⟨inf,hi,hsz⟩:=Option.map_eq_some_iff.1 hs
    have hl:=hc.len
    refine ⟨.skip,undef,_,g,?_,.inr ⟨rfl,rfl⟩,by simp only [Option.getD_none,Rel];exact ⟨[],rfl,rfl⟩,r3,Le.refl g,r4⟩
    have hst:=Am.Zlu (Pg:=P) (t:=t) (v:=a.eval y) (off:=(g.β b).2+i) r1 hi (by rw [<-Array.length_toList,<-hl];exact hsz.symm) (by rw [<-Array.length_toList];exact r2) u1
    simp only [execOp,ho,hv,G.at]
    simp only [Instr.storeAt,Instr.sureAddr,Sem.run_bind,Sem.run_pure,Result.andThen_ok]
    rw [hst]
    simp
   ·cases hz
  ·cases hz
 ·cases hx
end
end Go.Cm
end
section
namespace Go.Cm
open Go.Am (Zcs Zaw Addr.add_eq Znw Zf4 ZnW)
attribute [local instance] wi0
variable {P:Program} {F:ZaQ} {g:G} {e:Env} {a:Act} {w:World} {h h':H} {ov:Option V} {o:Oper}
theorem ZHV {el n:Nat} {z:List V} (h:ZLU P el=some (n,z)): ∃i v zv,P.info? el=some i/\i.zero=some v/\ofConst v=some zv/\zv.cells=z/\i.size=n/\z.length=n/\0<n/\i.bytes<=65536:=by
 unfold ZLU at h
 split at h
 ·rename_i i zv h1 h2
  split at h
  ·rename_i hc
   obtain ⟨i',v,q1,q2,q3⟩:=ZHt h2
   rw [h1] at q1;cases q1
   simp only [Option.some.injEq,Prod.mk.injEq] at h
   obtain ⟨rfl,rfl⟩:=h
   exact ⟨i,v,zv,h1,q2,q3,rfl,rfl,hc.1,hc.2.1,hc.2.2⟩
  ·cases h
 ·cases h
theorem ZKL {α:Type} (l:List α) (hl:0<l.length): ∀(n i:Nat),(List.replicate n l).flatten[i]? =if i<n*l.length then l[i % l.length]? else none
 | 0,i=>by simp
 | n+1,i=>by
   rw [List.replicate_succ,List.flatten_cons]
   by_cases hi:i<l.length
   · rw [List.getElem?_append_left hi,if_pos (by rw [Nat.add_mul];omega),Nat.mod_eq_of_lt hi]
   · rw [List.getElem?_append_right Zo,ZKL l hl n (i-l.length)]
     have:(i-l.length) % l.length=i % l.length:=(Nat.mod_eq_sub_mod Zo).symm
     rw [this]
     by_cases h2:i<(n+1)*l.length
     · rw [if_pos h2,if_pos (by rw [Nat.add_mul] at h2;omega)]
     · rw [if_neg h2,if_neg (by rw [Nat.add_mul] at h2;omega)]
def ZJq (n s:Nat) (zv:Value):Array Value:=(Array.range (n*s)).map ((if n*s=0 then #[] else zv.cells)[· % (if n*s=0 then #[] else zv.cells).size]!)
theorem ZI7 (n s:Nat) (zv:Value):(ZJq n s zv).size=n*s:=by simp [ZJq]
theorem ZJF {z:List V} {zv:Value} {s:Nat} (hz:Rels g z zv.cells.toList) (hs:z.length=s) (h0:0<s) (n:Nat):Rels g (List.replicate n z).flatten (ZJq n s zv).toList:=by
 have hsz:zv.cells.size=s:=by have:=hz.len;simp at this;omega
 rw [Rels.iff]
 refine ⟨?_,fun i x v hx hv=>?_⟩
 ·simp [ZI7,hs]
 ·rw [ZKL z Zo] at hx
  split at hx
  ·rename_i hi
   rw [hs] at hi hx
   have hn: ¬n*s=0:=by omega
   have hlt:i % s<s:=Nat.mod_lt _ h0
   have hv':v=zv.cells[i % s]'(by omega):=by
    rw [Array.getElem?_toList] at hv
    simp only [ZJq,hn,if_false,Array.getElem?_map,Array.getElem?_range,hi,if_true,Option.map_some,Option.some.injEq,hsz] at hv
    rw [<-hv,getElem!_pos]
   rw [hv']
   exact (Rels.iff.1 hz).2 (i % s) x _ hx (by simp [List.getElem?_eq_getElem,hsz,hlt])
  ·cases hx
theorem Rels.put {cs xs cs':List V} {vs us:List Value} {off:Nat} (h:Rels g cs vs) (hx:Rels g xs us) (hp:putC cs off xs=some cs') {vs':List Value} (hl:vs'.length=vs.length)
  (hg: ∀i,vs'[i]? =if off<=i/\i<off+us.length then us[i-off]? else vs[i]?):Rels g cs' vs':=by
 obtain ⟨p1,rfl,p3⟩:=ZII hp
 have l1:=h.len
 have l2:=hx.len
 rw [Rels.iff] at h hx⊢
 refine ⟨by rw [p3,hl,l1],fun i x v hx' hv=>?_⟩
 rw [ZLF p1] at hx'
 rw [hg] at hv
 by_cases h1:i<off
 ·rw [if_pos h1] at hx'
  rw [if_neg Zo] at hv
  exact h.2 i x v hx' hv
 ·rw [if_neg h1] at hx'
  by_cases h2:i<off+xs.length
  ·rw [if_pos h2] at hx'
   rw [if_pos Zo] at hv
   exact hx.2 _ x v hx' hv
  ·rw [if_neg h2] at hx'
   rw [if_neg Zo] at hv
   exact h.2 i x v hx' hv
theorem ZJ7 {place pm:Nat->Option (Nat×Nat)} (hpl: ∀i q,place i=some q->pm i=some q): ∀(vs:List (Nat×V)) (us:List (Nat×Value)) {cs cs':List V} {cells:Array Value},
   vs.length=us.length->(∀(j:Nat) p q,vs[j]? =some p->us[j]? =some q->p.1=q.1/\Rel g p.2 q.2)->Rels g cs cells.toList->ZNi place cs vs=some cs'-> ∃cells',Instr.fill pm cells us=some cells'/\Rels g cs' cells'.toList
 | [],[],cs,cs',cells,_,_,hc,hf=>by simp only [ZNi,Option.some.injEq] at hf;subst hf;exact ⟨cells,rfl,hc⟩
 | (i,x)::vs,(i',u)::us,cs,cs',cells,hl,hr,hc,hf=>by
   obtain ⟨e1,hxu⟩:=hr 0 _ _ rfl rfl
   simp only at e1 hxu
   subst e1
   simp only [ZNi] at hf
   split at hf
   · rename_i off n hp
     split at hf
     · rename_i hlen
       have hlen:x.cells.length=n:=by simpa using hlen
       split at hf
       · rename_i cs1 hp1
         have hcells:=hxu.cells
         have hus:u.cells.size=n:=by have:=hcells.len;simp at this;omega
         obtain ⟨p1,_,_⟩:=ZII hp1
         have hcl:=hc.len
         simp only [Array.length_toList] at hcl
         have hput:Rels g cs1 (u.cells.zipIdx.foldl (fun cs (c,j)=>cs.setIfInBounds (off+j) c) cells).toList:=hc.put hcells hp1 (by
           rw [<-Array.foldl_toList];simp [Zf4]) (fun i'=>by
           rw [<-Array.foldl_toList,Array.toList_zipIdx,Array.getElem?_toList]
           have:=Znw u.cells.toList cells off 0 Ze i'
           simp only [Nat.add_zero] at this
           rw [this]
           simp)
         obtain ⟨cells',f1,f2⟩:=ZJ7 hpl vs us (by simpa using hl) (fun j p q h1 h2=>hr (j+1) p q (by simpa using h1) (by simpa using h2)) hput hf
         refine ⟨cells',?_,f2⟩
         simp only [Instr.fill,hpl i _ hp]
         have hcond: ¬(u.cells.size≠n∨off+u.cells.size>cells.size):=by omega
         rw [if_neg (by simpa using hcond)]
         exact f1
       · cases hf
     · cases hf
   · cases hf
 | [],_::_,_,_,_,hl,_,_,_=>by simp at hl
 | _::_,[],_,_,_,hl,_,_,_=>by simp at hl
theorem ZIL (he:EnvR g e a): ∀{ps:List (Nat×Operand)} {vs:List (Nat×V)},ZJO e ps=some vs->vs.length=(ps.map fun q=>(q.1,a.eval q.2)).length/\ ∀(j:Nat) p q,vs[j]? =some p->(ps.map fun q=>(q.1,a.eval q.2))[j]? =some q->p.1=q.1/\Rel g p.2 q.2
 | [],vs,h=>by simp only [ZJO,Option.some.injEq] at h;subst h;exact ⟨rfl,fun j p q h=>by simp at h⟩
 | (i,x)::ps,vs,h=>by
   simp only [ZJO] at h
   split at h
   · rename_i v vs' h1 h2
     simp only [Option.some.injEq] at h;subst h
     obtain ⟨l,hr⟩:=ZIL he h2
     refine ⟨by simpa using l,fun j p q hp hq=>?_⟩
     cases j with
     | zero=>simp at hp hq;subst hp;subst hq;exact ⟨rfl,ZG2 he h1⟩
     | succ j=>exact hr j p q (by simpa using hp) (by simpa using hq)
   · cases h
section
variable (hh:HR g h w) (he:EnvR g e a)
include hh he
theorem ZwT {t:TypeId} {ps:Array (Nat×Operand)} (ho:o.op= .build t ps) (hx:opV P F e h (.build t ps)=some (ov,h')):OpOK P o a w g ov h':=by
 simp only [opV] at hx
 split at hx
 ·rename_i z fs vs hz hu hp
  split at hx
  ·rename_i hall
   simp only [Option.map_eq_some_iff,Prod.mk.injEq] at hx
   obtain ⟨cs,hf,rfl,rfl⟩:=hx
   obtain ⟨i,v,hi,hv,hc⟩:=ZHt hz
   obtain ⟨pl,r1,r2,r3⟩:=Am.ZnW (Pg:=P) (w:=w) fs.toList (fun fd hm=>Array.all_eq_true_iff_forall_mem.1 hall fd (by simpa using hm))
   obtain ⟨l,hr⟩:=ZIL he hp
   obtain ⟨cells',f1,f2⟩:=ZJ7 (pm:=(pl.toArray[·]?)) (fun j q hq=>by
    unfold ZOa at hq
    split at hq
    ·rename_i fd hfd
     simp only [Option.map_eq_some_iff] at hq
     obtain ⟨n,hn,rfl⟩:=hq
     have:=r3 j fd n (by simpa using hfd) hn
     simpa using this
    ·cases hq) _ _ l hr (ofConst_rel g v hc).cells hf
   refine ZG3 hh (v:= .agg cells') ?_ (by simp only [Rel];exact ⟨cells'.toList,by simp,f2⟩)
   have hmap:(Array.mapM (fun (f:Field)=>do pure (f.offset,<-sizeOf f.type)) fs:Sem (Array (Nat×Nat))).run P w= .ok pl.toArray w:=by
    rw [Array.mapM_eq_mapM_toList]
    simp only [Sem.run_map,r1,Result.andThen_ok]
   simp only [execOp,ho]
   rw [Zaw]
   simp only [Instr.build,Sem.run_bind,Zcs hi hv,run_underlying hu,Result.andThen_ok]
   rw [hmap]
   simp only [Result.andThen_ok,Array.toList_map]
   rw [f1]
   rfl
  ·cases hx
 ·rename_i z n el vs hz hu hp
  split at hx
  ·rename_i s hs
   simp only [Option.map_eq_some_iff,Prod.mk.injEq] at hx
   obtain ⟨cs,hf,rfl,rfl⟩:=hx
   obtain ⟨i,v,hi,hv,hc⟩:=ZHt hz
   obtain ⟨inf,hinf,rfl⟩:=Option.map_eq_some_iff.1 hs
   obtain ⟨l,hr⟩:=ZIL he hp
   obtain ⟨cells',f1,f2⟩:=ZJ7 (pm:=fun i=>some (i*inf.size,inf.size)) (fun _ _ h=>h) _ _ l hr (ofConst_rel g v hc).cells hf
   refine ZG3 hh (v:= .agg cells') ?_ (by simp only [Rel];exact ⟨cells'.toList,by simp,f2⟩)
   simp only [execOp,ho]
   rw [Zaw]
   simp only [Instr.build,Sem.run_bind,Zcs hi hv,run_underlying hu,Result.andThen_ok,sizeOf,typeInfo,run_program,hinf,Sem.run_pure,Array.toList_map]
   rw [f1]
   rfl
  ·cases hx
 ·cases hx
theorem ZPI {s len cap:Nat} {cs:List V} {cells:Array Value} (hr:Rels g cs cells.toList) (hl:len<=cap) (hc:cap*s<=cells.size) (t:TypeId) (hrun:(execOp a.eval o).run P w= .ok (.value (.slice (some ⟨w.heap.size,0,none⟩) len cap)) (w.alloc (.cells cells t))):
  MkOK P o a w g (fun i=> .cells cs i 0 false) (fun i=> .sl i 0 s len cap true) none:=by
 refine ⟨_,_,cells.size,hrun,fun id low hn=>ZPT hr t low hn,fun id=>?_,(fun id cs gr ver kid e=>by cases e;rfl),fun _ _ e=>by cases e⟩
 simp only [Rel,G.at,ZHa,ZKr]
 exact ⟨.inr rfl,cap,by simp,hl,Nat.le_refl _,fun _=>rfl,by simpa using hc⟩
theorem ZKn {c:Nat->O} {v:Nat->V} {ty:Option (Nat×Nat)} {t:TypeId} {len:Nat} {ps:Array (Nat×Operand)} (ho:o.op= .buildSlice t len ps) (hx:mkV P e (.buildSlice t len ps)=some (c,v,ty)):MkOK P o a w g c v ty:=by
 simp only [mkV] at hx
 split at hx
 · rename_i el vs hu hp
   split at hx
   · rename_i n z hel
     split at hx
     · rename_i hle
       split at hx
       · rename_i cs hf
         simp only [Option.some.injEq,Prod.mk.injEq] at hx
         obtain ⟨rfl,rfl,rfl⟩:=hx
         obtain ⟨i,v,zv,q1,q2,q3,q4,rfl,q6,q7,q8⟩:=ZHV hel
         obtain ⟨l,hr⟩:=ZIL he hp
         have hz:Rels g z v.cells.toList:=by rw [<-q4];exact (ofConst_rel g v q3).cells
         obtain ⟨cells',f1,f2⟩:=ZJ7 (pm:=fun j=>some (j*i.size,i.size)) (fun _ _ h=>h) _ _ l hr (ZJF hz q6 q7 len) hf
         have hsz:cells'.size=len*i.size:=by
           have h1:=f2.len
           have h2: ∀(vs:List (Nat×V)) (cs cs':List V),ZNi (fun j=>some (j*i.size,i.size)) cs vs=some cs'->cs'.length=cs.length:=by
             intro vs
             induction vs with
             | nil=>intro cs cs' h;simp only [ZNi,Option.some.injEq] at h;rw [h]
             | cons p vs ih=>
               intro cs cs' h
               simp only [ZNi] at h
               split at h
               · split at h
                 · rename_i c1 hp1
                   rw [ih _ _ h];exact (ZII hp1).2.2
                 · cases h
               · cases h
           have h3:=h2 _ _ _ hf
           simp [q6] at h1 h3
           omega
         refine ZPI hh he f2 (Nat.le_refl _) Zo el ?_
         simp only [execOp,ho]
         rw [Zaw]
         have hnl: ¬len*i.size>2 ^ 24:=by omega
         simp only [Instr.buildSlice,Sem.run_bind,run_underlying hu,Result.andThen_ok,sizeOf,typeInfo,run_program,q1,Sem.run_pure,hnl,if_false]
         unfold ZJq at f1
         by_cases hz0:len*i.size=0
         · rw [if_pos hz0] at f1
           rw [if_pos hz0]
           simp only [Sem.run_bind,Sem.run_pure,Result.andThen_ok,Array.toList_map,f1]
           simp [newRow]
         · rw [if_neg hz0] at f1
           rw [if_neg hz0]
           simp only [Sem.run_bind,Sem.run_pure,Zcs q1 q2,Result.andThen_ok,Array.toList_map,f1]
           simp [newRow]
       · cases hx
     · cases hx
   · cases hx
 · cases hx
theorem ZKK {co:Nat->O} {v:Nat->V} {ty:Option (Nat×Nat)} {t:TypeId} {l c:Operand} (ho:o.op= .makeSlice t l c) (hx:mkV P e (.makeSlice t l c)=some (co,v,ty)):MkOK P o a w g co v ty:=by
 simp only [mkV] at hx
 split at hx
 ·rename_i el l' c' hu h1 h2
  split at hx
  ·rename_i n z hel
   split at hx
   ·rename_i hle
    obtain ⟨hlc,hc⟩:=hle
    simp only [Option.some.injEq,Prod.mk.injEq] at hx
    obtain ⟨rfl,rfl,rfl⟩:=hx
    obtain ⟨i,v,zv,q1,q2,q3,q4,rfl,q6,q7,q8⟩:=ZHV hel
    have hz:Rels g z v.cells.toList:=by rw [<-q4];exact (ofConst_rel g v q3).cells
    obtain ⟨k1,e1⟩:=ZKI hh he h1
    obtain ⟨k2,e2⟩:=ZKI hh he h2
    refine ZPI hh he (ZJF hz q6 q7 c') hlc (by rw [ZI7];exact Nat.le_refl _) el ?_
    have hwr: ∀m:Nat,m<=4096->IntKind.i64.wrap (m:Int)=m:=fun m hm=>by
     unfold IntKind.wrap IntKind.bits IntKind.signed
     simp
     omega
    have hbytes: ¬((i.bytes:Int)*(c':Int)>2 ^ 48):=by
     have:(i.bytes:Int)*(c':Int)<=65536*4096:=Int.mul_le_mul Zo Zo Zo Zo
     omega
    simp only [execOp,ho,e1,e2]
    rw [Zaw]
    have hcond2:(decide ((c':Int)<0)||decide ((i.bytes:Int)*(c':Int)>2 ^ 48)||decide ((l':Int)<0)||decide ((l':Int)>(c':Int)))=false:=by
     simp;omega
    simp only [Instr.makeSlice,Sem.run_bind,run_underlying hu,Result.andThen_ok,asInt,asIntOf,Sem.run_pure,typeInfo,run_program,q1,hwr l' Zo,hwr c' hc,hcond2,Bool.false_eq_true,if_false,run_askRoom,sizeOf,Int.toNat_natCast]
    unfold ZJq
    by_cases hz0:c'*i.size=0
    ·rw [if_pos hz0]
     simp only [hz0,if_true,Sem.run_bind,Sem.run_pure,Result.andThen_ok]
     simp [newRow]
    ·rw [if_neg hz0]
     simp only [hz0,if_false,Sem.run_bind,Sem.run_pure,Zcs q1 q2,Result.andThen_ok]
     simp [newRow]
   ·cases hx
  ·cases hx
 ·cases hx
theorem ZOL {c:Nat->O} {v:Nat->V} {ty:Option (Nat×Nat)} (hx:mkV P e o.op=some (c,v,ty)):MkOK P o a w g c v ty:=by
 generalize hop:o.op=op at hx
 cases op with
 | alloc el=>exact ZOw hop hx
 | box el x=>exact ZQy he hop hx
 | buildSlice t n ps=>exact ZKn hh he hop hx
 | makeMap t r=>exact ZM3 he hop hx
 | makeSlice t l c=>exact ZKK hh he hop hx
 | _=>simp [mkV] at hx
theorem ZP1 (hx:mkR h (mkV P e o.op)=some (ov,h')):OpOK P o a w g ov h':=by
 simp only [mkR,Option.map_eq_some_iff,Prod.mk.injEq] at hx
 obtain ⟨⟨c,v,ty⟩,h1,rfl,rfl⟩:=hx
 exact (ZOL hh he h1).op hh
end
end Go.Cm
end
section
namespace Go.Cm
open Go.Am (ZbJ Ze7 Zm8 Zaw Addr.add_eq)
attribute [local instance] wi0
variable {P:Program} {F:ZaQ} {g:G} {e:Env} {a:Act} {w:World} {h h':H} {ov:Option V} {o:Oper}
def ORel (g:G):Option V->Option Value->Prop
 | none,none=>True
 | some x,some v=>Rel g x v
 | _,_=>False
theorem ZK0 (he:EnvR g e a) {x:Option Operand} {v:Option V} (hx:optV e x=some v):ORel g v (x.map a.eval):=by
 cases x with
 | none=>simp only [optV,Option.some.injEq] at hx;subst hx;trivial
 | some x=>
   simp only [optV,Option.map_eq_some_iff] at hx
   obtain ⟨y,h1,rfl⟩:=hx
   exact ZG2 he h1
theorem ZNm {x:V} {n:Nat} {v:Value} (hr:Rel g x v) (hn:ZL6 x=some n): ∃k,v= .int k (n:Int):=by
 unfold ZL6 at hn
 split at hn
 ·split at hn
  ·rename_i k m hm
   cases hn
   exact ⟨k,by rw [ZHv hr,Int.toNat_of_nonneg hm]⟩
  ·cases hn
 ·cases hn
theorem ZIX {isS:Bool} {len capS cap:Nat} {lo hi mx:Option V} {lo' hi' mx':Option Value} (h1:ORel g lo lo') (h2:ORel g hi hi') (h3:ORel g mx mx') (hn:(mx.isSome && hi.isNone)=false) (hc:capS<=cap) {l hh m:Nat}
   (hb:sliceBounds len capS lo hi mx=some (l,hh,m)):(Instr.sliceBounds isS len cap lo' hi' mx').run P w= .ok (l,hh,if mx.isSome then m else cap) w/\l<=hh/\hh<=m/\m<=capS/\(mx.isSome=false->m=capS):=by
 unfold sliceBounds at hb
 split at hb
 · cases hb
 · rename_i m0 hm0
   split at hb
   · cases hb
   · rename_i h0 hh0
     split at hb
     · cases hb
     · rename_i l0 hl0
       split at hb
       · rename_i hle
         simp only [Option.some.injEq,Prod.mk.injEq] at hb
         obtain ⟨rfl,rfl,rfl⟩:=hb
         obtain ⟨c1,c2,c3⟩:=hle
         have key: ∀(x:V) (v:Value) (n y:Nat) (code:BoundsCode),Rel g x v->ZL6 x=some n->n<=y->(Instr.sliceBound v y code).run P w= .ok n w:=fun x v n y code hr hn hy=>by
           obtain ⟨k,rfl⟩:=ZNm hr hn
           have:=run_sliceBound (P:=P) w k (n:Int) y code Zo Zo
           simpa using this
         refine ⟨?_,c1,c2,c3,fun hm=>?_⟩
         · cases mx with
           | none=>
             cases mx' with
             | some _=>exact h3.elim
             | none=>
               simp only [Option.some.injEq] at hm0
               subst hm0
               cases hi with
               | none=>
                 cases hi' with
                 | some _=>exact h2.elim
                 | none=>
                   simp only [Option.some.injEq] at hh0
                   subst hh0
                   cases lo with
                   | none=>
                     cases lo' with
                     | some _=>exact h1.elim
                     | none=>simp only [Option.some.injEq] at hl0;subst hl0;simp [Instr.sliceBounds]
                   | some x=>
                     cases lo' with
                     | none=>exact h1.elim
                     | some v=>simp only at hl0;simp [Instr.sliceBounds,key x v _ _ _ h1 hl0 c1]
               | some y=>
                 cases hi' with
                 | none=>exact h2.elim
                 | some u=>
                   simp only at hh0
                   cases lo with
                   | none=>
                     cases lo' with
                     | some _=>exact h1.elim
                     | none=>simp only [Option.some.injEq] at hl0;subst hl0;simp [Instr.sliceBounds,key y u _ _ _ h2 hh0 (show _<=cap by omega)]
                   | some x=>
                     cases lo' with
                     | none=>exact h1.elim
                     | some v=>simp only at hl0;simp [Instr.sliceBounds,key y u _ _ _ h2 hh0 (show _<=cap by omega),key x v _ _ _ h1 hl0 c1]
           | some z=>
             cases mx' with
             | none=>exact h3.elim
             | some q=>
               simp only at hm0
               cases hi with
               | none=>simp at hn
               | some y=>
                 cases hi' with
                 | none=>exact h2.elim
                 | some u=>
                   simp only at hh0
                   cases lo with
                   | none=>
                     cases lo' with
                     | some _=>exact h1.elim
                     | none=>simp only [Option.some.injEq] at hl0;subst hl0;simp [Instr.sliceBounds,key z q _ _ _ h3 hm0 (show _<=cap by omega),key y u _ _ _ h2 hh0 c2]
                   | some x=>
                     cases lo' with
                     | none=>exact h1.elim
                     | some v=>simp only at hl0;simp [Instr.sliceBounds,key z q _ _ _ h3 hm0 (show _<=cap by omega),key y u _ _ _ h2 hh0 c2,key x v _ _ _ h1 hl0 c1]
         · cases mx with
           | none=>simp only [Option.some.injEq] at hm0;exact hm0.symm
           | some _=>cases hm
       · cases hb
section
variable (hh:HR g h w) (he:EnvR g e a)
include hh he
theorem ZwP {t:TypeId} {x:Operand} {lo hi mx:Option Operand} (ho:o.op= .slice t x lo hi mx) (hx:opV P F e h (.slice t x lo hi mx)=some (ov,h')):OpOK P o a w g ov h':=by
 simp only [opV] at hx
 split at hx
 · rename_i v lo' hi' mx' e1 e2 e3 e4
   simp only [Option.map_eq_some_iff,Prod.mk.injEq] at hx
   obtain ⟨z,hz,rfl,rfl⟩:=hx
   have r1:=ZG2 he e1
   have r2:=ZK0 he e2
   have r3:=ZK0 he e3
   have r4:=ZK0 he e4
   unfold ZPm at hz
   split at hz
   · cases hz
   · rename_i hn
     have hn:(mx'.isSome && hi'.isNone)=false:=by simpa only [Bool.not_eq_true] using hn
     split at hz
     · rename_i s hu
       split at hz
       · cases hz
       · rename_i hm
         split at hz
         · rename_i l hh' m hb
           simp only [Option.some.injEq] at hz;subst hz
           obtain ⟨bs,hv,rfl⟩:=ZHk r1
           have hmn:mx'=none:=by simpa using hm
           subst hmn
           obtain ⟨q1,q2,q3,q4,q5⟩:=ZIX (P:=P) (w:=w) (isS:=false) (cap:=bs.size) r2 r3 (show ORel g none none from trivial) Zs (by rw [Ze7];exact Nat.le_refl _) hb
           rw [Ze7] at q1
           have hmx:mx.map a.eval=none:=by
             cases hq:mx.map a.eval with
             | none=>rfl
             | some _=>rw [hq] at r4;exact r4.elim
           refine ZG3 hh (v:= .string (bs.extract l hh')) ?_ (by simp only [Rel];exact ⟨_,rfl,Zm8 bs l hh'⟩)
           simp only [execOp,ho,hv]
           rw [Zaw,hmx,run_sliceAt_string _ _ _ _ _ _ hu]
           simp only [Instr.slice,Sem.run_bind,run_underlying hu,Result.andThen_ok,Option.isSome_none,Bool.false_eq_true,if_false,q1,Sem.run_pure]
         · cases hz
     · rename_i el hu
       split at hz
       · rename_i n q hn0 hb
         obtain ⟨inf,hi0,rfl⟩:=Option.map_eq_some_iff.1 hn0
         obtain ⟨l,hh',m⟩:=q
         simp only [Option.some.injEq] at hz;subst hz
         have hv:a.eval x= .slice none 0 0:=by simpa only [Rel] using r1
         obtain ⟨q1,q2,q3,q4,q5⟩:=ZIX (P:=P) (w:=w) (isS:=true) (cap:=0) r2 r3 r4 hn (Nat.le_refl _) hb
         have hm0:m=0:=by omega
         have hh0:hh'=0:=by omega
         have hl0:l=0:=by omega
         subst hm0;subst hh0;subst hl0
         refine ZG3 hh (v:= .slice none 0 0) ?_ (by simp only [Rel])
         simp only [execOp,ho,hv]
         rw [Zaw]
         have hm':(if mx'.isSome=true then 0 else 0)=0:=by split<;>rfl
         rw [hm'] at q1
         simp [Instr.sliceAt,Instr.slice,run_underlying hu,q1,sizeOf,typeInfo,hi0]
       · cases hz
     · rename_i el b i s len cl ex hu
       split at hz
       · rename_i hs
         have hs:szOf P el=some s:=by simpa using hs
         obtain ⟨inf,hi,rfl⟩:=Option.map_eq_some_iff.1 hs
         split at hz
         · rename_i l hh' m hb
           simp only [Option.some.injEq] at hz;subst hz
           obtain ⟨hbn,cap,hv,c1,c2,c3,c4⟩:=ZIZ r1
           obtain ⟨q1,q2,q3,q4,q5⟩:=ZIX (P:=P) (w:=w) (isS:=true) r2 r3 r4 hn c2 hb
           refine ZG3 hh (v:= .slice (some (if (if mx'.isSome then m else cap)=l then g.at b i else (g.at b i).add (l*inf.size))) (hh'-l) ((if mx'.isSome then m else cap)-l)) ?_ ?_
           · simp only [execOp,ho,hv]
             rw [Zaw]
             simp only [Instr.sliceAt,Instr.slice,Sem.run_bind,run_underlying hu,Result.andThen_ok,q1,sizeOf,typeInfo,run_program,hi,Sem.run_pure,Option.map_some]
             generalize (if mx'.isSome=true then m else cap)=mm
             by_cases hq:mm=l<;>simp [hq]
           · have hmul: ∀c:Nat,l<=c->c<=cap->l*inf.size+(c-l)*inf.size<=cap*inf.size:=fun c h1 h2=>by
               rw [<-Nat.add_mul];exact Nat.mul_le_mul_right _ Zo
             cases hm:mx'.isSome with
             | true=>
               simp only [if_true,Bool.true_or]
               by_cases hml:m=l
               · subst hml
                 have:hh'=m:=by omega
                 subst this
                 simp only [if_true,Rel,Nat.sub_self]
                 exact ⟨hbn,0,rfl,Nat.le_refl _,Nat.le_refl _,fun _=>rfl,by have:=hmul cap Zo (Nat.le_refl _);omega⟩
               · simp only [hml,if_false,Rel]
                 refine ⟨hbn,m-l,by rw [G.at,Addr.add_eq,G.at,Nat.add_assoc],by omega,Nat.le_refl _,fun _=>rfl,?_⟩
                 have:=hmul m Zo Zo;omega
             | false=>
               have hmc:=q5 hm
               subst hmc
               simp only [Bool.false_eq_true,if_false,Bool.false_or]
               cases hex:ex with
               | true=>
                 have hcap:=c3 hex
                 subst hcap
                 by_cases hml:cap=l
                 · subst hml
                   have:hh'=cap:=by omega
                   subst this
                   simp only [if_true,Rel,Nat.sub_self]
                   exact ⟨hbn,0,rfl,Nat.le_refl _,Nat.le_refl _,fun _=>rfl,by omega⟩
                 · simp only [hml,if_false,Rel]
                   refine ⟨hbn,cap-l,by rw [G.at,Addr.add_eq,G.at,Nat.add_assoc],by omega,Nat.le_refl _,fun _=>rfl,?_⟩
                   have:=hmul cap Zo (Nat.le_refl _);omega
               | false=>
                 by_cases hml:m=l
                 · have:hh'-l=0:=by omega
                   simp only [hml,if_true,Bool.false_eq_true,if_false,Rel,this]
                   exact ⟨_,_,rfl⟩
                 · have hcl: ¬cap=l:=by omega
                   simp only [hml,hcl,if_false,Rel]
                   refine ⟨hbn,cap-l,by rw [G.at,Addr.add_eq,G.at,Nat.add_assoc],by omega,by omega,(fun hh=>nomatch hh),?_⟩
                   have:=hmul cap Zo (Nat.le_refl _);omega
         · cases hz
       · cases hz
     · cases hz
 · cases hx
end
end Go.Cm
end
section
namespace Go.Cm
open Go.Am (ZbJ Ze7 Zaw)
attribute [local instance] wi0
variable {P:Program} {F:ZaQ} {g:G} {e:Env} {a:Act} {w:World} {h h':H} {ov:Option V} {o:Oper}
def ZMz (c:Call):Array Bool:=c.args.map fun| .const _=>true|_=>false
theorem ZLO {c:Call} {b:Builtin} (ho:o.op= .call c) (hc:c.callee= .builtin b):(execOp a.eval o).run P w=(builtin b c.argTypes o.type (ZMz c) (c.args.map a.eval)).run P w:=by
 simp only [execOp,ho,resolve,hc,Sem.run_bind,Sem.run_pure,Result.andThen_ok]
 rfl
theorem ZK2: ∀{xs:List V} {us:List Value} {l:List Nat},Rels g xs us->ZhC xs=some l-> ∃bs:List UInt8,us=bs.map (fun b=>Value.int .u8 b.toNat)/\bs.map UInt8.toNat=l
 | [],us,l,hr,hl=>by
   simp only [ZhC,Option.some.injEq] at hl
   subst hl
   simp only [Rels] at hr
   subst hr
   exact ⟨[],rfl,rfl⟩
 | x::xs,us,l,hr,hl=>by
   simp only [Rels] at hr
   obtain ⟨u,us',rfl,h1,h2⟩:=hr
   cases x with
   | int k n=>
     cases k<;>simp only [ZhC] at hl<;>first|(cases hl;done)|skip
     split at hl
     · rename_i hc
       simp only [Option.map_eq_some_iff] at hl
       obtain ⟨l',h3,rfl⟩:=hl
       obtain ⟨bs,rfl,rfl⟩:=ZK2 h2 h3
       have hn:(UInt8.ofNat n.toNat).toNat=n.toNat:=by
         rw [UInt8.toNat_ofNat']
         omega
       refine ⟨UInt8.ofNat n.toNat::bs,?_,?_⟩
       · have hu:u= .int .u8 n:=by simpa only [Rel] using h1
         simp only [List.map_cons,hn,hu]
         congr 2
         omega
       · simp only [List.map_cons,hn]
     · cases hl
   | _=>cases hl
theorem ZNv (hh:HR g h w) {x z:V} {v:Value} (hr:Rel g x v) (hx:ZOy h x=some z) {src dst el:TypeId} (hs:P.underlying src=some (.slice el)) (he:isU8 P el=true) (hd:P.underlying dst=some .string):
  ∃r,(convert src dst v).run P w= .ok r w/\Rel g z r:=by
 have he:P.underlying el=some (.int .u8):=by
  unfold isU8 at he
  split at he
  ·assumption
  ·cases he
 unfold ZOy at hx
 split at hx
 ·cases hx
  have hv:v= .slice none 0 0:=by simpa only [Rel] using hr
  subst hv
  refine ⟨.string .empty,?_,by simp only [Rel];exact ⟨_,rfl,rfl⟩⟩
  rw [run_convert_bytes_string w src dst el none 0 0 hs he hd]
  simp [Conv.bytesToString]
 ·cases hx
  simp only [Rel] at hr
  obtain ⟨ad,cap,rfl⟩:=hr
  exact ⟨_,run_convert_bytes_back w src dst el ad cap [] hs he hd (fun j hj=>by simp at hj),by simp only [Rel];exact ⟨_,rfl,rfl⟩⟩
 ·rename_i b i s' len lo ex
  split at hx
  ·rename_i hs1
   subst hs1
   split at hx
   ·rename_i cs hrd
    split at hx
    ·rename_i xs hcut
     simp only [Option.map_eq_some_iff] at hx
     obtain ⟨l,hl,rfl⟩:=hx
     obtain ⟨hb,cap,rfl,q1,q2,q3,q4⟩:=ZIZ hr
     obtain ⟨vs,ty,r1,r2,r3,r4⟩:=hh.read hb hrd
     obtain ⟨us,u1,u2,u3,u4,u5⟩:=r4.cut hcut
     obtain ⟨bs,rfl,rfl⟩:=ZK2 u2 hl
     have hbl:bs.length=len:=by simpa using u1
     subst hbl
     refine ⟨_,run_convert_bytes_back w src dst el (g.at b i) cap bs hs he hd (fun j hj=>?_),by simp only [Rel];exact ⟨_,rfl,by simp [Am.ZbJ]⟩⟩
     rw [G.at,Am.Addr.add_eq,Am.ZG6 r1]
     exact u3 j _ (by rw [List.getElem?_map,List.getElem?_eq_getElem hj];rfl)
    ·cases hx
   ·cases hx
  ·cases hx
 ·cases hx
section
variable (hh:HR g h w) (he:EnvR g e a)
include hh he
theorem ZM8 {s d:TypeId} {x:Operand} (ho:o.op= .convert s d x) (hx:opV P F e h (.convert s d x)=some (ov,h')):OpOK P o a w g ov h':=by
 simp only [opV] at hx
 split at hx
 ·rename_i v h1
  simp only [Option.map_eq_some_iff,Prod.mk.injEq] at hx
  obtain ⟨z,hz,rfl,rfl⟩:=hx
  unfold ZRw at hz
  split at hz
  ·rename_i k' k kk n u1 u2
   simp only [Option.some.injEq] at hz;subst hz
   have e1:=ZHv (ZG2 he h1)
   refine ZG3 hh (v:= .int k (k.wrap n)) ?_ (by simp only [Rel])
   simp only [execOp,ho,e1]
   rw [Zaw]
   simp [convert,run_underlying u1,run_underlying u2,Conv.intToInt]
  ·rename_i t u1 u2
   simp only [Option.some.injEq] at hz;subst hz
   obtain ⟨bs,e1,rfl⟩:=ZHk (ZG2 he h1)
   refine ZG3 hh (v:= .string bs) ?_ (by simp only [Rel];exact ⟨bs,rfl,rfl⟩)
   simp only [execOp,ho,e1]
   rw [Zaw]
   simp [convert,run_underlying u1,run_underlying u2]
  ·rename_i t b o' u1 u2
   split at hz
   ·rename_i hc
    cases hz
    have hr:=ZG2 he h1
    have hr':=hr
    simp only [Rel] at hr'
    obtain ⟨hb,e1⟩:=hr'
    unfold ZMP at hc
    split at hc
    ·rename_i cs j hrd hj
     simp only [Bool.and_eq_true,Bool.not_eq_true',Nat.blt_eq] at hc
     obtain ⟨h2,h3⟩:=hc
     have hj0:j.size≠0:=fun he=>by rw [he] at h3;cases h3
     obtain ⟨vs,ty,q1,q2,q3,q4⟩:=hh.read hb hrd
     refine ZG3 hh (v:= .pointer (some (g.at b o'))) ?_ (by unfold Rel;exact ⟨hb,rfl⟩)
     simp only [execOp,ho,e1]
     rw [Zaw,Lib.run_to_unsafe (w:=w) (e:=ty) (cells:=vs.size) (g.at b o') u1 u2 hj hj0 (by simp [G.at,World.shape?,q1]) (by simp only [G.at];omega)]
     rfl
    ·cases hc
   ·cases hz
  ·rename_i t b o' u1 u2
   split at hz
   ·rename_i hc
    cases hz
    have hr:=ZG2 he h1
    have hr':=hr
    simp only [Rel] at hr'
    obtain ⟨hb,e1⟩:=hr'
    unfold ZKw at hc
    split at hc
    ·rename_i el n j hty hj
     simp only [Bool.and_eq_true,Bool.not_eq_true'] at hc
     obtain ⟨h2,h3⟩:=hc
     have hn0:n≠0:=fun he=>by rw [he] at h2;cases h2
     obtain ⟨q1,vs,fz,q2,q3⟩:=hh.ty b el n hb hty
     refine ZG3 hh (v:= .pointer (some (g.at b o'))) ?_ (by unfold Rel;exact ⟨hb,rfl⟩)
     simp only [execOp,ho,e1]
     rw [Zaw,Lib.run_from_unsafe (w:=w) (e:=el) (cells:=n) (g.at b o') u1 u2 hj (by simp [G.at,World.shape?,q2,q3 hn0]) (by simp only [G.at,q1,Nat.zero_add];exact h3)]
     rfl
    ·cases hc
   ·cases hz
  ·rename_i el u1 u2
   split at hz
   ·rename_i hc
    obtain ⟨r,q1,q2⟩:=ZNv (P:=P) (w:=w) hh (ZG2 he h1) hz u1 hc u2
    refine ZG3 hh (v:=r) ?_ q2
    simp only [execOp,ho]
    rw [Zaw,q1,Result.andThen_ok]
   ·cases hz
  ·cases hz
 ·cases hx
theorem ZPj {t:TypeId} {ts:List TypeId} {ty:TypeId} {x z:V} {v:Value} (hr:Rel g x v) (hx:lenV P h t x=some z): ∃u,(Builtin.len_ (t::ts).toArray ty #[v]).run P w= .ok u w/\Rel g z u:=by
 unfold lenV at hx
 split at hx
 ·rename_i s hu
  cases hx
  obtain ⟨bs,rfl,rfl⟩:=ZHk hr
  exact ⟨.int .i64 (ZbJ bs).length,by simp [Builtin.len_,run_underlying hu,goInt,Ze7],by simp only [Rel]⟩
 ·rename_i n el hu
  cases hx
  exact ⟨.int .i64 n,by simp [Builtin.len_,run_underlying hu,goInt],by simp only [Rel]⟩
 ·rename_i el hu
  cases hx
  have:v= .slice none 0 0:=by simpa only [Rel] using hr
  subst this
  exact ⟨.int .i64 0,by simp [Builtin.len_,run_underlying hu,goInt],by simp only [Rel]⟩
 ·rename_i el hu
  cases hx
  simp only [Rel] at hr
  obtain ⟨ad,cap,rfl⟩:=hr
  exact ⟨.int .i64 0,by simp [Builtin.len_,run_underlying hu,goInt],by simp only [Rel]⟩
 ·rename_i el b i s n lo ex hu
  cases hx
  obtain ⟨_,cap,rfl,_⟩:=ZIZ hr
  exact ⟨.int .i64 n,by simp [Builtin.len_,run_underlying hu,goInt],by simp only [Rel]⟩
 ·rename_i el s rows hu
  cases hx
  simp only [Rel] at hr
  obtain ⟨⟨ad,ln⟩,cap,rfl,hp⟩:=hr
  have hn:ln=rows.length:=by
   simp only at hp
   cases hp with
   | nils=>rfl
   | sl b o len cap s rows vs hl=>exact hl
  subst hn
  exact ⟨.int .i64 rows.length,by simp [Builtin.len_,run_underlying hu,goInt],by simp only [Rel]⟩
 ·rename_i k el hu
  simp only [Option.map_eq_some_iff] at hx
  obtain ⟨n,hm,rfl⟩:=hx
  unfold lenM at hm
  split at hm
  ·cases hm
   have hv:v= .map none:=by simpa only [Rel] using hr
   subst hv
   exact ⟨.int .i64 0,by simp [Builtin.len_,run_underlying hu,goInt],by simp [Rel]⟩
  ·rename_i b
   simp only [Rel] at hr
   obtain ⟨hb0,rfl⟩:=hr
   split at hm
   ·rename_i es c hb
    cases hm
    obtain ⟨ms,q1,q2,_⟩:=hh.ob b _ hb0 hb
    refine ⟨.int .i64 es.length,?_,by simp only [Rel]⟩
    simp [Builtin.len_,run_underlying hu,goInt,getObj,Sem.run,q1,q2.1]
   ·rename_i ps hb
    cases hm
    obtain ⟨ms,c,es,q1,q3,q2,_⟩:=hh.ob b _ hb0 hb
    refine ⟨.int .i64 ps.length,?_,by simp only [Rel]⟩
    have hl:=q3.length_eq
    simp at hl
    simp [Builtin.len_,run_underlying hu,goInt,getObj,Sem.run,q1,<-hl,q2.1]
   ·cases hm
  ·cases hm
 ·cases hx
theorem ZNR {lt:Bool} {x y z:V} {u v:Value} (hu:Rel g x u) (hv:Rel g y v) (hx:minV lt x y=some z) (ts:Array TypeId) (ty:TypeId):
  ∃r,((if lt then Builtin.min_ ts ty #[u,v] else Builtin.max_ ts ty #[u,v])).run P w= .ok r w/\Rel g z r:=by
 unfold minV at hx
 split at hx
 ·rename_i k p k' q
  split at hx
  ·rename_i hk
   subst hk
   cases hx
   rw [ZHv hu,ZHv hv]
   cases lt
   ·exact ⟨.int k (if q>p then q else p),by simp [Builtin.max_,Builtin.max2],by simp [Rel]⟩
   ·exact ⟨.int k (if q<p then q else p),by simp [Builtin.min_,Builtin.min2],by simp [Rel]⟩
  ·cases hx
 ·cases hx
end
end Go.Cm
end
section
namespace Go.Cm
open Go.Am (ZbJ Ze7 Zaw Addr.add_eq Zjd ZlC)
attribute [local instance] wi0
variable {P:Program} {F:ZaQ} {g:G} {e:Env} {a:Act} {w:World} {h h':H} {ov:Option V} {o:Oper}
def ZId (s:ByteArray):List Value:=s.data.toList.map fun b=>Value.int .u8 b.toNat
theorem ZLa (g:G): ∀l:List UInt8,Rels g ((l.map UInt8.toNat).map fun (c:Nat)=>V.int .u8 c) (l.map fun b=>Value.int .u8 b.toNat)
 | []=>rfl
 | b::l=>⟨_,_,rfl,rfl,ZLa g l⟩
theorem ZLr {b i:Nat} {vs:Array Value} {t:TypeId} (hb:w.heap[(g.β b).1]? =some (.cells vs t (0,0))) (j:Nat):w.cell? ((g.at b i).add j)=vs[(g.β b).2+i+j]? :=by
 rw [G.at,Addr.add_eq,Am.ZG6 hb]
structure Src (P:Program) (size:Nat) (x:Value) (n:Nat) (news:List Value) (w:World):Prop where
 len: ∀w':World,(Builtin.lenOf x).run P w'= .ok n w'
 cells: ∀m,m<=n->(Builtin.firstCells size m x).run P w= .ok (news.take (m*size)).toArray w
 cellsD:(Builtin.firstCells size n x).run P w.drew= .ok news.toArray w.drew
 newsLen:news.length=n*size
theorem Src.all {size:Nat} {x:Value} {n:Nat} {news:List Value} (h:Src P size x n news w):(Builtin.firstCells size n x).run P w= .ok news.toArray w:=by
 have:=h.cells n (Nat.le_refl _)
 rwa [List.take_of_length_le (by rw [h.newsLen];exact Nat.le_refl _)] at this
theorem Src.ofSlice {size n cap:Nat} {ad:Addr} {news:List Value} (hl:news.length=n*size) (hc: ∀(j:Nat) v,news[j]? =some v->w.cell? (ad.add j)=some v):Src P size (.slice (some ad) n cap) n news w:=by
 refine ⟨fun _=>rfl,fun m hm=>?_,run_firstCells_some (P:=P) w.drew size n ad n cap news hl (by simpa using hc),hl⟩
 refine run_firstCells_some (P:=P) w size m ad n cap (news.take (m*size)) ?_ fun j v hj=>?_
 ·rw [List.length_take,hl];exact Nat.min_eq_left (Nat.mul_le_mul_right _ hm)
 ·rw [List.getElem?_take] at hj
  split at hj
  ·exact hc j v hj
  ·cases hj
theorem ZJU (hh:HR g h w) {x:V} {v:Value} (hr:Rel g x v) {s n:Nat} {xs:List V} (hc:cellsOf h s x=some (n,xs)): ∃news,Rels g xs news/\Src P s v n news w:=by
 unfold cellsOf at hc
 split at hc
 · cases hc
   have:v= .slice none 0 0:=by simpa only [Rel] using hr
   subst this
   exact ⟨[],rfl,fun _=>rfl,fun m hm=>by simpa using run_firstCells_none w s m 0 0,by simpa using run_firstCells_none w.drew s 0 0 0,by simp⟩
 · cases hc
   simp only [Rel] at hr
   obtain ⟨ad,cap,rfl⟩:=hr
   exact ⟨[],rfl,Src.ofSlice Zs (fun j v h=>by simp at h)⟩
 · rename_i b i s' len lo ex
   split at hc
   · rename_i hs
     subst hs
     split at hc
     · rename_i cs hrd
       simp only [Option.map_eq_some_iff,Prod.mk.injEq] at hc
       obtain ⟨xs',hcut,rfl,rfl⟩:=hc
       obtain ⟨hb,cap,rfl,q1,q2,q3,q4⟩:=ZIZ hr
       obtain ⟨vs,ty,r1,r2,r3,r4⟩:=hh.read hb hrd
       obtain ⟨us,u1,u2,u3,u4,u5⟩:=r4.cut hcut
       exact ⟨us,u2,Src.ofSlice u1 fun j v hj=>by rw [ZLr r1];exact u3 j v hj⟩
     · cases hc
   · cases hc
 · rename_i t
   split at hc
   · rename_i hs
     subst hs
     cases hc
     obtain ⟨bs,rfl,rfl⟩:=ZHk hr
     have hln:(ZId bs).length=(ZbJ bs).length:=by simp [ZId,ZbJ]
     have hsz:(ZbJ bs).length=bs.size:=Ze7 bs
     have hf: ∀(m:Nat) (w':World),(Builtin.firstCells 1 m (.string bs)).run P w'= .ok ((ZId bs).take (m*1)).toArray w':=fun m w'=>by
       simp only [Builtin.firstCells,Sem.run_pure,Nat.mul_one]
       congr 1
       apply Array.ext'
       simp [ZId,List.map_take]
     refine ⟨ZId bs,ZLa g _,fun _=>by rw [hsz];rfl,fun m _=>hf m w,?_,by rw [hln,Nat.mul_one]⟩
     have:=hf (ZbJ bs).length w.drew
     rwa [List.take_of_length_le Zo] at this
   · cases hc
 · rename_i s' rows
   split at hc
   · rename_i hs
     subst hs
     cases hc
     simp only [Rel] at hr
     obtain ⟨⟨ad,ln⟩,cap,rfl,hp⟩:=hr
     simp only at hp
     cases hp with
     | nils a cap s=>
       cases ad with
       | none=>exact ⟨[],rfl,fun _=>rfl,fun m hm=>by simpa using run_firstCells_none w s' m 0 cap,by simpa using run_firstCells_none w.drew s' 0 0 cap,by simp⟩
       | some a=>exact ⟨[],rfl,Src.ofSlice Zs (fun j v h=>by simp at h)⟩
     | sl b o len cap s rows vs hl hcap hpr hlen hcc hrr=>
       subst hl
       have hfl:rows.flatten.length=rows.length*s':=by
         clear hcap hpr hcc hrr
         induction rows with
         | nil=>simp
         | cons r rows ih=>
           have h0:=hlen 0 r rfl
           have h1:=ih fun i row hi=>hlen (i+1) row hi
           simp only [List.flatten_cons,List.length_append,h0,h1,List.length_cons,Nat.succ_mul]
           omega
       have hgf: ∀(j:Nat) x,rows.flatten[j]? =some x-> ∃r,rows[j / s']? =some r/\r[j % s']? =some x/\j / s'<rows.length/\j % s'<s':=fun j x hj=>by
         have hjl:=Am.Zaq hj
         rw [hfl] at hjl
         have hs0:0<s':=by
           rcases Nat.eq_zero_or_pos s' with h|h
           · rw [h] at hjl;simp at hjl
           · exact h
         have hd:j / s'<rows.length:=Nat.div_lt_of_lt_mul (by rw [Nat.mul_comm];exact hjl)
         have hm:j % s'<s':=Nat.mod_lt _ hs0
         refine ⟨_,List.getElem?_eq_getElem hd,?_,hd,hm⟩
         clear hcap hpr hcc hrr hfl hm hjl
         induction rows generalizing j with
         | nil=>simp at hd
         | cons r rows ih=>
           have h0:=hlen 0 r rfl
           rcases Nat.lt_or_ge j s' with hlt|hge
           · have e0:j / s'=0:=Nat.div_eq_of_lt hlt
             have e1:j % s'=j:=Nat.mod_eq_of_lt hlt
             simp only [e0,e1,List.getElem_cons_zero]
             rw [List.flatten_cons,List.getElem?_append_left Zo] at hj
             exact hj
           · obtain ⟨k,rfl⟩: ∃k,j=k+s':=⟨j-s',by omega⟩
             have e0:(k+s') / s'=k / s'+1:=Nat.add_div_right k hs0
             have e1:(k+s') % s'=k % s':=Nat.add_mod_right k s'
             simp only [e0,e1,List.getElem_cons_succ]
             rw [List.flatten_cons,List.getElem?_append_right Zo,h0,Nat.add_sub_cancel] at hj
             exact ih (fun i row hi=>hlen (i+1) row hi) k hj (by simp only [e0,List.length_cons] at hd;omega)
       refine ⟨(List.range (rows.length*s')).map fun j=>vs (j / s') (j % s'),?_,Src.ofSlice Zs fun j v hj=>?_⟩
       · refine Rels.iff.2 ⟨by rw [List.length_map,hfl,List.length_map,List.length_range],fun j x v hx hv=>?_⟩
         rw [List.getElem?_map,Option.map_eq_some_iff] at hx hv
         obtain ⟨y,hy,rfl⟩:=hx
         obtain ⟨j',hj',rfl⟩:=hv
         have hjj:j'=j:=by
           have:=Am.Zaq hj'
           rw [List.getElem?_range (by simpa using this)] at hj'
           exact (Option.some.inj hj').symm
         subst hjj
         obtain ⟨r,r1,r2,r3,r4⟩:=hgf j' y hy
         exact ZKM (hrr _ r _ y r1 r2)
       · rw [List.getElem?_map,Option.map_eq_some_iff] at hj
         obtain ⟨j',hj',rfl⟩:=hj
         have hjl:=Am.Zaq hj'
         simp only [List.length_range] at hjl
         have hjj:j'=j:=by
           rw [List.getElem?_range hjl] at hj'
           exact (Option.some.inj hj').symm
         subst hjj
         have hs0:0<s':=by
           rcases Nat.eq_zero_or_pos s' with h|h
           · rw [h] at hjl;simp at hjl
           · exact h
         have hd:j' / s'<rows.length:=Nat.div_lt_of_lt_mul (by rw [Nat.mul_comm];exact hjl)
         have hm:j' % s'<s':=Nat.mod_lt _ hs0
         have hc:=hcc (j' / s') (j' % s') Zo hm
         have hb:=Am.ZdS (s:=s') hd hm
         have e:o+j' / s'*s'+j' % s'=o+j':=by rw [Nat.add_assoc,Nat.div_add_mod']
         rw [e] at hc
         rw [Addr.add_eq]
         exact hh.dt.kp b (o+j') _ (by rw [<-e];omega) hc
   · cases hc
 · cases hc
section
variable {t u ty el:TypeId} {i:TypeInfo} {d:TypeDesc} (ht:P.underlying t=some (.slice el)) (hu:P.underlying u=some d) (hd:ZPN d=true) (hi:P.info? el=some i)
include ht hu hd hi
theorem ZHm (ts:List TypeId) {base:Option Addr} {len cap n:Nat} {x:Value} {news:List Value} (hs:Src P i.size x n news w) (hle:len+n<=cap):
  (Builtin.append_ (t::u::ts).toArray ty #[.slice base len cap,x]).run P w=((Zjd base (len*i.size) news).run P w).andThen fun _ w'=> .ok (.slice base (len+n) cap) w':=by
 cases d<;>first|cases hd|skip
 all_goals
  cases base<;>simp [Zjd,Builtin.append_,run_underlying ht,run_underlying hu,sizeOf,typeInfo,hi,hs.len,hle,hs.all]
theorem ZHH (ts:List TypeId) {z:Value} (hz:i.zero=some z) {base:Option Addr} {sLen sCap:Nat} {olds:List Value} (hold:(Builtin.firstCells i.size sLen (.slice base sLen sCap)).run P w.drew= .ok olds.toArray w.drew)
  {x:Value} {n:Nat} {news:List Value} (hs:Src P i.size x n news w) (hg:sCap<sLen+n) (h63:((sLen+n:Nat):Int)<=9223372036854775807) (hfit:Builtin.nextslicecap (sLen+n) sCap*i.bytes<=281474976710656):
  (Builtin.append_ (t::u::ts).toArray ty #[.slice base sLen sCap,x]).run P w=
   .ok (.slice (some ⟨w.heap.size,0,none⟩) (sLen+n) (grownCap w (sLen+n) sCap el))
    (w.drew.alloc (.cells ((olds++news).toArray++Builtin.zeroCells z.cells (grownCap w (sLen+n) sCap el-(sLen+n))) el)):=by
 have hn: ¬(sLen+n<=sCap):=by omega
 have h63': ¬(9223372036854775807<((sLen:Int)+(n:Int))):=by omega
 have h48': ¬(281474976710656<Builtin.nextslicecap (sLen+n) sCap*i.bytes):=by omega
 cases d<;>first|cases hd|skip
 all_goals
  simp [Builtin.append_,run_underlying ht,run_underlying hu,sizeOf,typeInfo,zeroValue,hi,hz,hs.len,hn,h63',h48',Question.forced,hs.cellsD,hold,newRow,grownCap]
  congr 2
  apply Array.ext'
  simp [List.append_assoc]
end
def G.fork (g:G) (id:Nat) (p:Nat×Nat) (s:Nat):G:=⟨fun i=>g.ex i∨i=id,fun i=>if i=id then p else g.β i,fun i=>if i=id then s else g.sz i,g.base,max g.top (id+1),g.dfs,g.pr0,g.w0⟩
theorem ZIq (g:G) {id:Nat} (hn: ¬g.ex id) (p:Nat×Nat) (s:Nat):Le0 g (g.fork id p s):=by
 have hne: ∀i,g.ex i->i≠id:=fun i hi he=>hn (he ▸ hi)
 exact ⟨fun i hi=> .inl hi,fun i hi=>by simp [G.fork,hne i hi],fun i hi=>by simp [G.fork,hne i hi],rfl,ZI0 g⟩
theorem HR.le_fork (hh:HR g h w) (p:Nat×Nat) (s:Nat):Le g (g.fork h.next p s):=
 ⟨ZIq g hh.fresh p s,Nat.le_max_left _ _,fun b hb=>hb.imp id fun e=>(by rw [e,hh.top];exact Nat.le_refl _),rfl⟩
theorem ZLL (g:G) (id:Nat) (p:Nat×Nat) (s:Nat):(g.fork id p s).β id=p:=by simp [G.fork]
theorem ZNX (g:G) (id:Nat) (p:Nat×Nat) (s:Nat):(g.fork id p s).sz id=s:=by simp [G.fork]
theorem HR.fork (hh:HR g h w) {b gr ver:Nat} {cs xs:List V} (hbn:g.ex b) (hb:h.obs.get b=some (.cells cs gr ver false)) (ha:h.low gr<=ver) {p:Nat×Nat} {s:Nat} {w':World} (hsd:w.heap.size<=w'.heap.size/\Dt g w') (hp:g.base<=p.1/\p.1<w'.heap.size)
  (hold: ∀k o,g.ex k->h.obs.get k=some o->ObOK g h.low w' k o) (hnew:ObOK (g.fork h.next p s) h.low w' h.next (.cells xs gr (ver+1) false))
  (hcase:(p.1=(g.β b).1/\(g.β b).2+cs.length<=p.2+xs.length)∨w.heap.size<=p.1)
  (hkeep: ∀k vs t fz,g.ex k->w.heap[(g.β k).1]? =some (.cells vs t fz)-> ∃vs' fz',w'.heap[(g.β k).1]? =some (.cells vs' t fz')/\vs'.size=vs.size)
  {ty:Option (Nat×Nat)} (hty: ∀t n,ty=some (t,n)->p.2=0/\n=0/\ ∃vs fz,w'.heap[p.1]? =some (.cells vs t fz)):
  HR (g.fork h.next p s) ((h.setObj b (.cells cs gr ver true)).new (.cells xs gr (ver+1) false) ty) w':=by
 have hsz:=hsd.1
 have hne: ∀k,g.ex k->k≠h.next:=fun k hk=>Nat.ne_of_lt (hh.nx k hk)
 have hal:ZHG g h b gr ver false cs:=⟨hb,ha,hbn⟩
 have hβ: ∀k,g.ex k->(g.fork h.next p s).β k=g.β k:=(ZIq g hh.fresh p s).β
 have hn1:(g.fork h.next p s).β h.next=p:=ZLL g h.next p s
 have hobs: ∀k,((h.setObj b (.cells cs gr ver true)).new (.cells xs gr (ver+1) false) ty).obs.get k=if k=h.next then some (.cells xs gr (ver+1) false) else if k=b then some (.cells cs gr ver true) else h.obs.get k:=fun k=>by
  simp only [H.new,H.setObj]
  rw [T.get_set,T.get_set]
 have hlow: ∀k,((h.setObj b (.cells cs gr ver true)).new (.cells xs gr (ver+1) false) ty).low k=h.low k:=fun k=>rfl
 have hdown: ∀k gr' ver' kid' c,ZHG (g.fork h.next p s) ((h.setObj b (.cells cs gr ver true)).new (.cells xs gr (ver+1) false) ty) k gr' ver' kid' c->
   (k=h.next/\c=xs/\gr'=gr/\ver'=ver+1)∨(g.ex k/\ ∃kid0,ZHG g h k gr' ver' kid0 c/\(kid'=false->kid0=false/\k≠b)):=fun k gr' ver' kid' c ⟨e1,e2,e3⟩=>by
  rw [hobs] at e1
  rw [hlow] at e2
  split at e1
  ·cases e1;exact .inl ⟨by assumption,rfl,rfl,rfl⟩
  ·rename_i hkn
   have e3:g.ex k:=e3.resolve_right hkn
   split at e1
   ·rename_i hk
    cases e1
    refine .inr ⟨e3,false,by rw [hk];exact hal,fun h=>by cases h⟩
   ·rename_i hk
    exact .inr ⟨e3,kid',⟨e1,e2,e3⟩,fun h=>⟨h,hk⟩⟩
 have hver: ∀k ver' kid0 c,ZHG g h k gr ver' kid0 c->ver'<=ver/\((g.β b).1=(g.β k).1->(g.β k).2+c.length<=(g.β b).2+cs.length):=fun k ver' kid0 c hk=>hh.i2 b k gr ver cs ver' kid0 c hal hk
 have hsame: ∀k gr' ver' kid0 c,ZHG g h k gr' ver' kid0 c->p.1=(g.β k).1->gr'=gr:=fun k gr' ver' kid0 c hk heq=>by
  rcases hcase with ⟨hc,_⟩|hc
  ·by_cases hkb:k=b
   ·subst hkb
    have:=hk.1;rw [hb] at this;cases this;rfl
   ·exact (hh.i1 k b gr' ver' kid0 c gr ver false cs hk hal hkb (heq.symm.trans hc)).1
  ·have:=(hh.blk k hk.2.2).2;omega
 refine ⟨Nat.le_trans hh.bs hsz,fun k hk=>?_,by have:=hh.top;simp only [G.fork,H.new,H.setObj];omega,fun k m hk=> .inl (hh.mins k m hk),fun k c gr' ver' kid' hx hk=>?_,fun k hk=>?_,fun k o hx hk=>?_,fun k x hk=>?_,fun k t n hx hk=>?_,fun k k' gr1 ver1 kid1 c1 gr2 ver2 kid2 c2 h1 h2 hnk hkk=>?_,fun k k' gr1 ver1 c1 ver2 kid2 c2 h1 h2=>?_,fun k k' gr1 ver1 c1 ver2 c2 x1 x2 h1 h2=>?_,fun k o k' x1 hk hc x2 hnk=>?_,⟨hsd.2.kp,fun k hk=>?_,hsd.2.fr⟩⟩
 ·rcases hk with hk|hk
  ·exact Nat.lt_succ_of_lt (hh.nx k hk)
  ·rw [hk];exact Nat.lt_succ_self _
 ·rw [hobs] at hk
  split at hk
  ·cases hk;exact .inl (hh.grp b _ _ _ _ hbn hb)
  ·rename_i hkn
   split at hk
   ·cases hk;exact .inl (hh.grp b _ _ _ _ hbn hb)
   ·exact .inl (hh.grp k _ _ _ _ (hx.resolve_right hkn) hk)
 ·rcases hk with hk|hk
  ·rw [hβ k hk]
   obtain ⟨q1,q2⟩:=hh.blk k hk
   exact ⟨q1,Nat.lt_of_lt_of_le q2 hsz⟩
  ·rw [hk,hn1];exact hp
 ·rw [hobs] at hk
  split at hk
  ·rename_i e;cases hk;rw [e];exact hnew
  ·rename_i hkn
   have hx:=hx.resolve_right hkn
   split at hk
   ·rename_i e
    cases hk
    have h0:ObOK g h.low w' b (.cells cs gr ver true):=(hold b _ hbn hb:ObOK g h.low w' b (.cells cs gr ver false))
    rw [e]
    exact h0.mono (ZIq g hh.fresh p s) hbn rfl
   ·exact (hold k o hx hk).mono (ZIq g hh.fresh p s) hx rfl
 ·rw [ZJA] at hk
  split at hk
  ·rename_i e;rw [e];exact Nat.lt_succ_self _
  ·exact Nat.lt_succ_of_lt (hh.tl k x hk)
 ·by_cases e:k=h.next
  ·subst e
   have hk':ty=some (t,n):=by
    rw [ZJA,if_pos (show h.next=(h.setObj b (.cells cs gr ver true)).next from rfl)] at hk
    cases ty with
    | none=>have h0:=hh.ty_next;change h.tys.get h.next=some (t,n) at hk;rw [h0] at hk;cases hk
    | some x=>exact hk
   obtain ⟨q1,q2,vs,fz,q3⟩:=hty t n hk'
   rw [hn1]
   exact ⟨q1,vs,fz,q3,fun h=>absurd q2 h⟩
  ·rw [ZJA,if_neg (show¬k=(h.setObj b (.cells cs gr ver true)).next from e)] at hk
   have hx:=hx.resolve_right e
   obtain ⟨q1,vs,fz,q3,q4⟩:=hh.ty k t n hx hk
   obtain ⟨vs',fz',q5,q6⟩:=hkeep k vs t fz hx q3
   rw [hβ k hx]
   exact ⟨q1,vs',fz',q5,fun h=>q6.trans (q4 h)⟩
 ·rcases hdown _ _ _ _ _ h1 with ⟨e1,rfl,rfl,rfl⟩|⟨l1,kid1',a1,_⟩
  ·rcases hdown _ _ _ _ _ h2 with ⟨e2,_⟩|⟨l2,kid2',a2,_⟩
   ·exact absurd (e1.trans e2.symm) hnk
   ·rw [e1,hn1,hβ k' l2] at hkk
    have hg:=hsame _ _ _ _ _ a2 hkk
    subst hg
    have:=(hver _ _ _ _ a2).1
    exact ⟨rfl,by omega⟩
  ·rcases hdown _ _ _ _ _ h2 with ⟨e2,rfl,rfl,rfl⟩|⟨l2,kid2',a2,_⟩
   ·rw [e2,hn1,hβ k l1] at hkk
    have hg:=hsame _ _ _ _ _ a1 hkk.symm
    subst hg
    have:=(hver _ _ _ _ a1).1
    exact ⟨rfl,by omega⟩
   ·rw [hβ k l1,hβ k' l2] at hkk
    exact hh.i1 k k' gr1 ver1 kid1' c1 gr2 ver2 kid2' c2 a1 a2 hnk hkk
 ·rcases hdown _ _ _ _ _ h1 with ⟨e1,rfl,rfl,rfl⟩|⟨l1,kid1',a1,hk1⟩
  ·rcases hdown _ _ _ _ _ h2 with ⟨e2,rfl,_,rfl⟩|⟨l2,kid2',a2,_⟩
   ·exact ⟨Nat.le_refl _,fun _=>by rw [e1,e2];exact Nat.le_refl _⟩
   ·obtain ⟨q1,q2⟩:=hver _ _ _ _ a2
    refine ⟨by omega,fun hkk=>?_⟩
    rw [e1,hn1,hβ k' l2] at hkk
    rw [e1,hn1,hβ k' l2]
    rcases hcase with ⟨hc,hc2⟩|hc
    ·have:=q2 (hc.symm.trans hkk);omega
    ·have:=(hh.blk k' l2).2;omega
  ·obtain ⟨hk1,hkb⟩:=hk1 rfl
   subst hk1
   rcases hdown _ _ _ _ _ h2 with ⟨e2,rfl,rfl,rfl⟩|⟨l2,kid2',a2,_⟩
   ·exact absurd (hh.i4 k b gr1 ver1 c1 ver cs l1 hbn a1.1 hb) hkb
   ·rw [hβ k l1,hβ k' l2]
    exact hh.i2 k k' gr1 ver1 c1 ver2 kid2' c2 a1 a2
 ·rw [hobs] at h1 h2
  split at h1
  ·rename_i e1
   cases h1
   split at h2
   ·rename_i e2;exact e1.trans e2.symm
   ·rename_i e2
    split at h2
    ·cases h2
    ·rename_i hkb
     exact absurd (hh.i4 k' b gr ver2 c2 ver cs (x2.resolve_right e2) hbn h2 hb) hkb
  ·rename_i e1
   split at h1
   ·cases h1
   ·rename_i hkb
    split at h2
    ·cases h2
     exact absurd (hh.i4 k b gr ver1 c1 ver cs (x1.resolve_right e1) hbn h1 hb) hkb
    ·rename_i e2
     split at h2
     ·cases h2
     ·exact hh.i4 k k' gr1 ver1 c1 ver2 c2 (x1.resolve_right e1) (x2.resolve_right e2) h1 h2
 ·rw [hobs] at hk
  split at hk
  ·cases hk;cases hc
  ·rename_i e1
   split at hk
   ·cases hk;cases hc
   ·rename_i hkb
    have hkn:=x1.resolve_right e1
    rw [hβ k hkn]
    rcases x2 with q|q
    ·rw [hβ k' q];exact hh.dm k o k' hkn hk hc q hnk
    ·rw [q,hn1]
     rcases hcase with ⟨hcs,_⟩|hcs
     ·rw [hcs];exact hh.dm k o b hkn hk hc hbn (Ne.symm hkb)
     ·have:=(hh.blk k hkn).2;omega
 ·rcases hk with hk|hk
  ·rw [hβ k hk];exact hh.dt.dj k hk
  ·rw [hk,hn1]
   rcases hcase with ⟨hcs,_⟩|hcs
   ·rw [hcs];exact hh.dt.dj b hbn
   ·exact hh.dt.fr _ hcs
theorem HR.sameHeap (hh:HR g h w) {w':World} (hw:w'.heap=w.heap):HR g h w':=by
 refine ⟨by rw [hw];exact hh.bs,hh.nx,hh.top,hh.mins,hh.grp,fun b hb=>by rw [hw];exact hh.blk b hb,fun b o hx hb=>?_,hh.tl,fun b t n hx hb=>by rw [hw];exact hh.ty b t n hx hb,hh.i1,hh.i2,hh.i4,hh.dm,hh.dt.all (by rw [hw];exact Nat.le_refl _) fun k _ _=>by rw [hw]⟩
 exact (hh.ob b o hx hb).mono (Le.refl g).toLe0 hx (by rw [hw])
theorem ZHw {b off:Nat} {t:TypeId} {us:List Value} {cur:Array Value} (hb:w.heap[b]? =some (.cells cur t (0,0))) (hl:off+us.length<=cur.size) (h1: ∀v∈us,v.oneCell'=true):
  (storeCells ⟨b,off,none⟩ us).run P w= .ok () (w.setRow b (cur.toList.take off++us++cur.toList.drop (off+us.length)).toArray):=by
 have:=run_storeCells_at P b off t us 0 cur w hb (by simpa using hl) h1
 simpa using this
theorem ZIM (hh:HR g h w) {xs:List V} {news:List Value} (hr:Rels g xs news) {z:Value} (t:TypeId) {m cap s:Nat} (hm:xs.length=m*s) (hz:z.cells.size=s) (hc:m<=cap):
  HR (g.grow h.next w.heap.size (news.toArray++Builtin.zeroCells z.cells (cap-m)).size) (h.newCells xs (some (t,0))) (w.drew.alloc (.cells (news.toArray++Builtin.zeroCells z.cells (cap-m)) t))/\cap*s<=(news.toArray++Builtin.zeroCells z.cells (cap-m)).size:=by
 have hl:=hr.len
 have h0:HR g h w.drew:=hh.sameHeap rfl
 refine ⟨?_,?_⟩
 ·have:=h0.newCells (cs:=xs) (vs:=news.toArray++Builtin.zeroCells z.cells (cap-m)) t Ze (fun i x hx=>by
   have hi:=Am.Zaq hx
   have hu:news[i]? =some (news[i]'(by omega)):=List.getElem?_eq_getElem _
   exact ⟨_,by rw [Nat.zero_add,Array.getElem?_append_left Ze];simpa using hu,(Rels.iff.1 hr).2 i x _ hx hu⟩) (some (t,0)) (fun t' n e=>by cases e;exact ⟨rfl,rfl⟩)
  exact this
 ·have hz':(Builtin.zeroCells z.cells (cap-m)).size=(cap-m)*s:=by simp [Builtin.zeroCells,hz]
  rw [Array.size_append,hz',List.size_toArray,<-hl,hm,<-Nat.add_mul]
  exact Nat.mul_le_mul_right _ Zo
theorem ZJy {el b o t n:Nat} (hg:ZOt h el b o=some (t,n)):t=el/\n=0/\o=0/\ ∃m,h.tys.get b=some (el,m):=by
 unfold ZOt at hg
 split at hg
 ·rename_i t' m ht
  split at hg
  ·rename_i hc
   obtain ⟨rfl,rfl⟩:=hc
   cases hg
   exact ⟨rfl,rfl,rfl,m,ht⟩
  ·cases hg
 ·cases hg
theorem ZHW {id:Nat} (hn: ¬g.ex id) (o:Obj) (s:Nat):Grew g w (g.grow id w.heap.size s) (w.drew.alloc o):=
 ⟨rfl,rfl,rfl,by show _<=(w.heap.push o).size;simp,fun b hb _=>by show (w.heap.push o)[b]? =_;rw [Array.getElem?_push];rw [if_neg Zo],fun b hb=>hb.elim (fun hx=> .inl ⟨b,hx,by rw [(ZHf g hn _ s).β b hx]⟩) fun he=> .inr (by rw [he,ZHa];exact Nat.le_refl _),fun _ _=>rfl⟩
theorem ZPY (hh:HR g h w) {t u ty:TypeId} (ts:List TypeId) {x y z:V} {p q:Value} (hp:Rel g x p) (hq:Rel g y q) (hx:appV P h t u x y=some (z,h')):
   ∃r w' g',(Builtin.append_ (t::u::ts).toArray ty #[p,q]).run P w= .ok r w'/\Rel g' z r/\HR g' h' w'/\Le g g'/\Grew g w g' w':=by
 unfold appV at hx
 split at hx
 · rename_i el d ht hu
   split at hx
   · rename_i hd
     split at hx
     · rename_i s zz hel
       obtain ⟨i,zv,zV,hi,hz,hzc,rfl,rfl,hzl,h0,hby⟩:=ZHV hel
       have hzs:zv.cells.size=i.size:=by have:=(ofConst_rel g zv hzc).cells.len;simp at this;omega
       unfold ZLE at hx
       split at hx
       · cases hx
       · rename_i n new hcell
         obtain ⟨news,hn,hsrc⟩:=ZJU (P:=P) hh hq hcell
         have hnl:=hn.len
         have hnl2:=hsrc.newsLen
         split at hx
         · have:p= .slice none 0 0:=by simpa only [Rel] using hp
           subst this
           split at hx
           · rename_i hn0
             subst hn0
             cases hx
             have hnil:news=[]:=by simpa using hnl2
             subst hnil
             refine ⟨.slice none 0 0,w,g,?_,by simp only [Rel],hh,Le.refl g,Grew.refl _ _⟩
             have:=ZHm (ty:=ty) ht hu hd hi ts (base:=none) (len:=0) (cap:=0) hsrc Zo
             rw [this,ZlC];rfl
           · rename_i hn0
             split at hx
             · rename_i hroom
               cases hx
               unfold ROOM at hroom
               have hbytes:n*i.bytes<=140737488355328:=by
                 have:n*i.bytes<=1000000*65536:=Nat.mul_le_mul hroom hby
                 omega
               have hrun:=ZHH (w:=w) (ty:=ty) ht hu hd hi ts hz (base:=none) (sLen:=0) (sCap:=0) (olds:=[]) (by simpa using run_firstCells_none w.drew i.size 0 0 0) hsrc Zo Zo (growslice_fits Zo (by simpa using hbytes))
               simp only [List.nil_append,Nat.zero_add] at hrun
               have hcap:n<=grownCap w n 0 el:=by unfold grownCap Question.cut;exact Nat.le_add_right _ _
               obtain ⟨q1,q2⟩:=ZIM hh hn (z:=zv) el (m:=n) (cap:=grownCap w n 0 el) (s:=i.size) Zo hzs hcap
               refine ⟨_,_,_,hrun,?_,q1,hh.le_grow _ _,ZHW hh.fresh _ _⟩
               simp only [Rel,ZHa,ZKr,G.at]
               exact ⟨.inr rfl,_,rfl,Nat.le_refl _,hcap,fun hh=>by simp at hh,by simpa using q2⟩
             · cases hx
         · rename_i b off s' len lo ex
           split at hx
           · rename_i hss
             subst hss
             obtain ⟨hb,cap,rfl,c1,c2,c3,c4⟩:=ZIZ hp
             split at hx
             · rename_i hle
               have hrun:=ZHm (w:=w) (ty:=ty) ht hu hd hi ts (base:=some (g.at b off)) (len:=len) (cap:=cap) hsrc Zo
               split at hx
               · rename_i hn0
                 subst hn0
                 cases hx
                 have hnil:news=[]:=by simpa using hnl2
                 subst hnil
                 refine ⟨.slice (some (g.at b off)) len cap,w,g,?_,hp,hh,Le.refl g,Grew.refl _ _⟩
                 rw [hrun,ZlC];rfl
               · split at hx
                 · rename_i hn0 h1 hwr
                   cases hx
                   obtain ⟨w1,vs,tt,w2,w3,w4,w5⟩:=hh.write hb hwr hn
                   refine ⟨.slice (some (g.at b off)) (len+n) cap,_,g,?_,?_,w4,Le.refl g,w5⟩
                   · rw [hrun]
                     have:=ZHw (P:=P) w2 w3 w1
                     have hst:(Zjd (some (g.at b off)) (len*i.size) news).run P w= .ok () (w.setRow (g.β b).1 (vs.toList.take ((g.β b).2+(off+len*i.size))++news++vs.toList.drop ((g.β b).2+(off+len*i.size)+news.length)).toArray):=by
                       simp only [Zjd,G.at,Addr.add_eq,Nat.add_assoc] at this⊢
                       exact this
                     rw [hst];rfl
                   · simp only [Rel]
                     exact ⟨hb,cap,rfl,hle,c2,c3,c4⟩
                 · cases hx
             · rename_i hgt
               have hn0:0<n:=by omega
               unfold ZQF at hx
               split at hx
               · rename_i hroom
                 unfold ROOM at hroom
                 have hbytes:(len+n)*i.bytes<=140737488355328:=by
                   have:(len+n)*i.bytes<=1000000*65536:=Nat.mul_le_mul hroom hby
                   omega
                 split at hx
                 · rename_i cs grp ver kid hob
                   split at hx
                   · rename_i ha
                     split at hx
                     · cases hx
                     · rename_i old hcut
                       have hrd:h.rd b=some cs:=by unfold H.rd;rw [hob];simp [ha]
                       obtain ⟨vs,tt,r1,r2,r3,r4⟩:=hh.read hb hrd
                       obtain ⟨olds,u1,u2,u3,u4,u5⟩:=r4.cut hcut
                       have holds:(Builtin.firstCells i.size len (.slice (some (g.at b off)) len cap)).run P w.drew= .ok olds.toArray w.drew:=
                         run_firstCells_some (P:=P) w.drew i.size len (g.at b off) len cap olds u1 (fun j v hj=>by
                           have:=u3 j v hj
                           rw [<-ZLr (w:=w) (g:=g) (b:=b) (i:=off) r1 j] at this
                           simpa using this)
                       have hon:Rels g (old++new) (olds++news):=u2.append hn
                       have hlon:(old++new).length=(len+n)*i.size:=by rw [List.length_append,u4,hnl,hnl2,Nat.add_mul]
                       have grow:cap<len+n-> ∀hN:H,HR (g.grow h.next w.heap.size ((olds++news).toArray++Builtin.zeroCells zv.cells (grownCap w (len+n) cap el-(len+n))).size) hN (w.drew.alloc (.cells ((olds++news).toArray++Builtin.zeroCells zv.cells (grownCap w (len+n) cap el-(len+n))) el))->
                           ∃r w' g',(Builtin.append_ (t::u::ts).toArray ty #[.slice (some (g.at b off)) len cap,q]).run P w= .ok r w'/\Rel g' (.sl h.next 0 i.size (len+n) (len+n) false) r/\HR g' hN w'/\Le g g'/\Grew g w g' w':=fun hg hN hhN=>by
                         have hrun:=ZHH (w:=w) (ty:=ty) ht hu hd hi ts hz holds hsrc hg Zo (growslice_fits hg hbytes)
                         have hcap:len+n<=grownCap w (len+n) cap el:=by unfold grownCap Question.cut;exact Nat.le_add_right _ _
                         obtain ⟨_,q2⟩:=ZIM hh hon (z:=zv) el (m:=len+n) (cap:=grownCap w (len+n) cap el) (s:=i.size) hlon hzs hcap
                         refine ⟨_,_,_,hrun,?_,hhN,hh.le_grow _ _,ZHW hh.fresh _ _⟩
                         simp only [Rel,ZHa,ZKr,G.at]
                         exact ⟨.inr rfl,_,rfl,Nat.le_refl _,hcap,fun hh=>by simp at hh,by simpa using q2⟩
                       have hcapg:len+n<=grownCap w (len+n) cap el:=by unfold grownCap Question.cut;exact Nat.le_add_right _ _
                       split at hx
                       · rename_i hex
                         cases hx
                         have:=c3 hex
                         refine grow Zo _ ?_
                         exact (ZIM hh hon (z:=zv) el (m:=len+n) (cap:=grownCap w (len+n) cap el) (s:=i.size) hlon hzs hcapg).1
                       · split at hx
                         · rename_i hcond
                           obtain ⟨rfl,hend,hone⟩:=hcond
                           cases hx
                           rcases Nat.lt_or_ge cap (len+n) with hg|hg
                           · refine grow hg _ ?_
                             have hnr:=(ZIM hh hon (z:=zv) el (m:=len+n) (cap:=grownCap w (len+n) cap el) (s:=i.size) hlon hzs hcapg).1
                             have hbs:=hh.bs
                             have hob2:=hnr.ob h.next (.cells (old++new) h.next 0 false) (.inr rfl) (by rw [H.newCells,ZLn,if_pos rfl])
                             refine hh.fork hb hob ha (p:=(w.heap.size,0)) (s:=_) (w':=w.drew.alloc _) ⟨?_,hh.dt.all (by show _<=(w.heap.push _).size;simp) fun k hk _=>by show (w.heap.push _)[k]? =_;rw [Array.getElem?_push,if_neg (Nat.ne_of_lt hk)]⟩ ?_ (fun k o' hx hk=>?_) ?_ (.inr (Nat.le_refl _)) (fun k vs0 t0 fz0 hx hk=>⟨vs0,fz0,(by show (w.heap.push _)[_]? =_;rw [Array.getElem?_push,if_neg (Nat.ne_of_lt (hh.blk k hx).2)];exact hk),rfl⟩) (fun t0 n0 hg0=>(by obtain ⟨rfl,rfl,_⟩:=ZJy hg0;exact ⟨rfl,rfl,_,(0,0),(by show (w.heap.push _)[_]? =_;rw [Array.getElem?_push,if_pos rfl])⟩))
                             · show _<=(w.heap.push _).size;simp
                             · exact ⟨hbs,by show _<(w.heap.push _).size;simp⟩
                             · refine (hh.ob k o' hx hk).mono (Le.refl g).toLe0 hx ?_
                               show (w.heap.push _)[_]? =_
                               rw [Array.getElem?_push,if_neg (Nat.ne_of_lt (hh.blk k hx).2)]
                             · obtain ⟨vs',t',fz',z1,z2,z3⟩:=hob2
                               refine ⟨vs',t',fz',z1,z2,fun _=>z3 ?_⟩
                               have:(h.newCells (old++new) (some (el,0))).low h.next=0:=hh.low_un hh.fresh
                               rw [this];exact Nat.zero_le _
                           · have hrun:=ZHm (w:=w) (ty:=ty) ht hu hd hi ts (base:=some (g.at b off)) (len:=len) (cap:=cap) hsrc Zo
                             have hone': ∀v∈news,v.oneCell'=true:=fun v hv=>by
                               obtain ⟨j,hj⟩:=List.mem_iff_getElem?.1 hv
                               have hjl:=Am.Zaq hj
                               have hxj:new[j]? =some (new[j]'(by omega)):=List.getElem?_eq_getElem _
                               exact ((Rels.iff.1 hn).2 j _ v hxj hj).one (List.all_eq_true.1 hone _ (List.mem_of_getElem? hxj))
                             have hmul:(len+n)*i.size<=cap*i.size:=Nat.mul_le_mul_right _ hg
                             rw [Nat.add_mul] at hmul
                             have hfit:(g.β b).2+(off+len*i.size)+news.length<=vs.size:=by omega
                             generalize hN:(vs.toList.take ((g.β b).2+(off+len*i.size))++news++vs.toList.drop ((g.β b).2+(off+len*i.size)+news.length)).toArray=new'
                             have hst:(Zjd (some (g.at b off)) (len*i.size) news).run P w= .ok () (w.setRow (g.β b).1 new'):=by
                               have:=ZHw (P:=P) r1 hfit hone'
                               rw [<-hN]
                               simp only [Zjd,G.at,Addr.add_eq,Nat.add_assoc] at this⊢
                               exact this
                             have hnsz:new'.size=vs.size:=by rw [<-hN];simp;omega
                             have hget: ∀j:Nat,new'[j]? =if j<(g.β b).2+(off+len*i.size) then vs[j]? else if j<(g.β b).2+(off+len*i.size)+news.length then news[j-((g.β b).2+(off+len*i.size))]? else vs[j]? :=fun j=>by
                               rw [<-hN,List.getElem?_toArray,ZLF (by simpa using hfit)]
                               simp only [Array.getElem?_toList]
                             have hal:ZHG g h b grp ver false cs:=⟨hob,ha,hb⟩
                             refine ⟨.slice (some (g.at b off)) (len+n) cap,w.setRow (g.β b).1 new',g.fork h.next ((g.β b).1,(g.β b).2+off) (g.sz b),by rw [hrun,hst];rfl,?_,?_,hh.le_fork _ _,?_⟩
                             · simp only [Rel,ZLL,ZNX,G.at]
                               exact ⟨.inr rfl,cap,rfl,Nat.le_refl _,hg,fun hh=>by simp at hh,by simpa using c4⟩
                             · refine hh.fork hb hob ha (p:=((g.β b).1,(g.β b).2+off)) (s:=g.sz b) (w':=w.setRow (g.β b).1 new') ⟨by rw [size_setRow];exact Nat.le_refl _,hh.dt.at hb (by rw [size_setRow];exact Nat.le_refl _) fun k hk=>setRow_other w (g.β b).1 k new' hk⟩ (by rw [size_setRow];exact hh.blk b hb) (fun k o' hkn hk=>?_) ?_ (.inl ⟨rfl,by simp only [List.length_append];omega⟩) (fun k vs0 t0 fz0 hx hk=>?_) (fun t0 n0 hg0=>?_)
                               · have hko:=hh.ob k o' hkn hk
                                 by_cases heq:(g.β k).1=(g.β b).1
                                 · cases o' with
                                   | cells c gr ve kid=>
                                     obtain ⟨us',t',fz',z1,z2,z3⟩:=hko
                                     have hv:us'=vs/\t'=tt/\fz'=(0,0):=by rw [heq,r1] at z1;cases z1;exact ⟨rfl,rfl,rfl⟩
                                     obtain ⟨rfl,rfl,rfl⟩:=hv
                                     refine ⟨new',t',(0,0),by rw [heq];exact setRow_heap w _ us' new' t' (0,0) r1,hnsz.trans z2,fun hl=>?_⟩
                                     obtain ⟨y1,y2,y3⟩:=z3 hl
                                     refine ⟨rfl,by rw [hnsz];exact y2,fun j x hj=>?_⟩
                                     have hjl:=Am.Zaq hj
                                     have hle2:(g.β k).2+c.length<=(g.β b).2+cs.length:=by
                                       by_cases hkb:k=b
                                       · subst hkb;rw [hob] at hk;cases hk;exact Nat.le_refl _
                                       · have hka:ZHG g h k gr ve kid c:=⟨hk,hl,hkn⟩
                                         have e1:=(hh.i1 k b gr ve kid c grp ver false cs hka hal hkb heq).1
                                         subst e1
                                         exact (hh.i2 b k gr ver cs ve kid c hal hka).2 heq.symm
                                     rw [hget,if_pos Zo]
                                     exact y3 j x hj
                                   | map=>exact absurd heq (hh.dm k _ b hkn hk rfl hb (fun hkb=>by rw [hkb,hk] at hob;cases hob))
                                   | siter=>exact absurd heq (hh.dm k _ b hkn hk rfl hb (fun hkb=>by rw [hkb,hk] at hob;cases hob))
                                   | miter=>exact absurd heq (hh.dm k _ b hkn hk rfl hb (fun hkb=>by rw [hkb,hk] at hob;cases hob))
                                   | mapU=>exact absurd heq (hh.dm k _ b hkn hk rfl hb (fun hkb=>by rw [hkb,hk] at hob;cases hob))
                                   | loop=>exact absurd heq (hh.dm k _ b hkn hk rfl hb (fun hkb=>by rw [hkb,hk] at hob;cases hob))
                                 · exact hko.mono (Le.refl g).toLe0 hkn (setRow_other w (g.β b).1 (g.β k).1 new' heq)
                               · refine ⟨new',tt,(0,0),?_,?_,fun _=>⟨rfl,?_,?_⟩⟩
                                 · rw [ZLL];exact setRow_heap w _ vs new' tt (0,0) r1
                                 · rw [ZNX,hnsz,r2]
                                 · rw [ZLL,hnsz,hlon,Nat.add_mul];simp only;omega
                                 · rw [ZLL]
                                   intro j x hj
                                   have hmono: ∀{x:V} {v:Value},Rel g x v->Rel (g.fork h.next ((g.β b).1,(g.β b).2+off) (g.sz b)) x v:=fun hr=>hr.mono (ZIq g hh.fresh _ _)
                                   rw [hget]
                                   by_cases hjo:j<old.length
                                   · rw [List.getElem?_append_left hjo] at hj
                                     have hju:olds[j]? =some (olds[j]'(by omega)):=List.getElem?_eq_getElem _
                                     rw [if_pos (by simp only;omega)]
                                     exact ⟨_,u3 j _ hju,hmono ((Rels.iff.1 u2).2 j x _ hj hju)⟩
                                   · rw [List.getElem?_append_right Zo] at hj
                                     have hjl:=Am.Zaq hj
                                     have hju:news[j-old.length]? =some (news[j-old.length]'(by omega)):=List.getElem?_eq_getElem _
                                     rw [if_neg (by simp only;omega),if_pos (by simp only;omega)]
                                     refine ⟨_,?_,hmono ((Rels.iff.1 hn).2 _ x _ hj hju)⟩
                                     rw [<-hju];congr 1;simp only;omega
                               · by_cases heq:(g.β k).1=(g.β b).1
                                 · rw [heq] at hk⊢
                                   rw [r1] at hk;cases hk
                                   exact ⟨new',(0,0),setRow_heap w _ vs new' _ (0,0) r1,hnsz⟩
                                 · exact ⟨vs0,fz0,(setRow_other w (g.β b).1 (g.β k).1 new' heq).trans hk,rfl⟩
                               · obtain ⟨rfl,rfl,rfl,n1,hg1⟩:=ZJy hg0
                                 obtain ⟨y1,vs1,fz1,y2,_⟩:=hh.ty b _ _ hb hg1
                                 rw [r1] at y2;cases y2
                                 exact ⟨(by simp only;omega),rfl,new',(0,0),setRow_heap w _ vs new' _ (0,0) r1⟩
                             · exact ⟨rfl,rfl,rfl,by rw [size_setRow];exact Nat.le_refl _,fun k hk hnk=>setRow_other w _ k _ fun he=>hnk b hb he.symm,fun k hk=>hk.elim (fun hx=> .inl ⟨k,hx,by rw [(ZIq g hh.fresh _ _).β k hx]⟩) fun he=> .inl ⟨b,hb,by rw [he,ZLL]⟩,fun _ _=>rfl⟩
                         · cases hx
                   · cases hx
                 · cases hx
               · cases hx
           · cases hx
         · cases hx
     · cases hx
   · cases hx
 · cases hx
end Go.Cm
end
