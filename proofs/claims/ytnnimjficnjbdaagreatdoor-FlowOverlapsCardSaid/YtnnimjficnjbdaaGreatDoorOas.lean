/- Part. -/
import Derived.Test.YtnnimjficnjbdaaGreatDoorOaq
import Derived.Scope
set_option maxRecDepth 999999
set_option maxHeartbeats 0
set_option linter.all false
section
namespace Go.Am
variable [WI]
variable {Pg:Program}
theorem ZmZ (κ:Nat): ∀(e:Env) (k:Nat),(e.kill κ).get k=if k=κ∨(e.get k).ment κ=true then .undef else e.get k
 | [],k=>by simp only [Env.kill,Env.get];exact (ite_self _).symm
 | (k',d)::r,k=>by
   simp only [Env.kill,Env.get]
   by_cases h:k'=k
   · subst h;simp
   · simp only [beq_iff_eq,h,if_false];exact ZmZ κ r k
theorem ZqR: ∀(ks:List Nat) (e:Env),(∀k,(e.kills ks).get k=e.get k∨(e.kills ks).get k= .undef)/\ ∀κ∈ks,ZlQ (e.kills ks) κ
 | [],e=>⟨fun k=> .inl rfl,fun κ h=>by cases h⟩
 | κ::ks,e=>by
   obtain ⟨h1,h2⟩:=ZqR ks (e.kill κ)
   have h0: ∀k,(e.kill κ).get k=e.get k∨(e.kill κ).get k= .undef:=fun k=>by
     rw [ZmZ];split
     · exact .inr rfl
     · exact .inl rfl
   refine ⟨fun k=>?_,fun κ' hκ'=>?_⟩
   · simp only [Env.kills]
     rcases h1 k with h|h
     · rcases h0 k with h'|h'
       · exact .inl (h.trans h')
       · exact .inr (h.trans h')
     · exact .inr h
   · simp only [Env.kills]
     rcases List.mem_cons.1 hκ' with rfl|hm
     · have hn:ZlQ (e.kill κ') κ':=⟨by rw [ZmZ,if_pos (.inl rfl)],fun k=>by
         rw [ZmZ];split
         · rfl
         · rename_i hh;rw [not_or] at hh;simpa using hh.2⟩
       refine ⟨?_,fun k=>?_⟩
       · rcases h1 κ' with h|h
         · rw [h];exact hn.1
         · exact h
       · rcases h1 k with h|h
         · rw [h];exact hn.2 k
         · rw [h];rfl
     · exact h2 κ' hm
theorem St.drawn {g:G} {e:Env} {a:Act} {w:World} (h:St g e a w) (n:Nat):St g e a {w with drawn:=n}/\Ext g.T g.pr g.ow w {w with drawn:=n} g.pr g.ow:=by
 have hext:Ext g.T g.pr g.ow w {w with drawn:=n} g.pr g.ow:=⟨rfl,rfl,rfl,Nat.le_refl _,fun _ o hb=>⟨o,hb,.refl _ _⟩,fun _ _=>Nat.le_refl _,fun _ _ h _=>⟨rfl,h⟩,fun _ _ _ _=>rfl⟩
 exact ⟨h.gen [] (fun _=>True) hext h.fr rfl rfl rfl h.df rfl (fun _ _=>rfl) (fun _ _ _=>rfl) (fun _ _ _ _ b hb=>⟨hb,rfl,rfl⟩) (fun _=> .inl rfl) (fun _ _=>⟨rfl,rfl,rfl⟩) (fun _ _ _ _=>trivial) (fun _ _ _ _ _=>trivial)
  (fun _ h=>by cases h) (fun _ h=>by cases h) (fun h=>by cases h) (fun _ h=>by cases h),hext⟩
section
variable {F:ZaQ} {ops:Array Oper} {ss:List SOp} {nt:Nat}
theorem Zo8 (hF:Zcv Pg F) {draw:Bool} (hok:ZhT Pg ops ss nt draw=true) (hfol:draw=true->Pg.follows .mixedOrders=true) {g:G} {e ef:Env} {a:Act} {w:World} (h:St g e a w) (hnt:g.nt=nt)
   (hr:Zdo F ss (e.kills (ss.flatMap fun o=>o.kind.creates))=some ef) {id:Nat} {Q:Exit->Act->World->Prop} (hD:Done ef g w (Q .normal)):(Code.region id ops draw).wp Pg Q a w:=by
 obtain ⟨k1,k2⟩:=ZqR (ss.flatMap fun o=>o.kind.creates) e
 have hlen:ops.size=ss.length:=by
   simp only [ZhT,Bool.and_eq_true,beq_iff_eq] at hok;exact hok.1
 have hfresh: ∀(i:Nat) s κ,ss[i]? =some s->κ∈s.kind.creates->ZlQ (e.kills (ss.flatMap fun o=>o.kind.creates)) κ:=fun i s κ hs hc=>
   k2 κ (List.mem_flatMap.2 ⟨s,List.mem_of_getElem? hs,hc⟩)
 have h0:=h.weaken k1
 cases draw with
 | false=>
   refine wp_region ?_
   rw [List.range_eq_range']
   refine ZpG hF hok ops.size 0 (L:=fun _=>false) Zo hnt (fun i _=>by simp) ⟨h0,⟨ef,?_,.refl _⟩,fun i s κ hs _ hc=>hfresh i s κ hs hc⟩ hD
   rw [Zpl 0 ss fun _ _ _=>rfl];exact hr
 | true=>
   refine wp_region_any (hfol rfl) ?_
   obtain ⟨h1,hext⟩:=h0.drawn (w.drawn+1)
   have hgetD: ∀i,i<ops.size->(Array.replicate ops.size false).getD i true=false:=fun i hi=>by simp [Array.getD,hi]
   refine Zzw hF hok ops.size (Array.replicate ops.size false) Zs (fun k o _ hk=>by simp [Array.getD] at hk) (by simp [List.count_replicate]) hnt ⟨h1,⟨ef,?_,.refl _⟩,fun i s κ hs _ hc=>hfresh i s κ hs hc⟩ (hD.next hext rfl rfl rfl)
   rw [Zpl 0 ss fun m _ hm=>hgetD m Zo];exact hr
end
def Zd4 (Pg:Program) (nt:Nat):Code->SCode->Bool
 | c,.gh _ x=>Zd4 Pg nt c x
 | c,.hg x _=>Zd4 Pg nt c x
 | .skip,.skip=>true
 | .label _,.skip=>true
 | .region _ ops draw,.region ss=>ZhT Pg ops ss nt draw && (!draw||Pg.follows .mixedOrders)
 | .seq a b,.seq x y=>Zd4 Pg nt a x && Zd4 Pg nt b y
 | .cond c a b,.cond y x z=>Zcl c y && Zd4 Pg nt a x && Zd4 Pg nt b z
 | .block id b,.block id' x=>id==id' && Zd4 Pg nt b x
 | .loop b,.loop _ x=>Zd4 Pg nt b x
 | .scope b,.seq x .skip=>Zd4 Pg nt b x
 | .exit id,.exit id'=>id==id'
 | .ret,.ret=>true
 | _,_=>false
def X.toExit:X->Exit
 | .normal=> .normal
 | .exit id=> .exit id
 | .ret=> .ret
theorem ZuJ {P:Program} {Q:Exit->Act->World->Prop} {c:Code} (I:Nat->Act->World->Prop)
   (round: ∀n a w,I n a w->c.wp P (Exit.then (fun a' w'=> ∃m,m<n/\I m a' w') Q) a w) {n:Nat} {a:Act} {w:World} (h₀:I n a w):(Code.loop c).wp P Q a w:=by
 intro b k cs
 have key: ∀n a w,I n a w-> ∃e a' w',Q e a' w'/\Arrives P (lone (b.at a (.code c:: .inLoop c::k)) cs w) b k cs e a' w':=by
   intro n
   induction n using Nat.strongRecOn with
   | _ n ih=>
     intro a w hI
     obtain ⟨e,a₁,w₁,hq,harr⟩:=round n a w hI b (.inLoop c::k) cs
     cases e with
     | normal=>
       obtain ⟨m,hm,hI₁⟩:=hq
       obtain ⟨e₂,a₂,w₂,hq₂,harr₂⟩:=ih m hm a₁ w₁ hI₁
       exact ⟨e₂,a₂,w₂,hq₂,.of_steps (Steps.trans harr (.one step_inLoop)) harr₂⟩
     | exit id=>exact ⟨_,a₁,w₁,hq,.pass (x:= .inLoop c) rfl (fun _ _=> .inl Zs) harr⟩
     | goto l=>exact ⟨_,a₁,w₁,hq,.pass (x:= .inLoop c) rfl (fun _ _=> .inl Zs) harr⟩
     | ret=>exact ⟨_,a₁,w₁,hq,.pass (x:= .inLoop c) rfl (fun _ _=> .inl Zs) harr⟩
     | panic ch=>exact ⟨_,a₁,w₁,hq,.pass (x:= .inLoop c) rfl (fun _ _=> .inl Zs) harr⟩
     | outgrown=>exact ⟨_,a₁,w₁,hq,.pass (x:= .inLoop c) rfl (fun _ _=> .inl Zs) harr⟩
 obtain ⟨e,a',w',hq,harr⟩:=key _ a w h₀
 exact ⟨e,a',w',hq,.of_steps (.one step_loop) harr⟩
def Zv5 (Pg:Program) (S:Nat->Option Fn) (n:Nat):Prop:=
 ∀(c:Code) (s:SCode) (g:G) (e:Env) (a:Act) (w:World) (x:X) (e':Env),Zd4 Pg g.nt c s=true->exec S n s e=some (x,e')->St g e a w->
  ∀Q:Exit->Act->World->Prop,Done e' g w (Q x.toExit)->c.wp Pg Q a w
theorem Zs2 {S:Nat->Option Fn} (hC: ∀n,Zv5 Pg S n->Zcv Pg (Zja S (exec S n))): ∀n,∀k,k<=n->Zv5 Pg S k:=by
 intro n
 induction n with
 | zero=>
   intro k hk c s g e a w x e' hok hx
   have:k=0:=by omega
   subst this
   simp [exec] at hx
 | succ n ih=>
   intro k hk
   rcases Nat.lt_or_ge k (n+1) with hlt|hge
   · exact ih k Zo
   have:k=n+1:=by omega
   subst this
   have hP:=ih n (Nat.le_refl _)
   intro c s g e a w x e' hok hx hst Q hD
   cases s with
   | gh gg s1=>
     simp only [exec] at hx
     simp only [Zd4] at hok
     obtain ⟨g1,st1,ext1,ω1,T1,nt1⟩:=ZyG hst gg
     exact hP c s1 g1 _ a w x e' (by rw [nt1];exact hok) hx st1 Q (hD.next ext1 ω1 T1 nt1)
   | hg s1 gg=>
     simp only [exec] at hx
     simp only [Zd4] at hok
     split at hx
     · rename_i e1 h1
       simp only [Option.some.injEq,Prod.mk.injEq] at hx
       obtain ⟨rfl,rfl⟩:=hx
       refine hP c s1 g e a w .normal e1 hok h1 hst Q fun g1 a1 w1 st1 ext1 ω1 T1 nt1=>?_
       obtain ⟨g2,st2,ext2,ω2,T2,nt2⟩:=ZyG st1 gg
       have hD1:=hD.next ext1 ω1 T1 nt1
       exact hD1 g2 a1 w1 st2 ext2 ω2 T2 nt2
     · rename_i r hr
       refine hP c s1 g e a w x e' hok hx hst Q hD
   | skip=>
     simp only [exec,Option.some.injEq,Prod.mk.injEq] at hx
     obtain ⟨rfl,rfl⟩:=hx
     have hq:=hD g a w hst (Ext.refl _ _ _ _) rfl rfl rfl
     cases c with
     | skip=>exact wp_skip hq
     | label l=>exact wp_label hq
     | _=>simp [Zd4] at hok
   | region ss=>
     cases c with
     | region id ops draw=>
       simp only [Zd4,Bool.and_eq_true] at hok
       simp only [exec] at hx
       split at hx
       · rename_i e1 h1
         simp only [Option.some.injEq,Prod.mk.injEq] at hx
         obtain ⟨rfl,rfl⟩:=hx
         exact Zo8 (hC n hP) hok.1 (fun hd=>by have:=hok.2;rw [hd] at this;simpa using this) hst rfl h1 hD
       · cases hx
     | _=>simp [Zd4] at hok
   | seq s1 s2=>
     cases c with
     | seq c1 c2=>
       simp only [Zd4,Bool.and_eq_true] at hok
       simp only [exec] at hx
       refine wp_seq ?_
       split at hx
       · rename_i e1 h1
         refine hP c1 s1 g e a w .normal e1 hok.1 h1 hst _ fun g1 a1 w1 st1 ext1 ω1 T1 nt1=>?_
         exact hP c2 s2 g1 e1 a1 w1 x e' (by rw [nt1];exact hok.2) hx st1 Q (hD.next ext1 ω1 T1 nt1)
       · rename_i r hr
         refine hP c1 s1 g e a w x e' hok.1 hx hst _ fun g1 a1 w1 st1 ext1 ω1 T1 nt1=>?_
         have hq:=hD g1 a1 w1 st1 ext1 ω1 T1 nt1
         cases x with
         | normal=>exact absurd hx (fun hh=>hr _ hh)
         | exit id=>exact hq
         | ret=>exact hq
     | scope c1=>
       cases s2 with
       | skip=>
         have hok:Zd4 Pg g.nt c1 s1=true:=by simpa only [Zd4] using hok
         simp only [exec] at hx
         refine wp_scope_straight ?_
         split at hx
         · rename_i e1 h1
           cases n with
           | zero=>simp [exec] at hx
           | succ n=>
             simp only [exec,Option.some.injEq,Prod.mk.injEq] at hx
             obtain ⟨rfl,rfl⟩:=hx
             exact hP c1 s1 g e a w .normal e1 hok h1 hst _ hD
         · rename_i r hr
           refine hP c1 s1 g e a w x e' hok hx hst _ fun g1 a1 w1 st1 ext1 ω1 T1 nt1=>?_
           have hq:=hD g1 a1 w1 st1 ext1 ω1 T1 nt1
           cases x with
           | normal=>exact hq
           | exit id=>exact hq
           | ret=>exact hq
       | _=>simp [Zd4] at hok
     | _=>simp [Zd4] at hok
   | cond y s1 s2=>
     cases c with
     | cond x0 c1 c2=>
       simp only [Zd4,Bool.and_eq_true] at hok
       simp only [exec] at hx
       split at hx
       · rename_i t ht
         have hr:=ZbL hst hok.1.1 0
         rw [ht] at hr
         refine wp_cond (Zjm hr) ?_
         cases t with
         | true=>exact hP c1 s1 g e a w x e' hok.1.2 hx hst Q hD
         | false=>exact hP c2 s2 g e a w x e' hok.2 hx hst Q hD
       · cases hx
     | _=>simp [Zd4] at hok
   | block id s1=>
     cases c with
     | block id' c1=>
       simp only [Zd4,Bool.and_eq_true,beq_iff_eq] at hok
       obtain ⟨rfl,hok⟩:=hok
       simp only [exec] at hx
       refine wp_block ?_
       split at hx
       · rename_i i e1 h1
         refine hP c1 s1 g e a w (.exit i) e1 hok h1 hst _ fun g1 a1 w1 st1 ext1 ω1 T1 nt1=>?_
         split at hx
         · rename_i hi
           simp only [Option.some.injEq,Prod.mk.injEq] at hx
           obtain ⟨rfl,rfl⟩:=hx
           have hi:i=id':=by simpa using hi
           simp only [X.toExit,Exit.inBlock,hi,if_true]
           exact hD g1 a1 w1 st1 ext1 ω1 T1 nt1
         · rename_i hi
           simp only [Option.some.injEq,Prod.mk.injEq] at hx
           obtain ⟨rfl,rfl⟩:=hx
           have hi:i≠id':=by simpa using hi
           simp only [X.toExit,Exit.inBlock,hi,if_false]
           exact hD g1 a1 w1 st1 ext1 ω1 T1 nt1
       · rename_i r hr
         refine hP c1 s1 g e a w x e' hok hx hst _ fun g1 a1 w1 st1 ext1 ω1 T1 nt1=>?_
         have hq:=hD g1 a1 w1 st1 ext1 ω1 T1 nt1
         cases x with
         | normal=>exact hq
         | exit i=>exact absurd hx (fun hh=>hr _ _ hh)
         | ret=>exact hq
     | _=>simp [Zd4] at hok
   | loop live s1=>
     cases c with
     | loop c1=>
       simp only [Zd4] at hok
       let I:Nat->Act->World->Prop:=fun m a w=>m<=n+1/\ ∃g1 e1,g1.nt=g.nt/\exec S m (.loop live s1) e1=some (x,e')/\St g1 e1 a w/\Done e' g1 w (Q x.toExit)
       refine ZuJ I (n:=n+1) (fun m a w hI=>?_) ⟨Nat.le_refl _,g,e,rfl,hx,hst,hD⟩
       obtain ⟨hm,g1,e1,hnt,hx1,st1,hD1⟩:=hI
       cases m with
       | zero=>simp [exec] at hx1
       | succ m=>
         simp only [exec] at hx1
         have st1':=st1.weaken (Env.get_norm e1 live)
         have hPm:=ih m Zo
         split at hx1
         · rename_i e2 h2
           refine hPm c1 s1 g1 _ a w .normal e2 (by rw [hnt];exact hok) h2 st1' _ fun g2 a2 w2 st2 ext2 ω2 T2 nt2=>?_
           exact ⟨m,by omega,by omega,g2,e2,nt2.trans hnt,hx1,st2,hD1.next ext2 ω2 T2 nt2⟩
         · rename_i r hr
           refine hPm c1 s1 g1 _ a w x e' (by rw [hnt];exact hok) hx1 st1' _ fun g2 a2 w2 st2 ext2 ω2 T2 nt2=>?_
           have hq:=hD1 g2 a2 w2 st2 ext2 ω2 T2 nt2
           cases x with
           | normal=>exact absurd hx1 (fun hh=>hr _ hh)
           | exit i=>exact hq
           | ret=>exact hq
     | _=>simp [Zd4] at hok
   | exit id=>
     cases c with
     | exit id'=>
       simp only [Zd4,beq_iff_eq] at hok
       subst hok
       simp only [exec,Option.some.injEq,Prod.mk.injEq] at hx
       obtain ⟨rfl,rfl⟩:=hx
       exact wp_exit (hD g a w hst (Ext.refl _ _ _ _) rfl rfl rfl)
     | _=>simp [Zd4] at hok
   | ret=>
     cases c with
     | ret=>
       simp only [exec,Option.some.injEq,Prod.mk.injEq] at hx
       obtain ⟨rfl,rfl⟩:=hx
       exact wp_ret (hD g a w hst (Ext.refl _ _ _ _) rfl rfl rfl)
     | _=>simp [Zd4] at hok
end Go.Am
end
