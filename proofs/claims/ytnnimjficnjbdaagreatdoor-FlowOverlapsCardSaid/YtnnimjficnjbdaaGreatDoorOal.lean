/- Part. -/
import Derived.Test.YtnnimjficnjbdaaGreatDoorOak
import Derived.Laws.Slices
import Derived.Laws.BytesArg
set_option maxRecDepth 999999
set_option maxHeartbeats 0
set_option linter.all false
section
namespace Go.Am
variable [WI]
variable {Pg:Program}
theorem Zm8 (bs:ByteArray) (l h:Nat):ZbJ (bs.extract l h)=((ZbJ bs).take h).drop l:=by
 simp [ZbJ,ByteArray.data_extract,Array.toList_extract,List.map_take,List.map_drop,List.extract_eq_take_drop,List.drop_take]
theorem RepP.sub {pr:Nat->Nat} {w:World} {a:Option Addr} {len cap s:Nat} {rows:List (List P)} (h:RepP pr w (.slice a len cap) (.sl s rows)) {l m hi:Nat} (h1:l<=hi) (h2:hi<=len) (h3:hi<=m):
   RepP pr w (.slice (if m=l then a else a.map (·.add (l*s))) (hi-l) (m-l)) (.sl s ((rows.take hi).drop l)):=by
 cases h with
 | nils=>
   have:l=0:=by omega
   subst this
   have:hi=0:=by omega
   subst this
   simp
   exact .nils _ _ _
 | sl b o _ _ _ _ vs hl hcap hpr hlen hc hr=>
   rcases Nat.eq_or_lt_of_le h1 with heq|hlt
   · subst heq
     rw [Nat.sub_self,List.drop_eq_nil_of_le Ze]
     exact .nils _ _ _
   · have hm: ¬m=l:=by omega
     rw [if_neg hm]
     simp only [Option.map_some,Addr.add_eq]
     have hle:(l+(hi-l))*s<=len*s:=Nat.mul_le_mul_right _ Zo
     rw [Nat.add_mul] at hle
     refine .sl b (o+l*s) (hi-l) (m-l) s _ (fun i j=>vs (l+i) j) Ze Zo Zo (fun i row hi'=>?_) (fun i j hi' hj=>?_) (fun i row j x hi' hj=>?_)
     · have:i<hi-l:=by have:=Zaq hi';simp at this;omega
       simp [List.getElem?_take,show l+i<hi by omega] at hi'
       exact hlen _ row hi'
     · have:=hc (l+i) j Zo hj
       rw [Nat.add_mul] at this
       rw [<-this];congr 2;omega
     · have:i<hi-l:=by have:=Zaq hi';simp at this;omega
       simp [List.getElem?_take,show l+i<hi by omega] at hi'
       exact hr (l+i) row j x hi' hj
section each
variable {F:ZaQ} {g:G} {e e':Env} {a:Act} {w:World}
theorem Zho {ds:List D} {l:Nat} {r:List D} (h:Zme ds=some (l,r)): ∃n:Int,ds=one (.int .i64 n)::r/\0<=n/\l=n.toNat:=by
 unfold Zme at h
 split at h
 ·rename_i n r'
  split at h
  ·cases h;exact ⟨n,rfl,by assumption,rfl⟩
  ·cases h
 ·cases h
theorem Zfi {lo hi:Bool} {len:Nat} {ds:List D} {l h:Nat} {r':List D} (hb:ZbX lo hi len ds=some (l,h,r')):
  ∃r,(if lo then Zme ds else some (0,ds))=some (l,r)/\(if hi then Zme r else some (len,r))=some (h,r')/\l<=h/\h<=len:=by
 unfold ZbX at hb
 split at hb
 ·cases hb
 ·rename_i l' r h1
  split at hb
  ·cases hb
  ·rename_i h' r2 h2
   split at hb
   ·rename_i hle
    cases hb
    exact ⟨r,h1,h2,hle.1,hle.2⟩
   ·cases hb
theorem Zq3 {len:Nat} {r:List D} {l h:Nat} {r':List D} (hb:ZbX true true len r=some (l,h,r')):
  ∃n m:Int,r=one (.int .i64 n)::one (.int .i64 m)::r'/\0<=n/\0<=m/\l=n.toNat/\h=m.toNat/\l<=h/\h<=len:=by
 obtain ⟨r1,h1,h2,h3,h4⟩:=Zfi hb
 obtain ⟨n,rfl,n0,rfl⟩:=Zho (by simpa using h1)
 obtain ⟨m,rfl,m0,rfl⟩:=Zho (by simpa using h2)
 exact ⟨n,m,rfl,n0,m0,rfl,rfl,h3,h4⟩
theorem ZrC {len:Nat} {r:List D} {l h:Nat} {r':List D} (hb:ZbX true false len r=some (l,h,r')):
  ∃n:Int,r=one (.int .i64 n)::r'/\0<=n/\l=n.toNat/\h=len/\l<=h:=by
 obtain ⟨r1,h1,h2,h3,h4⟩:=Zfi hb
 obtain ⟨n,rfl,n0,rfl⟩:=Zho (by simpa using h1)
 simp only [Bool.false_eq_true,if_false,Option.some.injEq,Prod.mk.injEq] at h2
 obtain ⟨rfl,rfl⟩:=h2
 exact ⟨n,rfl,n0,rfl,rfl,h3⟩
theorem ZrA {len:Nat} {r:List D} {l h:Nat} {r':List D} (hb:ZbX false true len r=some (l,h,r')):
  ∃m:Int,r=one (.int .i64 m)::r'/\0<=m/\l=0/\h=m.toNat/\h<=len:=by
 obtain ⟨r1,h1,h2,h3,h4⟩:=Zfi hb
 simp only [Bool.false_eq_true,if_false,Option.some.injEq,Prod.mk.injEq] at h1
 obtain ⟨rfl,rfl⟩:=h1
 obtain ⟨m,rfl,m0,rfl⟩:=Zho (by simpa using h2)
 exact ⟨m,rfl,m0,rfl,rfl,h4⟩
theorem Zrl {len:Nat} {r:List D} {l h:Nat} {r':List D} (hb:ZbX false false len r=some (l,h,r')):r=r'/\l=0/\h=len:=by
 obtain ⟨r1,h1,h2,h3,h4⟩:=Zfi hb
 simp only [Bool.false_eq_true,if_false,Option.some.injEq,Prod.mk.injEq] at h1 h2
 obtain ⟨rfl,rfl⟩:=h1
 obtain ⟨rfl,rfl⟩:=h2
 exact ⟨rfl,rfl,rfl⟩
theorem ZkC {x:Operand} {ys:List Arg} (h:Zeo [x] ys=true): ∃z,ys=[z]/\Zcl x z=true:=by
 cases ys with
 | nil=>cases h
 | cons z r=>
   cases r with
   | nil=>simp only [Zeo,Bool.and_true] at h;exact ⟨z,rfl,h⟩
   | cons _ _=>simp [Zeo] at h
theorem Zsp {x y:Operand} {ys:List Arg} (h:Zeo [x,y] ys=true): ∃z z',ys=[z,z']/\Zcl x z=true/\Zcl y z'=true:=by
 cases ys with
 | nil=>cases h
 | cons z r=>
   simp only [Zeo,Bool.and_eq_true] at h
   obtain ⟨z',rfl,h'⟩:=ZkC (ys:=r) (by simpa [Zeo] using h.2)
   exact ⟨z,z',rfl,h.1,h'⟩
theorem ZjH {g:G} {e:Env} {a:Act} {w:World} (h:St g e a w) {x:Operand} {y:Arg} (hx:Zcl x y=true) {n:Int} (hn:Zbl e [] y=one (.int .i64 n)):a.eval x= .int .i64 n:=by
 have:=ZbL h hx 0
 rw [hn] at this
 exact Zei this
theorem ZlF (h:St g e a w) (isSlice:Bool) (len cap:Nat) (hcap:len<=cap) (lo hi:Option Operand) (ys:List Arg) (ho:Zeo (lo.toList++hi.toList) ys=true)
   {l h':Nat} (hb:ZbX lo.isSome hi.isSome len (ys.map (Zbl e []))=some (l,h',[])):
   (Instr.sliceBounds isSlice len cap (lo.map a.eval) (hi.map a.eval) none).run Pg w= .ok (l,h',cap) w/\l<=h'/\h'<=len:=by
 cases lo with
 | none=>
   cases hi with
   | none=>
     obtain ⟨q1,rfl,rfl⟩:=Zrl hb
     exact ⟨by simp [Instr.sliceBounds],Nat.zero_le _,Nat.le_refl _⟩
   | some y=>
     obtain ⟨m,q1,q2,rfl,rfl,q3⟩:=ZrA hb
     obtain ⟨z,rfl,hoz⟩:=ZkC ho
     simp only [List.map_cons,List.map_nil,List.cons.injEq,and_true] at q1
     have:=ZjH h hoz q1
     refine ⟨?_,Nat.zero_le _,q3⟩
     have hm:m<=(cap:Int):=by omega
     simp [Instr.sliceBounds,this,run_sliceBound w _ _ _ _ q2 hm]
 | some x=>
   cases hi with
   | none=>
     obtain ⟨n,q1,q2,rfl,hl,q3⟩:=ZrC hb
     subst hl
     obtain ⟨z,rfl,hoz⟩:=ZkC ho
     simp only [List.map_cons,List.map_nil,List.cons.injEq,and_true] at q1
     have:=ZjH h hoz q1
     refine ⟨?_,q3,Nat.le_refl _⟩
     have hm:n<=(h':Int):=by omega
     simp [Instr.sliceBounds,this,run_sliceBound w _ _ _ _ q2 hm]
   | some y=>
     obtain ⟨n,m,q1,q2,q3,rfl,rfl,q4,q5⟩:=Zq3 hb
     obtain ⟨z,z',rfl,o1,o2⟩:=Zsp ho
     simp only [List.map_cons,List.map_nil,List.cons.injEq,and_true] at q1
     have e1:=ZjH h o1 q1.1
     have e2:=ZjH h o2 q1.2
     refine ⟨?_,q4,q5⟩
     have hm:m<=(cap:Int):=by omega
     have hn:n<=((m.toNat:Nat):Int):=by omega
     simp [Instr.sliceBounds,e1,e2,run_sliceBound w _ _ _ _ q3 hm,run_sliceBound w _ _ _ _ q2 hn]
def ZpW (Pg:Program) (lo hi:Bool) (o:Oper) (s:SOp) (nt:Nat):Bool:=
 Zie o s nt && match o.op,s.ins with
 | .slice t x l h none,y::ys=>Zcl x y && Zeo (l.toList++h.toList) ys && l.isSome==lo && h.isSome==hi && (match Pg.underlying t with|some .string=>true|_=>false)
 | _,_=>false
theorem Zui (h:St g e a w) {o:Oper} {s:SOp} {lo hi:Bool} (hk:s.kind= .sliceS lo hi) (ho:ZpW Pg lo hi o s g.nt=true) (hd:doOp F s e=some e'):OpOut Pg o a w g e':=by
 unfold ZpW at ho
 rw [Bool.and_eq_true] at ho
 refine Zer h ho.1 hd fun d hx=>?_
 have ho2:=ho.2
 rw [hk] at hx
 split at ho2
 ·rename_i t x l h' y ys hop hins
  simp only [Bool.and_eq_true,beq_iff_eq] at ho2
  obtain ⟨⟨⟨⟨o1,o2⟩,rfl⟩,rfl⟩,o3⟩:=ho2
  have hu:Pg.underlying t=some .string:=by
   split at o3
   ·assumption
   ·cases o3
  rw [hins] at hx
  simp only [List.map_cons,ZaI] at hx
  unfold Zku at hx
  split at hx
  ·rename_i tx r heq
   simp only [List.cons.injEq] at heq
   obtain ⟨q1,rfl⟩:=heq
   split at hx
   ·rename_i l' h2 hb
    simp only [Zx5,and_true] at hx
    subst hx
    have hv:=ZbL h o1 0
    rw [q1] at hv
    obtain ⟨bs,hvv,rfl⟩:=ZoC hv
    rw [Ze7] at hb
    obtain ⟨hr,b1,b2⟩:=ZlF (Pg:=Pg) h false bs.size bs.size (Nat.le_refl _) l h' ys o2 hb
    refine ⟨.string (bs.extract l' h2),?_,fun k=>RepP.str _ _ (Zm8 bs l' h2)⟩
    simp only [execOp,hop,hvv]
    rw [Zaw]
    simp only [Option.map_none]
    rw [run_sliceAt_string _ _ _ _ _ _ hu]
    simp only [Instr.slice,Sem.run_bind,run_underlying hu,Result.andThen_ok,Option.isSome_none,Bool.false_eq_true,if_false,hr,Sem.run_pure]
   ·cases hx
  ·cases hx
 ·cases ho2
def Zs3 (Pg:Program) (z:Nat) (lo hi mx:Bool) (o:Oper) (s:SOp) (nt:Nat):Bool:=
 Zie o s nt && match o.op,s.ins with
 | .slice t x l h none,y::ys=>Zcl x y && Zeo (l.toList++h.toList) ys && l.isSome==lo && h.isSome==hi && mx==false && ZpD Pg t z
 | .slice t x none (some h) (some m),[y,y1,y2]=>Zcl x y && Zcl h y1 && Zcl m y2 && lo==false && hi==true && mx==true && ZpD Pg t z
 | _,_=>false
theorem ZwP (h:St g e a w) {o:Oper} {s:SOp} {z:Nat} {lo hi mx:Bool} (hk:s.kind= .slice z lo hi mx) (ho:Zs3 Pg z lo hi mx o s g.nt=true) (hd:doOp F s e=some e'):OpOut Pg o a w g e':=by
 unfold Zs3 at ho
 rw [Bool.and_eq_true] at ho
 refine Zer h ho.1 hd fun d hx=>?_
 have ho2:=ho.2
 rw [hk] at hx
 split at ho2
 ·rename_i t x l h' y ys hop hins
  simp only [Bool.and_eq_true,beq_iff_eq] at ho2
  obtain ⟨⟨⟨⟨⟨o1,o2⟩,rfl⟩,rfl⟩,rfl⟩,o3⟩:=ho2
  obtain ⟨el,inf,u1,u2,u3,u4⟩:=ZfK o3
  rw [hins] at hx
  simp only [List.map_cons,ZaI] at hx
  unfold Zh5 at hx
  split at hx
  ·rename_i c r heq
   simp only [List.cons.injEq] at heq
   obtain ⟨q1,rfl⟩:=heq
   split at hx
   ·rename_i s' rows hrows
    split at hx
    ·rename_i hs
     subst hs
     have hv:=ZbL h o1 0
     rw [q1] at hv
     have hrep:=ZhO hv hrows
     obtain ⟨ad,cap,hv',hcap⟩:=hrep.slice_inv
     rw [hv'] at hrep
     have hcap':rows.length<=cap:=by
      rcases hcap with rfl|hcap
      ·simp
      ·exact hcap
     have fin: ∀l' h2,ZbX l.isSome h'.isSome rows.length (ys.map (Zbl e []))=some (l',h2,[])-> ∃v,(execOp a.eval o).run Pg w= .ok (.value v) w/\ ∀k,RepD g w k v (one (.sl s' ((rows.take h2).drop l'))):=by
      intro l' h2 hb
      obtain ⟨hr,b1,b2⟩:=ZlF (Pg:=Pg) h true rows.length cap hcap' l h' ys o2 hb
      refine ⟨_,?_,fun k=>hrep.sub (m:=cap) b1 b2 Zo⟩
      simp only [execOp,hop,hv']
      rw [Zaw]
      simp only [Option.map_none]
      simp [Instr.sliceAt,Instr.slice,run_underlying u1,hr,sizeOf,typeInfo,u2,u3]
     split at hx
     ·rename_i l' h2 hb
      simp only [Bool.false_eq_true,if_false,Option.some.injEq,List.cons.injEq,and_true] at hx
      subst hx
      exact fin l' h2 hb
     ·simp at hx
     ·cases hx
    ·cases hx
   ·cases hx
  ·cases hx
 ·rename_i t x h' m' y y1 y2 hop hins
  simp only [Bool.and_eq_true,beq_iff_eq] at ho2
  obtain ⟨⟨⟨⟨⟨⟨o1,o2⟩,o3'⟩,rfl⟩,rfl⟩,rfl⟩,o3⟩:=ho2
  obtain ⟨el,inf,u1,u2,u3,u4⟩:=ZfK o3
  rw [hins] at hx
  simp only [List.map_cons,List.map_nil,ZaI] at hx
  unfold Zh5 at hx
  split at hx
  ·rename_i c r heq
   simp only [List.cons.injEq] at heq
   obtain ⟨q1,rfl⟩:=heq
   split at hx
   ·rename_i s' rows hrows
    split at hx
    ·rename_i hs
     subst hs
     have hv:=ZbL h o1 0
     rw [q1] at hv
     have hrep:=ZhO hv hrows
     obtain ⟨ad,cap,hv',hcap⟩:=hrep.slice_inv
     rw [hv'] at hrep
     have hcap':rows.length<=cap:=by
      rcases hcap with rfl|hcap
      ·simp
      ·exact hcap
     split at hx
     ·simp at hx
     ·rename_i l' h2 n hb
      split at hx
      ·rename_i hc
       obtain ⟨_,hc1,hc2⟩:=hc
       simp only [Zx5,and_true] at hx
       subst hx
       have hb2: ∃k:Int,Zbl e [] y1= .a (.one (.p (.int .i64 k)))/\0<=k/\l'=0/\h2=k.toNat/\Zbl e [] y2= .a (.one (.p (.int .i64 n)))/\h2<=rows.length:=by
        unfold ZbX at hb
        simp only [Bool.false_eq_true,if_false,if_true] at hb
        split at hb
        ·cases hb
        ·rename_i h3 r3 hp
         split at hb
         ·rename_i hle
          simp only [Option.some.injEq,Prod.mk.injEq] at hb
          obtain ⟨rfl,rfl,rfl⟩:=hb
          unfold Zme at hp
          split at hp
          ·rename_i k r4 heq4
           simp only [List.cons.injEq] at heq4
           split at hp
           ·rename_i hk0
            simp only [Option.some.injEq,Prod.mk.injEq] at hp
            obtain ⟨rfl,rfl⟩:=hp
            simp only [List.cons.injEq,and_true] at heq4
            exact ⟨k,heq4.1,hk0,rfl,rfl,heq4.2,hle.2⟩
           ·cases hp
          ·cases hp
         ·cases hb
       obtain ⟨k,e1,k0,rfl,rfl,e2,k1⟩:=hb2
       have v1:=ZjH h o2 e1
       have v2:=ZjH h o3' e2
       have hn0:0<=n:=by omega
       have hn1:n<=(cap:Int):=by omega
       have hk1:k<=((n.toNat:Nat):Int):=by omega
       have hs:=hrep.sub (l:=0) (m:=n.toNat) (Nat.zero_le _) k1 Zo
       refine ⟨_,?_,fun kk=>show RepC g w (kk,0,0) (.slice (if n.toNat=0 then ad else ad.map (·.add (0*s'))) (k.toNat-0) (n.toNat-0)) _ from ?_⟩
       rotate_left
       ·by_cases hkn:((k.toNat:Nat):Int)=n
        ·rw [if_pos hkn]
         have q1:((rows.take k.toNat).drop 0).length=k.toNat:=by simp;omega
         exact ⟨hs,(if n.toNat=0 then ad else ad.map (·.add (0*s'))),n.toNat,by rw [q1,Nat.sub_zero,Nat.sub_zero],.inl (by rw [q1];omega)⟩
        ·rw [if_neg hkn]
         exact hs
       simp only [execOp,hop,hv']
       rw [Zaw]
       simp only [Option.map_none,Option.map_some]
       simp [Instr.sliceAt,Instr.slice,run_underlying u1,sizeOf,typeInfo,u2,u3,Instr.sliceBounds,v1,v2,run_sliceBound w _ _ _ _ hn0 hn1,run_sliceBound w _ _ _ _ k0 hk1]
      ·cases hx
     ·cases hx
    ·cases hx
   ·cases hx
  ·cases hx
 ·cases ho2
end each
end Go.Am
end
section
namespace Go.Am
variable [WI]
variable {Pg:Program}
theorem ZkG: ∀(rows:List (List P)) (t:List Nat),ZhC rows=some t-> ∃xs:List Int,rows=xs.map (fun n=>[P.int .u8 n])/\t=xs.map Int.toNat/\ ∀n∈xs,0<=n/\n<256
 | [],t,h=>by simp [ZhC] at h;subst h;exact ⟨[],rfl,rfl,fun _ h=>by cases h⟩
 | row::rows,t,h=>by
   unfold ZhC at h
   split at h
   · rename_i heq;cases heq
   · rename_i n r heq
     simp only [List.cons.injEq] at heq
     obtain ⟨rfl,rfl⟩:=heq
     split at h
     · rename_i hn
       split at h
       · rename_i t' ht
         cases h
         obtain ⟨xs,rfl,rfl,hx⟩:=ZkG _ _ ht
         exact ⟨n::xs,rfl,rfl,fun m hm=>by
           rcases List.mem_cons.1 hm with rfl|hm
           · exact hn
           · exact hx m hm⟩
       · cases h
     · cases h
   · cases h
theorem ZlM {xs:List Int} (h: ∀n∈xs,0<=n/\n<256):ZbJ (strOfNums xs)=xs.map Int.toNat:=by
 unfold ZbJ
 rw [strOfNums_data,List.map_map]
 apply List.map_congr_left
 intro n hn
 obtain ⟨h1,h2⟩:=h n hn
 simp only [Function.comp,UInt8.toNat_ofNat']
 omega
section each
variable {F:ZaQ} {g:G} {e e':Env} {a:Act} {w:World}
def Zp5 (Pg:Program) (o:Oper) (s:SOp) (nt:Nat):Bool:=
 Zie o s nt && match o.op with
 | .convert t t' x=>ok1 x s && (match Pg.underlying t with
   | some (.slice el)=>(match Pg.underlying el,Pg.underlying t' with
     | some (.int .u8),some .string=>true
     | _,_=>false)
   | _=>false)
 | _=>false
theorem Zu9 (h:St g e a w) {o:Oper} {s:SOp} (hk:s.kind= .convBS) (ho:Zp5 Pg o s g.nt=true) (hd:doOp F s e=some e'):OpOut Pg o a w g e':=by
 unfold Zp5 at ho
 rw [Bool.and_eq_true] at ho
 refine Zer h ho.1 hd fun d hx=>?_
 have ho2:=ho.2
 rw [hk] at hx
 split at ho2
 · rename_i t t' x hop
   rw [Bool.and_eq_true] at ho2
   obtain ⟨o1,o2⟩:=ho2
   split at o2
   · rename_i el u1
     split at o2
     · rename_i u2 u3
       obtain ⟨d',h1,h2⟩:=Zhy h o1
       rw [h1] at hx
       simp only [ZaI] at hx
       unfold ZiX at hx
       split at hx
       · rename_i c heq
         simp only [List.cons.injEq,and_true] at heq
         subst heq
         split at hx
         · rename_i rows hrows
           split at hx
           · rename_i tx htx
             simp only [Zx5,and_true] at hx
             subst hx
             have hrep:=ZhO (h2 0) hrows
             obtain ⟨ad,cap,hv,_⟩:=hrep.slice_inv
             rw [hv] at hrep
             obtain ⟨xs,rfl,rfl,hxs⟩:=ZkG _ _ htx
             refine ⟨.string (strOfNums xs),?_,fun k=>RepP.str _ _ (ZlM hxs)⟩
             simp only [execOp,hop,hv]
             rw [Zaw]
             have hrun:(convert t t' (.slice ad (List.map (fun n=>[P.int .u8 n]) xs).length cap)).run Pg w= .ok (.string (strOfNums xs)) w:=by
               rw [List.length_map] at hrep⊢
               cases ad with
               | none=>
                 have:xs=[]:=by
                   cases xs with
                   | nil=>rfl
                   | cons n r=>obtain ⟨_,_,hno,_⟩:=hrep.row (i:=0) rfl;cases hno
                 subst this
                 exact run_convert_bytes_nil w t el u1 u2 _ _ t' u3
               | some ad=>
                 rcases List.eq_nil_or_concat xs with rfl|hne
                 · cases ad with
                   | mk b off spot=>
                     simp [convert,run_underlying u1,run_underlying u2,run_underlying u3,Conv.bytesToString,loadCells,loadCellsFrom,strOfNums]
                     rfl
                 · have hpos:0<xs.length:=by obtain ⟨l,b,rfl⟩:=hne;simp
                   obtain ⟨b,off,hb,_,_,_,_⟩:=hrep.row (i:=0) (row:=[P.int .u8 xs[0]]) (by rw [List.getElem?_map,List.getElem?_eq_getElem hpos];rfl)
                   cases hb
                   refine run_convert_bytes_arg w t el u1 u2 b off _ cap xs rfl (fun i hi=>?_) t' u3
                   obtain ⟨b',off',hb',_,_,hrow,_⟩:=hrep.row (i:=i) (row:=[P.int .u8 xs[i]]) (by rw [List.getElem?_map,List.getElem?_eq_getElem hi];rfl)
                   cases hb'
                   obtain ⟨v,hv1,hv2⟩:=hrow 0 (.int .u8 xs[i]) rfl
                   cases hv2
                   rw [Nat.add_zero,Nat.mul_one] at hv1
                   rw [hv1,List.getD,List.getElem?_eq_getElem hi]
                   rfl
             rw [hrun,Result.andThen_ok]
           · cases hx
         · cases hx
       · cases hx
     · cases o2
   · cases o2
 · cases ho2
def Zj0:List Value->List C->Bool
 | [],[]=>true
 | v::vs,c::cs=>ZfU v c && Zj0 vs cs
 | _,_=>false
theorem Zmr: ∀(vs:List Value) (cs:List C),Zj0 vs cs=true->vs.length=cs.length/\ ∀(i:Nat) u x,vs[i]? =some u->cs[i]? =some x->ZfU u x=true
 | [],[],_=>⟨rfl,fun i u x hu=>by simp at hu⟩
 | v::vs,y::cs,h=>by
   simp only [Zj0,Bool.and_eq_true] at h
   obtain ⟨i1,i2⟩:=Zmr vs cs h.2
   refine ⟨by simp [i1],fun i u x hu hx=>?_⟩
   cases i with
   | zero=>simp at hu hx;subst hu;subst hx;exact h.1
   | succ i=>exact i2 i u x (by simpa using hu) (by simpa using hx)
 | [],_::_,h=>by cases h
 | _::_,[],h=>by cases h
theorem ZfH (g:G) (w:World) (k c:Nat) (vs:List Value) (cs:List C) (h:Zj0 vs cs=true):RepCells g w k c vs cs:=by
 obtain ⟨h1,h2⟩:=Zmr vs cs h
 exact ⟨h1,fun i u x hu hx=>Zds (h2 i u x hu hx) _ _ _⟩
def Zrz (Pg:Program) (t:TypeId) (z:List C):Bool:=
 match Pg.info? t with
 | some i=>match i.zero with
   | some v=>Zj0 v.cells.toList z
   | none=>false
 | none=>false
def ZkF (Pg:Program) (fs:Array Field):List (Nat×Operand)->List (Nat×Nat)->List Arg->Bool
 | [],[],[]=>true
 | (i,x)::ps,(off,n)::offs,y::ys=>(match fs[i]? with
   | some fd=>fd.offset==off && (Pg.info? fd.type).map (·.size)==some n
   | none=>false) && Zcl x y && ZkF Pg fs ps offs ys
 | _,_,_=>false
def Zsz (Pg:Program) (z:List C) (offs:List (Nat×Nat)) (o:Oper) (s:SOp) (nt:Nat):Bool:=
 Zie o s nt && match o.op with
 | .build t ps=>Zrz Pg t z && (match Pg.underlying t with
   | some (.struct fs)=>fs.all (fun fd=>(Pg.info? fd.type).isSome) && ZkF Pg fs ps.toList offs s.ins
   | _=>false)
 | _=>false
theorem ZgW {l xs l':List C} {off:Nat} (h:put l off xs=some l'):off+xs.length<=l.length/\l'=l.take off++xs++l.drop (off+xs.length):=by
 unfold put at h
 split at h
 ·rename_i hle;cases h;exact ⟨hle,rfl⟩
 ·cases h
theorem Zyb {l xs:List C} {off:Nat} (h:off+xs.length<=l.length) (i:Nat):
  (l.take off++xs++l.drop (off+xs.length))[i]? =if off<=i/\i<off+xs.length then xs[i-off]? else l[i]? :=by
 have hm:(l.take off).length=off:=by rw [List.length_take];omega
 rcases Nat.lt_or_ge i off with h1|h1
 ·rw [if_neg Zo,List.append_assoc,List.getElem?_append_left Zo,List.getElem?_take,if_pos h1]
 ·rcases Nat.lt_or_ge i (off+xs.length) with h2|h2
  ·rw [if_pos ⟨h1,h2⟩,List.append_assoc,List.getElem?_append_right Zo,hm,List.getElem?_append_left Zo]
  ·rw [if_neg Zo,List.append_assoc,List.getElem?_append_right Zo,hm,List.getElem?_append_right Zo,List.getElem?_drop]
   congr 1
   omega
theorem Znw (vs:List Value): ∀(cells:Array Value) (off k:Nat),off+k+vs.length<=cells.size->
   ∀i,((vs.zipIdx k).foldl (fun cs (c,j)=>cs.setIfInBounds (off+j) c) cells)[i]? =if off+k<=i/\i<off+k+vs.length then vs[i-(off+k)]? else cells[i]? :=by
 induction vs with
 | nil=>
   intro cells off k _ i
   have: ¬(off+k<=i/\i<off+k+([]:List Value).length):=by simp only [List.length_nil];omega
   rw [if_neg this];simp
 | cons v vs ih=>
   intro cells off k hl i
   simp only [List.length_cons] at hl
   simp only [List.zipIdx_cons,List.foldl_cons]
   rw [ih (cells.setIfInBounds (off+k) v) off (k+1) Ze i]
   by_cases h0:i=off+k
   · subst h0
     have: ¬(off+(k+1)<=off+k/\off+k<off+(k+1)+vs.length):=by omega
     rw [if_neg this,if_pos Zs]
     simp [show off+k<cells.size by omega]
   · by_cases h1:off+(k+1)<=i/\i<off+(k+1)+vs.length
     · rw [if_pos h1,if_pos Ze]
       rw [show i-(off+k)=(i-(off+(k+1)))+1 by omega]
       rfl
     · rw [if_neg h1,if_neg Ze]
       simp [Array.getElem?_setIfInBounds,Ne.symm h0]
theorem Zf4 (vs:List (Value×Nat)): ∀(cells:Array Value) (off:Nat),(vs.foldl (fun cs (c,j)=>cs.setIfInBounds (off+j) c) cells).size=cells.size:=by
 induction vs with
 | nil=>intro cells off;rfl
 | cons v vs ih=>intro cells off;simp only [List.foldl_cons];rw [ih];simp
theorem RepCells.put {g:G} {w:World} {k c:Nat} {cells cells':List Value} {cs cs':List C} {vs:List Value} {xs:List C} {off:Nat} (h:RepCells g w k c cells cs)
  (hx:vs.length=xs.length/\ ∀(i:Nat) u x,vs[i]? =some u->xs[i]? =some x->RepC g w (k,c,off+i) u x) (hp:Am.put cs off xs=some cs')
  (hl:cells'.length=cells.length) (hg: ∀i,cells'[i]? =if off<=i/\i<off+vs.length then vs[i-off]? else cells[i]?):RepCells g w k c cells' cs':=by
 obtain ⟨p1,rfl⟩:=ZgW hp
 refine ⟨by rw [hl,h.1];simp;omega,fun i u x hu hx'=>?_⟩
 rw [hg] at hu
 rw [Zyb p1] at hx'
 rw [hx.1] at hu
 split at hu
 ·rename_i hi
  rw [if_pos hi] at hx'
  have:=hx.2 (i-off) u x hu hx'
  rwa [show off+(i-off)=i by omega] at this
 ·rename_i hi
  rw [if_neg hi] at hx'
  exact h.2 i u x hu hx'
theorem RepA.cells {g:G} {w:World} {k c:Nat} {v:Value} {x:A} (h:RepA g w k c v x):RepCells g w k c v.cells.toList x.cells:=by
 cases x with
 | one y=>
   have:=(RepC.not_agg h).1
   rw [this]
   exact ⟨rfl,fun i u z hu hz=>by
     cases i with
     | zero=>simp [A.cells] at hu hz;subst hu;subst hz;exact h
     | succ i=>simp [A.cells] at hz⟩
 | agg cs=>obtain ⟨vs,rfl,hc⟩:=h;exact hc
theorem ZjG (e:Env) (y:Arg) {c:C}: ∀{x:A},Zbl e [] y= .a x->(match y with| .k _=>True| .c _=>False)->c∈x.cells->c.held=false:=by
 intro x hx hy hc
 cases y with
 | c _=>exact hy.elim
 | k n=>
   simp only [Zbl,List.elem_eq_mem,List.not_mem_nil,decide_false,Bool.false_eq_true,if_false] at hx
   cases he:e.get n with
   | a z=>
     rw [he] at hx
     simp [D.plain] at hx
     subst hx
     cases z with
     | one q=>simp [A.plain,A.cells] at hc;subst hc;exact Zc1 _
     | agg cs=>simp [A.plain,A.cells] at hc;obtain ⟨q,_,rfl⟩:=hc;exact Zc1 _
   | _=>rw [he] at hx;simp [D.plain] at hx
theorem ZqE {g:G} {e:Env} {a:Act} {w:World} (h:St g e a w) {x:Operand} {y:Arg} (hx:Zcl x y=true) {z:A} (hz:Zbl e [] y= .a z) (k c off:Nat):
   (a.eval x).cells.toList.length=z.cells.length/\ ∀(i:Nat) u q,(a.eval x).cells.toList[i]? =some u->z.cells[i]? =some q->RepC g w (k,c,off+i) u q:=by
 have h0:=ZbL h hx 0
 rw [hz] at h0
 have hc:RepCells g w 0 0 (a.eval x).cells.toList z.cells:=RepA.cells h0
 refine ⟨hc.1,fun i u q hu hq=>?_⟩
 cases y with
 | k n=>
   exact (hc.2 i u q hu hq).any (ZjG e (.k n) hz trivial (List.mem_of_getElem? hq))
 | c y=>
   simp only [Zbl,D.a.injEq] at hz
   subst hz
   have:i=0:=by
     cases i with
     | zero=>rfl
     | succ i=>simp [A.cells] at hq
   subst this
   simp [A.cells] at hq
   subst hq
   unfold Zcl at hx
   split at hx
   · cases ‹Arg.c y=Arg.k _›
   · rename_i v c' heq
     cases heq
     have:=Zds hx g w (k,c,off+0)
     have hna:=(RepC.not_agg this).1
     change v.cells.toList[0]? =some u at hu
     rw [hna] at hu
     simp at hu
     subst hu
     exact this
   · rename_i f f' heq
     cases heq
     simp at hx
     subst hx
     simp [Act.eval,Value.cells] at hu
     subst hu
     rfl
   · cases hx
theorem Zpw {g:G} {e:Env} {a:Act} {w:World} (h:St g e a w) (fs:Array Field) (places:Array (Nat×Nat)) (hpl: ∀(i:Nat) (fd:Field) (n:Nat),fs[i]? =some fd->(Pg.info? fd.type).map (·.size)=some n->places[i]? =some (fd.offset,n)) (k:Nat):
   ∀(ps:List (Nat×Operand)) (offs:List (Nat×Nat)) (ys:List Arg) (cells:Array Value) (z cs:List C),ZkF Pg fs ps offs ys=true->RepCells g w k 0 cells.toList z->Ze4 z offs (ys.map (Zbl e []))=some cs->
     ∃cells',Instr.fill (places[·]?) cells (ps.map fun (i,x)=>(i,a.eval x))=some cells'/\RepCells g w k 0 cells'.toList cs
 | [],[],[],cells,z,cs,_,hz,hf=>by simp [Ze4] at hf;subst hf;exact ⟨cells,rfl,hz⟩
 | (i,x)::ps,(off,n)::offs,y::ys,cells,z,cs,ho,hz,hf=>by
   simp only [ZkF,Bool.and_eq_true] at ho
   obtain ⟨⟨o1,o2⟩,o3⟩:=ho
   split at o1
   · rename_i fd hfd
     simp only [Bool.and_eq_true,beq_iff_eq] at o1
     obtain ⟨rfl,hn⟩:=o1
     simp only [List.map_cons] at hf
     unfold Ze4 at hf
     split at hf
     · rename_i heq;cases heq
     · rename_i o' n' os' q r heq1 heq2
       simp only [List.cons.injEq,Prod.mk.injEq] at heq1 heq2
       obtain ⟨⟨rfl,rfl⟩,rfl⟩:=heq1
       obtain ⟨q1,rfl⟩:=heq2
       split at hf
       · rename_i hlen
         split at hf
         · rename_i z' hz'
           obtain ⟨c1,c2⟩:=ZqE h o2 q1 k 0 fd.offset
           obtain ⟨p1,p2⟩:=ZgW hz'
           have hsz:(a.eval x).cells.size=n:=by rw [<-hlen,<-c1];simp
           have hcs:cells.size=z.length:=by rw [<-hz.1];simp
           have hcells:=RepCells.put (cells':=((a.eval x).cells.zipIdx.foldl (fun cs (c,j)=>cs.setIfInBounds (fd.offset+j) c) cells).toList) hz ⟨c1,c2⟩ hz' (by
               rw [<-Array.foldl_toList];simp [Zf4]) (fun i'=>by
               rw [<-Array.foldl_toList,Array.toList_zipIdx,Array.getElem?_toList]
               have:=Znw (a.eval x).cells.toList cells fd.offset 0 Ze i'
               simp only [Nat.add_zero] at this
               rw [this]
               simp)
           obtain ⟨cells',f1,f2⟩:=Zpw h fs places hpl k ps offs ys _ z' cs o3 hcells hf
           refine ⟨cells',?_,f2⟩
           simp only [List.map_cons,Instr.fill,hpl i fd n hfd hn]
           have hcond: ¬((a.eval x).cells.size≠n∨fd.offset+(a.eval x).cells.size>cells.size):=by
             rw [hsz];omega
           simp only [ne_eq,Bool.or_eq_true,decide_eq_true_eq]
           rw [if_neg (by simpa using hcond)]
           exact f1
         · cases hf
       · cases hf
     · cases hf
   · cases o1
 | [],[],_::_,_,_,_,ho,_,_=>by cases ho
 | [],_::_,_,_,_,_,ho,_,_=>by cases ho
 | _::_,[],_,_,_,_,ho,_,_=>by cases ho
 | _::_,_::_,[],_,_,_,ho,_,_=>by cases ho
theorem ZnW (fs:List Field) (hs: ∀fd∈fs,(Pg.info? fd.type).isSome=true): ∃pl:List (Nat×Nat),(List.mapM (fun (f:Field)=>do pure (f.offset,<-sizeOf f.type)) fs:Sem (List (Nat×Nat))).run Pg w= .ok pl w/\
   pl.length=fs.length/\ ∀(i:Nat) (fd:Field) (n:Nat),fs[i]? =some fd->(Pg.info? fd.type).map (·.size)=some n->pl[i]? =some (fd.offset,n):=by
 induction fs with
 | nil=>exact ⟨[],by simp,rfl,fun i fd n h=>by simp at h⟩
 | cons f r ih=>
   obtain ⟨pl,h1,hl,h2⟩:=ih (fun fd hm=>hs fd (by simp [hm]))
   have hf:=hs f Zs
   cases hi:Pg.info? f.type with
   | none=>rw [hi] at hf;cases hf
   | some i=>
     refine ⟨(f.offset,i.size)::pl,?_,by simp [hl],fun j fd n hj hn=>?_⟩
     · simp only [List.mapM_cons,Sem.run_bind,Sem.run_pure,sizeOf,typeInfo,run_program,hi,Result.andThen_ok]
       simp only [sizeOf,typeInfo] at h1
       rw [h1];rfl
     · cases j with
       | zero=>simp at hj;subst hj;rw [hi] at hn;simp at hn;subst hn;rfl
       | succ j=>simp at hj⊢;exact h2 j fd n hj hn
theorem Zcs {t:TypeId} {i:TypeInfo} {v:Value} (hi:Pg.info? t=some i) (hz:i.zero=some v) (w:World):(zeroValue t).run Pg w= .ok v w:=by
 simp [zeroValue,typeInfo,hi,hz]
theorem ZwT (h:St g e a w) {o:Oper} {s:SOp} {z:List C} {offs:List (Nat×Nat)} (hk:s.kind= .build z offs) (ho:Zsz Pg z offs o s g.nt=true) (hd:doOp F s e=some e'):OpOut Pg o a w g e':=by
 unfold Zsz at ho
 rw [Bool.and_eq_true] at ho
 refine Zer h ho.1 hd fun d hx=>?_
 have ho2:=ho.2
 rw [hk] at hx
 split at ho2
 ·rename_i t ps hop
  rw [Bool.and_eq_true] at ho2
  obtain ⟨o1,o2⟩:=ho2
  unfold Zrz at o1
  split at o1
  ·rename_i inf hi
   split at o1
   ·rename_i zv hzv
    split at o2
    ·rename_i fs hu
     rw [Bool.and_eq_true] at o2
     obtain ⟨o2,o3⟩:=o2
     simp only [ZaI,Zi4] at hx
     split at hx
     ·rename_i cs hcs
      simp only [Zx5,and_true] at hx
      subst hx
      obtain ⟨pl,r1,r2,r3⟩:=ZnW (Pg:=Pg) (w:=w) fs.toList (fun fd hm=>by
       have:=Array.all_eq_true_iff_forall_mem.1 o2 fd (by simpa using hm)
       exact this)
      have hpl: ∀(i:Nat) (fd:Field) (n:Nat),fs[i]? =some fd->(Pg.info? fd.type).map (·.size)=some n->pl.toArray[i]? =some (fd.offset,n):=fun i fd n h1 h2=>by
       simpa using r3 i fd n (by simpa using h1) h2
      obtain ⟨cells',f1,_⟩:=Zpw h fs pl.toArray hpl 0 ps.toList offs s.ins zv.cells z cs o3 (ZfH g w 0 0 _ _ o1) hcs
      refine ⟨.agg cells',?_,fun k=>?_⟩
      ·have hmap:(Array.mapM (fun (f:Field)=>do pure (f.offset,<-sizeOf f.type)) fs:Sem (Array (Nat×Nat))).run Pg w= .ok pl.toArray w:=by
        rw [Array.mapM_eq_mapM_toList]
        simp only [Sem.run_map,r1,Result.andThen_ok]
       simp only [execOp,hop]
       rw [Zaw]
       simp only [Instr.build,Sem.run_bind,Zcs hi hzv,run_underlying hu,Result.andThen_ok]
       rw [hmap]
       simp only [Result.andThen_ok,Array.toList_map]
       rw [f1]
       rfl
      ·obtain ⟨cells'',f1',f2'⟩:=Zpw h fs pl.toArray hpl k ps.toList offs s.ins zv.cells z cs o3 (ZfH g w k 0 _ _ o1) hcs
       rw [f1] at f1'
       cases f1'
       exact ⟨cells',rfl,f2'⟩
     ·cases hx
    ·cases o2
   ·cases o1
  ·cases o1
 ·cases ho2
end each
end Go.Am
end
section
namespace Go.Am
variable [WI]
variable {Pg:Program}
theorem KeyOK.tmp {g:G} {e:Env} {a:Act} {w:World} {k:Nat} (hk:k<OBJS) (h:RepD g w k (a.tmps.getD k undef) (e.get k)):KeyOK g e a w k:=
 ⟨fun _=>h,fun hb=>by have:=Zau;omega,fun ho=>by omega⟩
theorem KeyOK.box {g:G} {e:Env} {a:Act} {w:World} {k:Nat} (hk:BOX<=k) (h: ∀cs,e.get k= .a (.agg cs)->Box g w (g.β k) k 0 cs):KeyOK g e a w k:=
 ⟨fun hb=>by have:=Zau;omega,fun _=>h,fun ho=>by have:=Zau;omega⟩
theorem KeyOK.obj {g:G} {e:Env} {a:Act} {w:World} (h: ∀os,e.get OBJS= .objs os-> ∀(i:Nat) cs,os[i]? =some cs->Box g w (g.ω i) OBJS i cs):KeyOK g e a w OBJS:=
 ⟨fun hb=>by omega,fun hb=>by have:=Zau;omega,fun _=>h⟩
def G.remap (g:G) (φ:Loc->Loc):G:={g with ow:=fun b=>(g.ow b).map φ}
theorem Zw4 {g:G} {φ:Loc->Loc} {w:World} (ℓ:Loc):Ze3 g (g.remap φ) w w ℓ (φ ℓ):=fun b hb=>⟨by simp [G.remap,hb],rfl,rfl⟩
theorem Za0 {g:G} {φ:Loc->Loc} {w:World} {ℓ ℓ':Loc} (h:φ ℓ=ℓ'):Ze3 g (g.remap φ) w w ℓ ℓ':=h ▸ Zw4 ℓ
theorem Zev {g:G} {φ:Loc->Loc} {w w':World} {ℓ ℓ':Loc} (h:φ ℓ=ℓ') (hs: ∀b,g.ow b=some ℓ->w'.heap[b]? =w.heap[b]?):Ze3 g (g.remap φ) w w' ℓ ℓ':=fun b hb=>⟨by simp [G.remap,hb,h],rfl,hs b hb⟩
theorem ZaN {g:G} {φ:Loc->Loc} {w w':World} (h:Ext g.T g.pr g.ow w w' g.pr g.ow):Ext g.T g.pr g.ow w w' (g.remap φ).pr (g.remap φ).ow:=
 ⟨h.os,h.tape,h.output,h.size,h.blk,h.prle,fun b hb ho _=>⟨rfl,by simp [G.remap,ho]⟩,h.hid⟩
theorem ZbV {g:G} {φ:Loc->Loc} {w w':World} (h:ZnQ g.pr g.ow w) (hs:w.heap.size<=w'.heap.size):ZnQ (g.remap φ).pr (g.remap φ).ow w':=fun b hb=>by
 obtain ⟨h1,h2⟩:=h b Zo
 exact ⟨h1,by simp [G.remap,h2]⟩
theorem ZaK {g:G} {φ:Loc->Loc} {b:Nat} (h:g.ow b=none):(g.remap φ).ow b=none:=by simp [G.remap,h]
theorem Zb7 {g:G} {e:Env} {a:Act} {w:World} (h:St g e a w) {κ:Nat} (hκ:BOX<=κ) (hl:e.get κ≠ .undef):g.β κ<w.heap.size/\g.pr (g.β κ)=0/\g.ow (g.β κ)=none:=by
 rcases h.box κ hκ with h1|⟨cs,h1⟩
 ·exact absurd h1 hl
 ·obtain ⟨_,hb,h3,h4⟩:=((h.key κ).bx hκ cs h1).bk
  exact ⟨ZaB hb,h3,h4⟩
theorem Ze2 {g:G} {e:Env} {a:Act} {w:World} (h:St g e a w) {os:List (List C)} {i:Nat} (ho:e.get OBJS= .objs os) (hi:i<os.length):g.ω i<w.heap.size/\g.pr (g.ω i)=0/\g.ow (g.ω i)=none:=by
 obtain ⟨_,hb,h3,h4⟩:=((h.key OBJS).ob rfl os ho i os[i] (List.getElem?_eq_getElem hi)).bk
 exact ⟨ZaB hb,h3,h4⟩
theorem RepC.of_pr {g:G} {φ:Loc->Loc} {w:World} {ℓ ℓ':Loc} {v:Value} {c:C} (h:RepC g w ℓ v c) (hc:c.held=false):RepC (g.remap φ) w ℓ' v c:=by
 cases c<;>first|cases hc;done|exact h
theorem RepC.plain' {g:G} {φ:Loc->Loc} {w:World} {ℓ ℓ':Loc} {v:Value} {c:C} (h:RepC g w ℓ v c):RepC (g.remap φ) w ℓ' v c.plain:=
 (h.plain (ℓ':=ℓ)).of_pr (Zc1 c)
theorem RepCells.plain' {g:G} {φ:Loc->Loc} {w:World} {k c k' c':Nat} {vs:List Value} {cs:List C} (h:RepCells g w k c vs cs):RepCells (g.remap φ) w k' c' vs (cs.map C.plain):=by
 refine ⟨by rw [List.length_map];exact h.1,fun i u x hu hx=>?_⟩
 rw [List.getElem?_map] at hx
 cases hc:cs[i]? with
 | none=>rw [hc] at hx;cases hx
 | some y=>rw [hc] at hx;cases hx;exact (h.2 i u y hu hc).plain'
theorem RepA.plain' {g:G} {φ:Loc->Loc} {w:World} {k c k' c':Nat} {v:Value} {x:A} (h:RepA g w k c v x):RepA (g.remap φ) w k' c' v x.plain:=by
 cases x with
 | one x=>exact RepC.plain' h
 | agg cs=>obtain ⟨vs,rfl,hc⟩:=h;exact ⟨vs,rfl,hc.plain'⟩
theorem RepD.plain' {g:G} {φ:Loc->Loc} {w:World} {k k':Nat} {v:Value} {d:D} (h:RepD g w k v d):RepD (g.remap φ) w k' v d.plain:=by
 cases d with
 | undef=>exact True.intro
 | a x=>exact RepA.plain' h
 | tup xs=>
   obtain ⟨vs,rfl,hl,hx⟩:=h
   refine ⟨vs,rfl,by rw [List.length_map];exact hl,fun j u x hu hxs=>?_⟩
   rw [List.getElem?_map] at hxs
   cases hc:xs[j]? with
   | none=>rw [hc] at hxs;cases hxs
   | some y=>rw [hc] at hxs;cases hxs;exact (hx j u y hu hc).plain'
 | objs os=>exact h.elim
section each
variable {F:ZaQ} {g:G} {e e':Env} {a:Act} {w:World}
theorem St.give (h:St g e a w) {n d:Nat} (hd:d<g.nt) (hn:n<OBJS) (hne:n≠d) {v:Value} {dn dd:D} (φ:Loc->Loc) (hφ: ∀k c i,k≠n->φ (k,c,i)=(k,c,i))
  (hrn:RepD (g.remap φ) w n (a.tmps.getD n undef) dn) (hrd:RepD (g.remap φ) w d v dd):St (g.remap φ) ((e.set n dn).set d dd) (a.put (some d) v) w:=by
 have hdO:d<OBJS:=Nat.lt_of_lt_of_le hd h.nt
 have hs:d<a.tmps.size:=Nat.lt_of_lt_of_le hd h.sz
 have hno:OBJS∉[n,d]:=by simp;omega
 have hnb: ∀κ,κ∈[n,d]-> ¬BOX<=κ:=fun κ hm hb=>by have:=Zau;simp at hm;omega
 refine h.gen [n,d] (fun b=>g.pr b=0/\g.ow b=none) (ZaN (Ext.refl _ _ _ _)) (ZbV h.fr (Nat.le_refl _)) rfl rfl rfl (by rw [Zb6];exact h.df) Zd6
  (fun k hk=>?_) (fun k hk _=>?_) (fun k hk c i=>Za0 (hφ k c i (by simp at hk;omega))) (fun _=> .inl rfl) (fun b hb=>⟨rfl,rfl,by rw [ZaK hb.2,hb.2]⟩)
  (fun κ _ hκ hl=>(Zb7 h hκ hl).2) (fun _ os i ho hi=>(Ze2 h ho hi).2) (fun k hk=>?_) (fun κ hm hκ=>absurd hκ (hnb κ hm)) (fun hm=>absurd hm hno) (fun κ hm hκ=>absurd hκ (hnb κ hm))
 ·simp at hk;rw [Env.get_set_ne _ _ Zo,Env.get_set_ne _ _ Zo]
 ·simp at hk;exact Zbb Zo
 ·simp at hk
  rcases hk with rfl|rfl
  ·refine .tmp hn ?_
   rw [Env.get_set_ne _ _ (Ne.symm hne),Env.get_set_same,Zbb hne];exact hrn
  ·refine .tmp hdO ?_
   rw [Env.get_set_same,Zbe hs];exact hrd
def Zwd (o:Oper) (s:SOp) (nt:Nat):Bool:=
 match o.op,o.dst,s.ins,s.takes,s.outs with
 | .move (.tmp t),some d,[.k n],[n'],[d']=>t==n && n'==n && d==d' && Nat.blt d nt && Nat.blt n OBJS && n !=d
 | .assign (.tmp t),some d,[.k n],[n'],[d']=>t==n && n'==n && d==d' && Nat.blt d nt && Nat.blt n OBJS && n !=d
 | _,_,_,_,_=>false
theorem Zyr (h:St g e a w) {o:Oper} {s:SOp} (hk:s.kind= .mov) (ho:Zwd o s g.nt=true) (hd:doOp F s e=some e'):OpOut Pg o a w g e':=by
 have key: ∀n d,(o.op= .move (.tmp n)∨o.op= .assign (.tmp n))->o.dst=some d->s.ins=[.k n]->s.takes=[n]->s.outs=[d]->d<g.nt->n<OBJS->n≠d->OpOut Pg o a w g e':=by
  intro n d hop hdst hins htk hout hlt hn hne
  unfold doOp at hd
  rw [hk,hins,htk,hout] at hd
  simp only [List.map_cons,List.map_nil,ZaI,ZrX,Zbl,List.elem_eq_mem,List.mem_singleton,decide_true,if_true,ZaA,Env.sets,Option.some.injEq] at hd
  subst hd
  have hrep:=(h.key n).tm hn
  let φ:Loc->Loc:=fun ℓ=>if ℓ.1=n then (d,ℓ.2) else ℓ
  have h1:RepD (g.remap φ) w d (a.tmps.getD n undef) (e.get n):=hrep.mono (ZaN (Ext.refl _ _ _ _)) (fun _=>Nat.le_refl _) (fun c i=>Za0 (by simp [φ])) (fun _ h=>h) (fun _ _=>rfl)
  refine ⟨.value (a.tmps.getD n undef),a.tmps.getD n undef,w,g.remap φ,?_,.inl rfl,?_,ZaN (Ext.refl _ _ _ _),rfl,rfl,rfl⟩
  ·rcases hop with hop|hop<;>simp [execOp,hop,Act.eval]
  ·rw [hdst]
   exact h.give hlt hn hne φ (fun k c i hk=>by simp [φ,hk]) hrep.plain' h1
 unfold Zwd at ho
 split at ho
 ·rename_i t d n n' d' h1 h2 h3 h4 h5
  simp only [Bool.and_eq_true,beq_iff_eq,Nat.blt_eq,bne_iff_ne] at ho
  obtain ⟨⟨⟨⟨⟨rfl,rfl⟩,rfl⟩,q1⟩,q2⟩,q3⟩:=ho
  exact key _ _ (.inl h1) h2 h3 h4 h5 q1 q2 q3
 ·rename_i t d n n' d' h1 h2 h3 h4 h5
  simp only [Bool.and_eq_true,beq_iff_eq,Nat.blt_eq,bne_iff_ne] at ho
  obtain ⟨⟨⟨⟨⟨rfl,rfl⟩,rfl⟩,q1⟩,q2⟩,q3⟩:=ho
  exact key _ _ (.inr h1) h2 h3 h4 h5 q1 q2 q3
 ·cases ho
def ZkE (i:Nat) (o:Oper) (s:SOp) (nt:Nat):Bool:=
 match o.op,o.dst,s.ins,s.takes,s.outs with
 | .extract (.tmp t) i',some d,[.k n],[n'],[d']=>t==n && n'==n && d==d' && Nat.blt d nt && Nat.blt n OBJS && n !=d && i'==i
 | _,_,_,_,_=>false
theorem Zrg (h:St g e a w) {o:Oper} {s:SOp} {i:Nat} (hk:s.kind= .extract i) (ho:ZkE i o s g.nt=true) (hd:doOp F s e=some e'):OpOut Pg o a w g e':=by
 unfold ZkE at ho
 split at ho
 ·rename_i t i' d n n' d' h1 h2 h3 h4 h5
  simp only [Bool.and_eq_true,beq_iff_eq,Nat.blt_eq,bne_iff_ne] at ho
  obtain ⟨⟨⟨⟨⟨⟨rfl,rfl⟩,rfl⟩,hlt⟩,hn⟩,hne⟩,rfl⟩:=ho
  unfold doOp at hd
  rw [hk,h3,h4,h5] at hd
  simp only [List.map_cons,List.map_nil,ZaI,Zbl,List.elem_eq_mem,List.mem_singleton,decide_true,if_true,ZaA] at hd
  unfold ZfI at hd
  split at hd
  ·cases hd
  ·rename_i ds heq
   split at heq
   ·rename_i xs heq2
    simp only [List.cons.injEq,and_true] at heq2
    split at heq
    ·rename_i x hx
     simp only [Option.some.injEq] at heq
     subst heq
     simp only [Env.sets,Option.some.injEq] at hd
     subst hd
     have hrep:=(h.key n').tm hn
     let φ:Loc->Loc:=fun ℓ=>if ℓ.1=n'/\ℓ.2.1=i'+1 then (d,0,ℓ.2.2) else ℓ
     have hrep':=hrep
     rw [heq2] at hrep'
     obtain ⟨vs,hv,hl,hall⟩:=hrep'
     have hi:=Zaq hx
     have hiv:i'<vs.toList.length:=by omega
     have hA:=hall i' _ x (List.getElem?_eq_getElem hiv) hx
     refine ⟨.value vs.toList[i'],vs.toList[i'],w,g.remap φ,?_,.inl rfl,?_,ZaN (Ext.refl _ _ _ _),rfl,rfl,rfl⟩
     ·have hg:vs[i']? =some vs.toList[i']:=by
       rw [<-Array.getElem?_toList];exact List.getElem?_eq_getElem hiv
      have hv2:(Act.eval a (.tmp n'))= .tuple vs:=hv
      simp [execOp,h1,hv2,Instr.extract,hg]
     ·rw [h2]
      refine h.give hlt hn hne φ (fun k c i hk=>by simp [φ,hk]) hrep.plain' ?_
      exact hA.mono (ZaN (Ext.refl _ _ _ _)) (fun _=>Nat.le_refl _) (fun m=>Za0 (by simp [φ,Nat.add_comm])) (fun _ h=>h) (fun _ _=>rfl)
    ·cases heq
   ·cases heq
 ·cases ho
end each
end Go.Am
end
section
namespace Go.Am
variable [WI]
variable {Pg:Program}
theorem Zik {T:Nat->Prop} {pr:Nat->Nat} {ow:Nat->Option Loc} {w:World} {b:Nat} {cur new:Array Value} {t:TypeId} {fz:Nat×Nat} (hb:w.heap[b]? =some (.cells cur t fz)) (hs:new.size=cur.size)
  (hk: ∀j,j<pr b->new[j]? =cur[j]?) (hT:T b∨ow b≠none):Ext T pr ow w (w.setRow b new) pr ow:=by
 refine ⟨rfl,rfl,rfl,by simp,fun b' o ho=>?_,fun _ _=>Nat.le_refl _,fun _ _ h _=>⟨rfl,h⟩,fun b' _ ho hn=>?_⟩
 rotate_left
 ·refine setRow_other w b b' new fun hh=>?_
  subst hh
  rcases hT with hT|hT
  ·exact hn hT
  ·exact hT ho
 by_cases hbb:b'=b
 ·subst hbb
  rw [hb] at ho;cases ho
  exact ⟨_,setRow_heap w b' cur new t fz hb,new,rfl,hs,hk⟩
 ·exact ⟨o,by rw [setRow_other w b b' new hbb];exact ho,SameObj.refl _ _⟩
theorem RepC.oneCell {g:G} {w:World} {ℓ:Loc} {v:Value} {c:C} (h:RepC g w ℓ v c):v.oneCell'=true:=by
 obtain ⟨_,h1,h2⟩:=h.not_agg
 cases v<;>first|rfl|exact absurd rfl (h1 _)|exact absurd rfl (h2 _)
theorem Zlu {w:World} {b off:Nat} {cur:Array Value} {t t':TypeId} {v:Value} {inf:TypeInfo} (hb:w.heap[b]? =some (.cells cur t' (0,0))) (hi:Pg.info? t=some inf) (hs:v.cells.size=inf.size)
  (hle:off+v.cells.size<=cur.size) (h1: ∀u∈v.cells.toList,u.oneCell'=true):
  (storeVar t ⟨b,off,none⟩ v).run Pg w= .ok () (w.setRow b (cur.toList.take off++v.cells.toList++cur.toList.drop (off+v.cells.size)).toArray):=by
 have:=run_storeCells_at Pg b off t' v.cells.toList 0 cur w hb (by simpa using hle) h1
 simp only [Nat.add_zero,Array.length_toList] at this
 simp only [storeVar,Sem.run_bind,sizeOf,typeInfo,run_program,Result.andThen_ok,hi,Sem.run_pure,hs,ne_eq,not_true_eq_false,if_false]
 rw [hs] at this
 exact this
theorem Zre {g g':G} {w w':World} {k c:Nat} {cur:Array Value} {cs cs':List C} {xs:List C} {vs:List Value} {off:Nat} (h:RepCells g' w' k c cur.toList cs)
  (hx:vs.length=xs.length/\ ∀(i:Nat) u x,vs[i]? =some u->xs[i]? =some x->RepC g' w' (k,c,off+i) u x) (hp:put cs off xs=some cs'):
  RepCells g' w' k c (cur.toList.take off++vs++cur.toList.drop (off+vs.length)) cs':=by
 obtain ⟨p1,p2⟩:=ZgW hp
 have hl:off+vs.length<=cur.toList.length:=by rw [h.1,hx.1];exact p1
 have hm:(cur.toList.take off).length=off:=by rw [List.length_take];omega
 refine h.put hx hp (by simp;simp at hl;omega) fun i=>?_
 rcases Nat.lt_or_ge i off with h1|h1
 ·rw [if_neg Zo,List.append_assoc,List.getElem?_append_left Zo,List.getElem?_take,if_pos h1]
 ·rcases Nat.lt_or_ge i (off+vs.length) with h2|h2
  ·rw [if_pos ⟨h1,h2⟩,List.append_assoc,List.getElem?_append_right Zo,hm,List.getElem?_append_left Zo]
  ·rw [if_neg Zo,List.append_assoc,List.getElem?_append_right Zo,hm,List.getElem?_append_right Zo,List.getElem?_drop]
   congr 1
   omega
theorem Zw3 {α:Type} {l vs:List α} {off n:Nat} (h:off+vs.length<=n) (hn:n<=l.length):(l.take off++vs++l.drop (off+vs.length)).take n=(l.take n).take off++vs++(l.take n).drop (off+vs.length):=by
 rw [List.take_take,Nat.min_eq_left Zo,List.take_append,List.take_of_length_le Ze]
 congr 1
 rw [List.length_append,List.length_take,Nat.min_eq_left Zo,List.drop_take]
theorem ZkS {g g':G} {w w':World} {k c:Nat} {cur:Array Value} {cs cs':List C} {xs:List C} {vs:List Value} {off:Nat} (h:cs.length<=cur.size/\RepCells g' w' k c (cur.toList.take cs.length) cs)
  (hx:vs.length=xs.length/\ ∀(i:Nat) u x,vs[i]? =some u->xs[i]? =some x->RepC g' w' (k,c,off+i) u x) (hp:put cs off xs=some cs'):
  cs'.length<=(cur.toList.take off++vs++cur.toList.drop (off+vs.length)).length/\RepCells g' w' k c ((cur.toList.take off++vs++cur.toList.drop (off+vs.length)).take cs'.length) cs':=by
 obtain ⟨p1,p2⟩:=ZgW hp
 have hcl:cs'.length=cs.length:=by rw [p2];simp;omega
 have h1:off+vs.length<=cs.length:=by rw [hx.1];exact p1
 have h0:=h.1
 refine ⟨by rw [hcl];simp;omega,?_⟩
 rw [hcl,Zw3 h1 (by simpa using h.1)]
 have:=Zre (g:=g) (w:=w) (cur:=(cur.toList.take cs.length).toArray) (by simpa using h.2) hx hp
 simpa using this
theorem ZjR {x:Operand} {m:Nat} (h:Zcl x (.k m)=true):x= .tmp m/\m<OBJS:=by
 cases x with
 | tmp t=>simp [Zcl] at h;exact ⟨by rw [h.1],h.2⟩
 | const v=>simp [Zcl] at h
 | global g=>simp [Zcl] at h
 | func f=>simp [Zcl] at h
theorem Zvl {x:Operand} {c:C} (h:Zcl x (.c c)=true) (a:Act) (g:G) (w:World) (ℓ:Loc):RepC g w ℓ (a.eval x) c:=by
 cases x with
 | tmp t=>simp [Zcl] at h
 | const v=>exact Zds h _ _ _
 | global g=>simp [Zcl] at h
 | func f=>
   cases c with
   | clo f' p q=>
     cases p<;>cases q<;>simp [Zcl] at h
     subst h;rfl
   | _=>simp [Zcl] at h
section each
variable {F:ZaQ} {g:G} {e e':Env} {a:Act} {w:World}
def Zo9 (Pg:Program) (κ n:Nat) (o:Oper) (s:SOp):Bool:=
 match o.op,o.dst,s.ins,s.outs with
 | .store t x v,none,[y,z,.k κ'],[κ'']=>κ'==κ && κ''==κ && Nat.ble BOX κ && Zcl x y && Zcl v z && (Pg.info? t).map (·.size)==some n &&
   (s.takes==[κ]||(match z with| .k m=>s.takes==[κ,m]|_=>false))
 | _,_,_,_=>false
theorem ZwH {g:G} {e:Env} {a:Act} {w:World} (h:St g e a w) {v:Operand} {z:Arg} (ho:Zcl v z=true) {κ:Nat} (hκ:OBJS<=κ) {takes:List Nat} (ht:takes=[κ]∨ ∃m,z= .k m/\takes=[κ,m])
   {x:A} (hx:Zbl e takes z= .a x) (φ:Loc->Loc) (k c off:Nat) (hφ: ∀m i,z= .k m->takes=[κ,m]->φ (m,0,i)=(k,c,off+i)):
   (a.eval v).cells.toList.length=x.cells.length/\(∀(i:Nat) u q,(a.eval v).cells.toList[i]? =some u->x.cells[i]? =some q->RepC (g.remap φ) w (k,c,off+i) u q)/\ ∀u∈(a.eval v).cells.toList,u.oneCell'=true:=by
 have hr:=ZfR h ho takes
 rw [hx] at hr
 have hcells: ∃k,RepCells g w k 0 (a.eval v).cells.toList x.cells:=⟨_,RepA.cells hr⟩
 obtain ⟨kz,hcells⟩:=hcells
 have hone: ∀u∈(a.eval v).cells.toList,u.oneCell'=true:=fun u hu=>by
   obtain ⟨i,hi,rfl⟩:=List.getElem_of_mem hu
   have hi':i<x.cells.length:=by rw [<-hcells.1];exact hi
   exact (hcells.2 i _ x.cells[i] (List.getElem?_eq_getElem hi) (List.getElem?_eq_getElem hi')).oneCell
 refine ⟨hcells.1,fun i u q hu hq=>?_,hone⟩
 cases z with
 | c z=>
   simp only [Zbl,D.a.injEq] at hx
   subst hx
   have hrep:=Zvl ho a (g.remap φ) w (k,c,off+i)
   rw [hrep.not_agg.1] at hu
   cases i with
   | zero=>simp [A.cells] at hu hq;subst hu;subst hq;exact hrep
   | succ i=>simp [A.cells] at hq
 | k m=>
   obtain ⟨rfl,hm⟩:=ZjR ho
   have hr0:RepD g w m (a.eval (.tmp m)) (Zbl e takes (.k m)):=ZfR h ho takes
   rw [hx] at hr0
   have hc0:=RepA.cells hr0
   rcases ht with ht|⟨m',hm',ht⟩
   · have he:Zbl e takes (.k m)=Zbl e [] (.k m):=by
       have:m≠κ:=by omega
       simp [Zbl,ht,this]
     rw [he] at hx
     exact (hc0.2 i u q hu hq).of_pr (ZjG e (.k m) hx trivial (List.mem_of_getElem? hq))
   · cases hm'
     exact (hc0.2 i u q hu hq).mono (ZaN (Ext.refl _ _ _ _)) (fun _=>Nat.le_refl _) (Za0 (hφ m i rfl ht)) (fun _ h=>h) (fun _ _=>rfl)
theorem Ztg (a:Act) (v:Value):a.put none v=a:=rfl
theorem ZuT (h:St g e a w) {o:Oper} {s:SOp} {κ n:Nat} (hk:s.kind= .storeB κ n) (ho:Zo9 Pg κ n o s=true) (hd:doOp F s e=some e'):OpOut Pg o a w g e':=by
 unfold Zo9 at ho
 split at ho
 ·rename_i t x v y z κ' κ'' hop hdst hins hout
  simp only [Bool.and_eq_true,Bool.or_eq_true,beq_iff_eq,Nat.ble_eq] at ho
  obtain ⟨⟨⟨⟨⟨⟨e1,e2⟩,hκ⟩,o1⟩,o2⟩,o3⟩,o4⟩:=ho
  rw [e1] at hins
  rw [e2] at hout
  have hκo:OBJS<κ:=by have:=Zau;omega
  have htk:s.takes=[κ]∨ ∃m,z= .k m/\s.takes=[κ,m]:=by
   rcases o4 with o4|o4
   ·exact .inl o4
   ·cases z with
    | k m=>exact .inr ⟨m,rfl,by simpa using o4⟩
    | c c=>cases o4
  obtain ⟨inf,hinf,hsz⟩: ∃inf,Pg.info? t=some inf/\inf.size=n:=by
   cases hi:Pg.info? t with
   | none=>rw [hi] at o3;cases o3
   | some inf=>rw [hi] at o3;simp at o3;exact ⟨inf,rfl,o3⟩
  unfold doOp at hd
  rw [hk,hins,hout] at hd
  have hbx:Zbl e s.takes (.k κ)=e.get κ:=by
   have:κ∈s.takes:=by rcases htk with h|⟨m,_,h⟩<;>simp [h]
   simp [Zbl,this]
  simp only [List.map_cons,List.map_nil,ZaI] at hd
  rw [hbx] at hd
  unfold ZiJ at hd
  split at hd
  ·cases hd
  ·rename_i ds heq
   split at heq
   ·rename_i κ₀ off xv cs heq2
    simp only [List.cons.injEq,and_true] at heq2
    obtain ⟨q1,q2,q3⟩:=heq2
    split at heq
    ·rename_i hc
     simp only [Bool.and_eq_true,beq_iff_eq] at hc
     obtain ⟨rfl,hlen⟩:=hc
     split at heq
     ·rename_i cs' hput
      simp only [Option.some.injEq] at heq
      subst heq
      simp only [Env.sets,Option.some.injEq] at hd
      subst hd
      have hptr:=ZfR h o1 s.takes
      rw [q1] at hptr
      have hptr':a.eval x=R.val g ⟨true,κ₀,off⟩:=hptr
      obtain ⟨hmo,hput⟩:=ZJZ hput
      obtain ⟨cur,ct,hb,hcells,hpr,how⟩:=((h.key κ₀).bx hκ cs q3).cells hmo
      let φ:Loc->Loc:=fun ℓ=>match s.takes with|[_,m]=>if ℓ.1=m/\ℓ.2.1=0 then (κ₀,0,off+ℓ.2.2) else ℓ|_=>ℓ
      obtain ⟨s1,s2,s3⟩:=ZwH h o2 (Nat.le_of_lt hκo) htk q2 φ κ₀ 0 off (fun m i _ hm=>by simp [φ,hm])
      obtain ⟨p1,p2⟩:=ZgW hput
      have hcsz:cs.length<=cur.size:=hcells.1
      have hvsz:(a.eval v).cells.size=xv.cells.length:=by rw [<-s1];simp
      have hrun:=Zlu (Pg:=Pg) (t:=t) (v:=a.eval v) (off:=off) hb hinf (by rw [hvsz,hlen,hsz]) (by rw [hvsz];omega) s3
      let new:Array Value:=(cur.toList.take off++(a.eval v).cells.toList++cur.toList.drop (off+(a.eval v).cells.size)).toArray
      have hnew:new.size=cur.size:=by simp [new];omega
      have hext:Ext g.T g.pr g.ow w (w.setRow (g.β κ₀) new) g.pr g.ow:=Zik hb hnew (fun j hj=>by rw [hpr] at hj;omega) (.inl (h.tb κ₀ hκ (by rw [q3];simp)))
      have hext':Ext g.T g.pr g.ow w (w.setRow (g.β κ₀) new) (g.remap φ).pr (g.remap φ).ow:=ZaN hext
      have hwsz:w.heap.size<=(w.setRow (g.β κ₀) new).heap.size:=hext.size
      have hsame: ∀ℓ b,g.ow b=some ℓ->(w.setRow (g.β κ₀) new).heap[b]? =w.heap[b]? :=fun ℓ b hb'=>setRow_other w _ b _ (fun hh=>by rw [hh,how] at hb';cases hb')
      have hsame': ∀ℓ b,(g.remap φ).ow b=some ℓ->(w.setRow (g.β κ₀) new).heap[b]? =w.heap[b]? :=fun ℓ b hb'=>setRow_other w _ b _ (fun hh=>by rw [hh,ZaK how] at hb';cases hb')
      refine ⟨.skip,undef,w.setRow (g.β κ₀) new,g.remap φ,?_,.inr ⟨rfl,rfl⟩,?_,hext',rfl,rfl,rfl⟩
      ·simp only [execOp,hop,hptr',R.val,if_true,Instr.storeAt,Instr.sureAddr]
       rw [Sem.run_bind,Sem.run_bind,Sem.run_pure,Result.andThen_ok,hrun,Result.andThen_ok]
       rfl
      ·rw [hdst,Ztg]
       have hφ: ∀k c i,(∀m,s.takes=[κ₀,m]->k≠m)->φ (k,c,i)=(k,c,i):=fun k c i hm=>by
        simp only [φ]
        split
        ·rename_i m' m heqt
         have:s.takes=[κ₀,m]:=by
          rcases htk with h'|⟨m₀,_,h'⟩
          ·rw [h'] at heqt;cases heqt
          ·rw [h'] at heqt;cases heqt;rw [h']
         rw [if_neg (fun hh=>hm m this hh.1)]
        ·rfl
       have hφκ: ∀c i,φ (κ₀,c,i)=(κ₀,c,i):=fun c i=>hφ _ _ _ (fun m hm=>by
        rcases htk with h'|⟨m₀,rfl,h'⟩
        ·rw [h'] at hm;cases hm
        ·rw [h'] at hm;cases hm
         intro hh;subst hh
         have:=(ZjR o2).2;omega)
       have hboxnew:Box (g.remap φ) (w.setRow (g.β κ₀) new) (g.β κ₀) κ₀ 0 cs':=by
        refine .inr ⟨new,ct,setRow_heap w _ cur new ct (0,0) hb,?_,hpr,ZaK how⟩
        have hc1:RepCells (g.remap φ) (w.setRow (g.β κ₀) new) κ₀ 0 (cur.toList.take cs.length) cs:=hcells.2.mono hext' (fun _=>Nat.le_refl _) (fun i=>Zev (hφκ 0 i) (hsame _)) (fun _ h=>h) (fun _ _=>rfl)
        have hc2:=ZkS (g:=g) (w:=w) (off:=off) (vs:=(a.eval v).cells.toList) ⟨hcells.1,hc1⟩ ⟨s1,fun i u q hu hq=>(s2 i u q hu hq).mono (g':=g.remap φ) (by
         exact ⟨hext.os,hext.tape,hext.output,hext.size,hext.blk,fun _ _=>Nat.le_refl _,fun _ _ hh _=>⟨rfl,hh⟩,fun b hb ho hT=>hext.hid b hb (by simpa [G.remap] using ho) hT⟩) (fun _=>Nat.le_refl _) (fun b hb=>⟨hb,rfl,hsame' _ b hb⟩) (fun _ h=>h) (fun _ _=>rfl)⟩ hput
        simpa [new] using hc2
       let ch:List Nat:=s.takes
       have hmem: ∀k,k∈ch↔k=κ₀∨ ∃m,s.takes=[κ₀,m]/\k=m:=fun k=>by
        rcases htk with h'|⟨m,_,h'⟩
        ·simp [ch,h']
        ·simp [ch,h']
       have hget: ∀k,((ZaA e s.takes).set κ₀ (.a (.agg cs'))).get k=if k=κ₀ then .a (.agg cs') else if k∈ch then (e.get k).plain else e.get k:=fun k=>by
        rw [Env.get_set]
        by_cases hkk:κ₀=k
        ·subst hkk;simp
        ·rw [if_neg hkk,if_neg (Ne.symm hkk)]
         rcases htk with h'|⟨m,_,h'⟩
         ·simp only [ch,h',ZaA,List.mem_singleton]
          rw [if_neg (Ne.symm hkk),Env.get_set_ne _ _ hkk]
         ·simp only [ch,h',ZaA,List.mem_cons,List.not_mem_nil,or_false,Ne.symm hkk,false_or]
          by_cases hm:k=m
          ·subst hm;rw [if_pos rfl,Env.get_set_same,Env.get_set_ne _ _ hkk]
          ·rw [if_neg hm,Env.get_set_ne _ _ (Ne.symm hm),Env.get_set_ne _ _ hkk]
       have hmO: ∀m,s.takes=[κ₀,m]->m<OBJS:=fun m hm=>by
        rcases htk with h'|⟨m₀,rfl,h'⟩
        ·rw [h'] at hm;cases hm
        ·rw [h'] at hm;cases hm
         exact (ZjR o2).2
       have hlive:e.get κ₀≠ .undef:=by rw [q3];simp
       refine h.gen ch (fun b=>g.pr b=0/\g.ow b=none/\b≠g.β κ₀) hext' (ZbV h.fr hwsz) rfl rfl rfl h.df rfl (fun k hk=>?_) (fun _ _ _=>rfl) (fun k hk c i=>Zev (hφ k c i fun m hm=>?_) (hsame _)) (fun _=> .inl rfl)
        (fun b hb=>⟨setRow_other w _ b _ hb.2.2,rfl,by rw [ZaK hb.2.1,hb.2.1]⟩) (fun κ hκ1 hκ2 hl=>⟨(Zb7 h hκ2 hl).2.1,(Zb7 h hκ2 hl).2.2,fun hh=>?_⟩)
        (fun _ os i ho hi=>⟨(Ze2 h ho hi).2.1,(Ze2 h ho hi).2.2,fun hh=>h.dbo κ₀ os i hκ hlive ho hi hh.symm⟩) (fun k hk=>?_) (fun κ hm hκb=>?_) (fun hm=>?_) (fun κ hm hκb hl=>?_)
       ·have:=hk;rw [hmem] at this
        rw [hget,if_neg (fun hh=>this (.inl hh)),if_neg hk]
       ·intro hh;exact hk ((hmem k).2 (.inr ⟨m,hm,hh⟩))
       ·exact hκ1 ((hmem κ).2 (.inl (h.db κ κ₀ hκ2 hκ hl hlive hh)))
       ·rcases (hmem k).1 hk with rfl|⟨m,hm,rfl⟩
        ·refine .box hκ fun cs'' hcs=>?_
         rw [hget,if_pos rfl] at hcs
         cases hcs
         exact hboxnew
        ·refine .tmp (hmO _ hm) ?_
         have hne:k≠κ₀:=by have:=hmO _ hm;omega
         rw [hget,if_neg hne,if_pos hk]
         exact ((h.key k).tm (hmO _ hm)).plain'.mono (by
          exact ⟨hext.os,hext.tape,hext.output,hext.size,hext.blk,fun _ _=>Nat.le_refl _,fun _ _ hh _=>⟨rfl,hh⟩,fun b hb ho hT=>hext.hid b hb (by simpa [G.remap] using ho) hT⟩) (fun _=>Nat.le_refl _) (fun _ _ b hb=>⟨hb,rfl,hsame' _ b hb⟩) (fun _ h=>h) (fun _ _=>rfl)
       ·rcases (hmem κ).1 hm with rfl|⟨m,hm',rfl⟩
        ·rw [hget,if_pos rfl];exact .inr ⟨cs',rfl⟩
        ·have:=hmO _ hm';have:=Zau;omega
       ·rcases (hmem OBJS).1 hm with hh|⟨m,hm',hh⟩
        ·omega
        ·have:=hmO _ hm';omega
       ·rcases (hmem κ).1 hm with rfl|⟨m,hm',rfl⟩
        ·exact .inl ⟨hlive,rfl⟩
        ·have:=hmO _ hm';have:=Zau;omega
     ·cases heq
    ·cases heq
   ·cases heq
 ·cases ho
end each
end Go.Am
end
section
namespace Go.Am
variable [WI]
variable {Pg:Program}
section each
variable {F:ZaQ} {g:G} {e e':Env} {a:Act} {w:World}
def Zpz (Pg:Program) (n:Nat) (o:Oper) (s:SOp):Bool:=
 match o.op,o.dst,s.ins,s.outs with
 | .store t x v,none,[y,z,.k κ'],[κ'']=>κ'==OBJS && κ''==OBJS && Zcl x y && Zcl v z && (Pg.info? t).map (·.size)==some n &&
   (s.takes==[OBJS]||(match z with| .k m=>s.takes==[OBJS,m]|_=>false))
 | _,_,_,_=>false
theorem Zt2 (h:St g e a w) {o:Oper} {s:SOp} {n:Nat} (hk:s.kind= .storeO n) (ho:Zpz Pg n o s=true) (hd:doOp F s e=some e'):OpOut Pg o a w g e':=by
 unfold Zpz at ho
 split at ho
 ·rename_i t x v y z κ' κ'' hop hdst hins hout
  simp only [Bool.and_eq_true,Bool.or_eq_true,beq_iff_eq] at ho
  obtain ⟨⟨⟨⟨⟨e1,e2⟩,o1⟩,o2⟩,o3⟩,o4⟩:=ho
  rw [e1] at hins
  rw [e2] at hout
  have htk:s.takes=[OBJS]∨ ∃m,z= .k m/\s.takes=[OBJS,m]:=by
   rcases o4 with o4|o4
   ·exact .inl o4
   ·cases z with
    | k m=>exact .inr ⟨m,rfl,by simpa using o4⟩
    | c c=>cases o4
  obtain ⟨inf,hinf,hsz⟩: ∃inf,Pg.info? t=some inf/\inf.size=n:=by
   cases hi:Pg.info? t with
   | none=>rw [hi] at o3;cases o3
   | some inf=>rw [hi] at o3;simp at o3;exact ⟨inf,rfl,o3⟩
  unfold doOp at hd
  rw [hk,hins,hout] at hd
  have hbx:Zbl e s.takes (.k OBJS)=e.get OBJS:=by
   have:OBJS∈s.takes:=by rcases htk with h|⟨m,_,h⟩<;>simp [h]
   simp [Zbl,this]
  simp only [List.map_cons,List.map_nil,ZaI] at hd
  rw [hbx] at hd
  unfold Zit at hd
  split at hd
  ·cases hd
  ·rename_i ds heq
   split at heq
   ·rename_i k₀ off xv os heq2
    simp only [List.cons.injEq,and_true] at heq2
    obtain ⟨q1,q2,q3⟩:=heq2
    split at heq
    ·rename_i hlen
     simp only [beq_iff_eq] at hlen
     split at heq
     ·rename_i cs hcs
      split at heq
      ·rename_i cs' hput
       simp only [Option.some.injEq] at heq
       subst heq
       simp only [Env.sets,Option.some.injEq] at hd
       subst hd
       have hptr:=ZfR h o1 s.takes
       rw [q1] at hptr
       have hptr':a.eval x=R.val g ⟨false,k₀,off⟩:=hptr
       have hk₀:=Zaq hcs
       obtain ⟨hmo,hput⟩:=ZJZ hput
       obtain ⟨cur,ct,hb,hcells,hpr,how⟩:=((h.key OBJS).ob rfl os q3 k₀ cs hcs).cells hmo
       let φ:Loc->Loc:=fun ℓ=>match s.takes with|[_,m]=>if ℓ.1=m/\ℓ.2.1=0 then (OBJS,k₀,off+ℓ.2.2) else ℓ|_=>ℓ
       obtain ⟨s1,s2,s3⟩:=ZwH h o2 (Nat.le_refl _) htk q2 φ OBJS k₀ off (fun m i _ hm=>by simp [φ,hm])
       obtain ⟨p1,p2⟩:=ZgW hput
       have hcsz:cs.length<=cur.size:=hcells.1
       have hvsz:(a.eval v).cells.size=xv.cells.length:=by rw [<-s1];simp
       have hrun:=Zlu (Pg:=Pg) (t:=t) (v:=a.eval v) (off:=off) hb hinf (by rw [hvsz,hlen,hsz]) (by rw [hvsz];omega) s3
       let new:Array Value:=(cur.toList.take off++(a.eval v).cells.toList++cur.toList.drop (off+(a.eval v).cells.size)).toArray
       have hnew:new.size=cur.size:=by simp [new];omega
       have hext:Ext g.T g.pr g.ow w (w.setRow (g.ω k₀) new) g.pr g.ow:=Zik hb hnew (fun j hj=>by rw [hpr] at hj;omega) (.inl (h.to os k₀ q3 hk₀))
       have hext':Ext g.T g.pr g.ow w (w.setRow (g.ω k₀) new) (g.remap φ).pr (g.remap φ).ow:=ZaN hext
       have hsame: ∀ℓ b,g.ow b=some ℓ->(w.setRow (g.ω k₀) new).heap[b]? =w.heap[b]? :=fun ℓ b hb'=>setRow_other w _ b _ (fun hh=>by rw [hh,how] at hb';cases hb')
       have hsame': ∀ℓ b,(g.remap φ).ow b=some ℓ->(w.setRow (g.ω k₀) new).heap[b]? =w.heap[b]? :=fun ℓ b hb'=>setRow_other w _ b _ (fun hh=>by rw [hh,ZaK how] at hb';cases hb')
       have hextr:Ext g.T (g.remap φ).pr (g.remap φ).ow w (w.setRow (g.ω k₀) new) (g.remap φ).pr (g.remap φ).ow:=⟨hext.os,hext.tape,hext.output,hext.size,hext.blk,fun _ _=>Nat.le_refl _,fun _ _ hh _=>⟨rfl,hh⟩,fun b hb ho hT=>hext.hid b hb (by simpa [G.remap] using ho) hT⟩
       have hwsz:w.heap.size<=(w.setRow (g.ω k₀) new).heap.size:=hext.size
       refine ⟨.skip,undef,w.setRow (g.ω k₀) new,g.remap φ,?_,.inr ⟨rfl,rfl⟩,?_,hext',rfl,rfl,rfl⟩
       ·simp only [execOp,hop,hptr',R.val,Bool.false_eq_true,if_false,Instr.storeAt,Instr.sureAddr]
        rw [Sem.run_bind,Sem.run_bind,Sem.run_pure,Result.andThen_ok,hrun,Result.andThen_ok]
        rfl
       ·rw [hdst,Ztg]
        have hφ: ∀k c i,(∀m,s.takes=[OBJS,m]->k≠m)->φ (k,c,i)=(k,c,i):=fun k c i hm=>by
         simp only [φ]
         split
         ·rename_i m' m heqt
          have:s.takes=[OBJS,m]:=by
           rcases htk with h'|⟨m₀,_,h'⟩
           ·rw [h'] at heqt;cases heqt
           ·rw [h'] at heqt;cases heqt;rw [h']
          rw [if_neg (fun hh=>hm m this hh.1)]
         ·rfl
        have hmO: ∀m,s.takes=[OBJS,m]->m<OBJS:=fun m hm=>by
         rcases htk with h'|⟨m₀,rfl,h'⟩
         ·rw [h'] at hm;cases hm
         ·rw [h'] at hm;cases hm
          exact (ZjR o2).2
        have hφκ: ∀c i,φ (OBJS,c,i)=(OBJS,c,i):=fun c i=>hφ _ _ _ (fun m hm=>by have:=hmO m hm;omega)
        let ch:List Nat:=s.takes
        have hmem: ∀k,k∈ch↔k=OBJS∨ ∃m,s.takes=[OBJS,m]/\k=m:=fun k=>by
         rcases htk with h'|⟨m,_,h'⟩
         ·simp [ch,h']
         ·simp [ch,h']
        have hget: ∀k,((ZaA e s.takes).set OBJS (.objs (os.set k₀ cs'))).get k=if k=OBJS then .objs (os.set k₀ cs') else if k∈ch then (e.get k).plain else e.get k:=fun k=>by
         rw [Env.get_set]
         by_cases hkk:OBJS=k
         ·subst hkk;simp
         ·rw [if_neg hkk,if_neg (Ne.symm hkk)]
          rcases htk with h'|⟨m,_,h'⟩
          ·simp only [ch,h',ZaA,List.mem_singleton]
           rw [if_neg (Ne.symm hkk),Env.get_set_ne _ _ hkk]
          ·simp only [ch,h',ZaA,List.mem_cons,List.not_mem_nil,or_false,Ne.symm hkk,false_or]
           by_cases hm:k=m
           ·subst hm;rw [if_pos rfl,Env.get_set_same,Env.get_set_ne _ _ hkk]
           ·rw [if_neg hm,Env.get_set_ne _ _ (Ne.symm hm),Env.get_set_ne _ _ hkk]
        have hbig: ∀κ,κ∈ch-> ¬BOX<=κ:=fun κ hm hb=>by
         have:=Zau
         rcases (hmem κ).1 hm with rfl|⟨m,hm',rfl⟩
         ·omega
         ·have:=hmO _ hm';omega
        refine h.gen ch (fun b=>g.pr b=0/\g.ow b=none/\b≠g.ω k₀) hext' (ZbV h.fr hwsz) rfl rfl rfl h.df rfl (fun k hk=>?_) (fun _ _ _=>rfl) (fun k hk c i=>Zev (hφ k c i fun m hm=>?_) (hsame _)) (fun _=> .inl rfl)
         (fun b hb=>⟨setRow_other w _ b _ hb.2.2,rfl,by rw [ZaK hb.2.1,hb.2.1]⟩) (fun κ hκ1 hκ2 hl=>⟨(Zb7 h hκ2 hl).2.1,(Zb7 h hκ2 hl).2.2,fun hh=>h.dbo κ os k₀ hκ2 hl q3 hk₀ hh⟩)
         (fun hno=>absurd ((hmem OBJS).2 (.inl rfl)) hno) (fun k hk=>?_) (fun κ hm hκb=>absurd hκb (hbig κ hm)) (fun hm=>?_) (fun κ hm hκb hl=>absurd hκb (hbig κ hm))
        ·have:=hk;rw [hmem] at this
         rw [hget,if_neg (fun hh=>this (.inl hh)),if_neg hk]
        ·intro hh;exact hk ((hmem k).2 (.inr ⟨m,hm,hh⟩))
        ·rcases (hmem k).1 hk with rfl|⟨m,hm,rfl⟩
         ·refine .obj fun os' hos i cs'' hi=>?_
          rw [hget,if_pos rfl] at hos
          cases hos
          by_cases hik:i=k₀
          ·subst hik
           rw [List.getElem?_set_self hk₀] at hi
           cases hi
           refine .inr ⟨new,ct,setRow_heap w _ cur new ct (0,0) hb,?_,hpr,ZaK how⟩
           have hc1:RepCells (g.remap φ) (w.setRow (g.ω i) new) OBJS i (cur.toList.take cs.length) cs:=hcells.2.mono hext' (fun _=>Nat.le_refl _) (fun j=>Zev (hφκ i j) (hsame _)) (fun _ h=>h) (fun _ _=>rfl)
           have hc2:=ZkS (g:=g) (w:=w) (off:=off) (vs:=(a.eval v).cells.toList) ⟨hcells.1,hc1⟩ ⟨s1,fun j u q hu hq=>(s2 j u q hu hq).mono hextr (fun _=>Nat.le_refl _) (fun b hb=>⟨hb,rfl,hsame' _ b hb⟩) (fun _ h=>h) (fun _ _=>rfl)⟩ hput
           simpa [new] using hc2
          ·rw [List.getElem?_set_ne (Ne.symm hik)] at hi
           have hne:g.ω i≠g.ω k₀:=fun hh=>hik (h.dob os i k₀ q3 (Zaq hi) hk₀ hh)
           obtain ⟨vs',e1,e2⟩:=Ze2 h q3 (Zaq hi)
           exact ((h.key OBJS).ob rfl os q3 i cs'' hi).mono hext' (fun _=>Nat.le_refl _) (fun j=>Zev (hφκ i j) (hsame _)) (fun _ h=>h) (fun _ _=>rfl) (setRow_other w _ _ _ hne) rfl (by rw [ZaK e2,e2])
         ·refine .tmp (hmO _ hm) ?_
          have hne:k≠OBJS:=by have:=hmO _ hm;omega
          rw [hget,if_neg hne,if_pos hk]
          exact ((h.key k).tm (hmO _ hm)).plain'.mono hextr (fun _=>Nat.le_refl _) (fun _ _ b hb=>⟨hb,rfl,hsame' _ b hb⟩) (fun _ h=>h) (fun _ _=>rfl)
        ·exact ⟨os,os.set k₀ cs',q3,by rw [hget,if_pos rfl],by simp⟩
      ·cases heq
     ·cases heq
    ·cases heq
   ·cases heq
 ·cases ho
theorem ZoG {n:Option Nat} {cs:List C} {off:Nat} (h:off+Zfl n<=cs.length) (i:Nat):(ZbQ n cs off)[i]? =if off<=i/\i<off+Zfl n then (cs[i]?).map C.plain else cs[i]? :=by
 have hm:(cs.take off).length=off:=by rw [List.length_take];omega
 have hm2:(((cs.drop off).take (Zfl n)).map C.plain).length=Zfl n:=by simp;omega
 unfold ZbQ
 rcases Nat.lt_or_ge i off with h1|h1
 ·rw [if_neg Zo,List.append_assoc,List.getElem?_append_left Zo,List.getElem?_take,if_pos h1]
 ·rcases Nat.lt_or_ge i (off+Zfl n) with h2|h2
  ·rw [if_pos ⟨h1,h2⟩,List.append_assoc,List.getElem?_append_right Zo,hm,List.getElem?_append_left Zo,List.getElem?_map,List.getElem?_take,if_pos Zo,List.getElem?_drop,show off+(i-off)=i by omega]
  ·rw [if_neg Zo,List.append_assoc,List.getElem?_append_right Zo,hm,List.getElem?_append_right Zo,hm2,List.getElem?_drop]
   congr 1
   omega
theorem RepCells.taken {g:G} {w:World} {φ:Loc->Loc} {k c:Nat} {vs:List Value} {cs:List C} {n:Option Nat} {off:Nat} (h:RepCells g w k c vs cs) (hle:off+Zfl n<=cs.length)
  (hφ: ∀i,¬(off<=i/\i<off+Zfl n)->φ (k,c,i)=(k,c,i)):RepCells (g.remap φ) w k c vs (ZbQ n cs off):=by
 refine ⟨by rw [h.1];simp [ZbQ];omega,fun i u x hu hx=>?_⟩
 rw [ZoG hle] at hx
 split at hx
 ·cases hc:cs[i]? with
  | none=>rw [hc] at hx;cases hx
  | some y=>rw [hc] at hx;cases hx;exact (h.2 i u y hu hc).plain'
 ·rename_i hi
  exact (h.2 i u x hu hx).mono (ZaN (Ext.refl _ _ _ _)) (fun _=>Nat.le_refl _) (Za0 (hφ i hi)) (fun _ h=>h) (fun _ _=>rfl)
theorem Zdc {cs:List C} {n:Option Nat} {off:Nat} (hle:off+Zfl n<=cs.length):(ZbQ n cs off).length=cs.length:=by
 simp [ZbQ];omega
def Zpn (Pg:Program) (κ:Nat) (n:Option Nat) (o:Oper) (s:SOp) (nt:Nat):Bool:=
 match o.op,o.dst,s.ins,s.outs,s.takes with
 | .load t x,some d,[y,.k κ'],[d',κ''],[κ₃]=>Zcl x y && κ'==κ && κ''==κ && κ₃==κ && Nat.ble BOX κ && ZgT Pg t n && d==d' && Nat.blt d nt
 | _,_,_,_,_=>false
theorem ZuL (h:St g e a w) {o:Oper} {s:SOp} {κ:Nat} {n:Option Nat} (hk:s.kind= .loadBT κ n) (ho:Zpn Pg κ n o s g.nt=true) (hd:doOp F s e=some e'):OpOut Pg o a w g e':=by
 unfold Zpn at ho
 split at ho
 ·rename_i t x d y κ' d' κ'' κ₃ hop hdst hins hout htk
  simp only [Bool.and_eq_true,beq_iff_eq,Nat.ble_eq,Nat.blt_eq] at ho
  obtain ⟨⟨⟨⟨⟨⟨⟨o1,e1⟩,e2⟩,e3⟩,hκ⟩,o3⟩,e4⟩,hlt⟩:=ho
  obtain ⟨d,rfl⟩: ∃d₀:Nat,d₀=d:=⟨d,rfl⟩
  rw [e1] at hins
  rw [e2,<-e4] at hout
  rw [e3] at htk
  have hκo:OBJS<κ:=by have:=Zau;omega
  have hdO:d<OBJS:=Nat.lt_of_lt_of_le hlt h.nt
  have hds:d<a.tmps.size:=Nat.lt_of_lt_of_le hlt h.sz
  unfold doOp at hd
  rw [hk,hins,hout,htk] at hd
  simp only [List.map_cons,List.map_nil,ZaI] at hd
  have hbx:Zbl e [κ] (.k κ)=e.get κ:=by simp [Zbl]
  rw [hbx] at hd
  unfold ZiZ at hd
  split at hd
  ·cases hd
  ·rename_i ds heq
   split at heq
   ·rename_i κ₀ off cs heq2
    simp only [List.cons.injEq,and_true] at heq2
    obtain ⟨q1,q3⟩:=heq2
    split at heq
    ·rename_i hc
     simp only [beq_iff_eq] at hc
     subst hc
     split at heq
     ·rename_i z hz
      simp only [Option.some.injEq] at heq
      subst heq
      simp only [ZaA,Env.sets,Option.some.injEq] at hd
      subst hd
      have hptr:=ZfR h o1 [κ₀]
      rw [q1] at hptr
      have hptr':a.eval x=R.val g ⟨true,κ₀,off⟩:=hptr
      have hbox:=(h.key κ₀).bx hκ cs q3
      obtain ⟨vs,v1,v2,v3,v4,v5⟩:=ZgH hbox hz
      obtain ⟨cur,ct,hb,hcells,hpr,how⟩:=hbox.cells (ZJr hz)
      let φ:Loc->Loc:=fun ℓ=>if ℓ.1=κ₀/\ℓ.2.1=0/\off<=ℓ.2.2/\ℓ.2.2<off+Zfl n then (d,0,ℓ.2.2-off) else ℓ
      have hlive:e.get κ₀≠ .undef:=by rw [q3];simp
      refine ⟨.value (valA n vs),valA n vs,w,g.remap φ,?_,.inl rfl,?_,ZaN (Ext.refl _ _ _ _),rfl,rfl,rfl⟩
      ·simp only [execOp,hop,hptr',R.val,if_true,Instr.loadAt,Instr.sureAddr]
       rw [Zaw,Sem.run_bind,Sem.run_pure,Result.andThen_ok,Zex o3 v1 v2,Result.andThen_ok]
      ·rw [hdst]
       have hne:d≠κ₀:=by omega
       have hget: ∀k,(((e.set κ₀ (e.get κ₀).plain).set d (.a z)).set κ₀ (.a (.agg (ZbQ n cs off)))).get k=if k=κ₀ then .a (.agg (ZbQ n cs off)) else if k=d then .a z else e.get k:=fun k=>by
        rw [Env.get_set,Env.get_set,Env.get_set]
        by_cases h1:κ₀=k
        ·subst h1;simp
        ·by_cases h2:d=k
         ·subst h2;simp [h1,hne]
         ·simp [h1,h2,Ne.symm h1,Ne.symm h2]
       refine h.gen [d,κ₀] (fun b=>g.pr b=0/\g.ow b=none) (ZaN (Ext.refl _ _ _ _)) (ZbV h.fr (Nat.le_refl _)) rfl rfl rfl (by rw [Zb6];exact h.df) Zd6
        (fun k hk=>?_) (fun k hk _=>?_) (fun k hk c i=>Za0 (by simp at hk;simp [φ,hk])) (fun _=> .inl rfl) (fun b hb=>⟨rfl,rfl,by rw [ZaK hb.2,hb.2]⟩)
        (fun κ _ hκ hl=>(Zb7 h hκ hl).2) (fun _ os i ho hi=>(Ze2 h ho hi).2) (fun k hk=>?_) (fun κ hm hκb=>?_) (fun hm=>?_) (fun κ hm hκb hl=>?_)
       ·simp at hk;rw [hget,if_neg hk.2,if_neg hk.1]
       ·simp at hk;exact Zbb hk.1
       ·simp at hk
        rcases hk with rfl|rfl
        ·refine .tmp hdO ?_
         rw [hget,if_neg hne,if_pos rfl,Zbe hds]
         have hcl:RepCells (g.remap φ) w k 0 vs ((cs.drop off).take (Zfl n)):=⟨by simp;omega,fun i u y hu hy=>(v3 i u y hu hy).mono (ZaN (Ext.refl _ _ _ _)) (fun _=>Nat.le_refl _) (Za0 (by
           have hi:i<Zfl n:=by have:=Zaq hu;omega
           simp [φ,hi])) (fun _ h=>h) (fun _ _=>rfl)⟩
         exact hcl.wrap v5
        ·refine .box hκ fun cs'' hcs=>?_
         rw [hget,if_pos rfl] at hcs
         cases hcs
         exact .inr ⟨cur,ct,hb,⟨by rw [Zdc v4];exact hcells.1,by rw [Zdc v4];exact hcells.2.taken v4 (fun i hi=>by simp only [φ];rw [if_neg (fun hh=>hi hh.2.2)])⟩,hpr,ZaK how⟩
       ·simp at hm
        rcases hm with rfl|rfl
        ·have:=Zau;omega
        ·rw [hget,if_pos rfl];exact .inr ⟨_,rfl⟩
       ·simp at hm;omega
       ·simp at hm
        rcases hm with rfl|rfl
        ·have:=Zau;omega
        ·exact .inl ⟨hlive,rfl⟩
     ·cases heq
    ·cases heq
   ·cases heq
 ·cases ho
theorem ZO0 (h:St g e a w) {o:Oper} {s:SOp} {κ off:Nat} (hk:s.kind= .loadC κ off) (ho:Zpn Pg κ none o s g.nt=true) (hd:doOp F s e=some e'):OpOut Pg o a w g e':=by
 refine ZuL (F:=F) h (s:={s with kind:= .loadBT κ none}) rfl ho ?_
 unfold doOp at hd⊢
 rw [hk] at hd
 simp only [ZaI] at hd⊢
 cases hq:ZIu κ off (s.ins.map (Zbl e s.takes)) with
 | none=>rw [hq] at hd;cases hd
 | some ds=>
   rw [hq] at hd
   have:ZiZ κ none (s.ins.map (Zbl e s.takes))=some ds:=by
     unfold ZIu at hq
     split at hq
     · rename_i κ' off' cs heq
       split at hq
       · rename_i hc
         simp only [Bool.and_eq_true,beq_iff_eq] at hc
         obtain ⟨rfl,rfl⟩:=hc
         rw [heq]
         simp only [ZiZ,beq_self_eq_true,if_true]
         exact hq
       · cases hq
     · cases hq
   rw [this]
   exact hd
def Zpq (Pg:Program) (n:Option Nat) (o:Oper) (s:SOp) (nt:Nat):Bool:=
 match o.op,o.dst,s.ins,s.outs,s.takes with
 | .load t x,some d,[y,.k κ'],[d',κ''],[κ₃]=>Zcl x y && κ'==OBJS && κ''==OBJS && κ₃==OBJS && ZgT Pg t n && d==d' && Nat.blt d nt
 | _,_,_,_,_=>false
theorem ZuA (h:St g e a w) {o:Oper} {s:SOp} {n:Option Nat} (hk:s.kind= .loadOT n) (ho:Zpq Pg n o s g.nt=true) (hd:doOp F s e=some e'):OpOut Pg o a w g e':=by
 unfold Zpq at ho
 split at ho
 ·rename_i t x d y κ' d' κ'' κ₃ hop hdst hins hout htk
  simp only [Bool.and_eq_true,beq_iff_eq,Nat.blt_eq] at ho
  obtain ⟨⟨⟨⟨⟨⟨o1,e1⟩,e2⟩,e3⟩,o3⟩,e4⟩,hlt⟩:=ho
  obtain ⟨d,rfl⟩: ∃d₀:Nat,d₀=d:=⟨d,rfl⟩
  rw [e1] at hins
  rw [e2,<-e4] at hout
  rw [e3] at htk
  have hdO:d<OBJS:=Nat.lt_of_lt_of_le hlt h.nt
  have hds:d<a.tmps.size:=Nat.lt_of_lt_of_le hlt h.sz
  unfold doOp at hd
  rw [hk,hins,hout,htk] at hd
  simp only [List.map_cons,List.map_nil,ZaI] at hd
  have hbx:Zbl e [OBJS] (.k OBJS)=e.get OBJS:=by simp [Zbl]
  rw [hbx] at hd
  unfold Zky at hd
  split at hd
  ·cases hd
  ·rename_i ds heq
   split at heq
   ·rename_i k₀ off os heq2
    simp only [List.cons.injEq,and_true] at heq2
    obtain ⟨q1,q3⟩:=heq2
    split at heq
    ·rename_i cs hcs
     split at heq
     ·rename_i z hz
      simp only [Option.some.injEq] at heq
      subst heq
      simp only [ZaA,Env.sets,Option.some.injEq] at hd
      subst hd
      have hptr:=ZfR h o1 [OBJS]
      rw [q1] at hptr
      have hptr':a.eval x=R.val g ⟨false,k₀,off⟩:=hptr
      have hk₀:=Zaq hcs
      have hbox:=(h.key OBJS).ob rfl os q3 k₀ cs hcs
      obtain ⟨vs,v1,v2,v3,v4,v5⟩:=ZgH hbox hz
      obtain ⟨cur,ct,hb,hcells,hpr,how⟩:=hbox.cells (ZJr hz)
      let φ:Loc->Loc:=fun ℓ=>if ℓ.1=OBJS/\ℓ.2.1=k₀/\off<=ℓ.2.2/\ℓ.2.2<off+Zfl n then (d,0,ℓ.2.2-off) else ℓ
      refine ⟨.value (valA n vs),valA n vs,w,g.remap φ,?_,.inl rfl,?_,ZaN (Ext.refl _ _ _ _),rfl,rfl,rfl⟩
      ·simp only [execOp,hop,hptr',R.val,Bool.false_eq_true,if_false,Instr.loadAt,Instr.sureAddr]
       rw [Zaw,Sem.run_bind,Sem.run_pure,Result.andThen_ok,Zex o3 v1 v2,Result.andThen_ok]
      ·rw [hdst]
       have hne:d≠OBJS:=by omega
       have hget: ∀k,(((e.set OBJS (e.get OBJS).plain).set d (.a z)).set OBJS (.objs (os.set k₀ (ZbQ n cs off)))).get k=if k=OBJS then .objs (os.set k₀ (ZbQ n cs off)) else if k=d then .a z else e.get k:=fun k=>by
        rw [Env.get_set,Env.get_set,Env.get_set]
        by_cases h1:OBJS=k
        ·subst h1;simp
        ·by_cases h2:d=k
         ·subst h2;simp [h1,hne]
         ·simp [h1,h2,Ne.symm h1,Ne.symm h2]
       have hbig: ∀κ,κ∈[d,OBJS]-> ¬BOX<=κ:=fun κ hm hb=>by have:=Zau;simp at hm;omega
       refine h.gen [d,OBJS] (fun b=>g.pr b=0/\g.ow b=none) (ZaN (Ext.refl _ _ _ _)) (ZbV h.fr (Nat.le_refl _)) rfl rfl rfl (by rw [Zb6];exact h.df) Zd6
        (fun k hk=>?_) (fun k hk _=>?_) (fun k hk c i=>Za0 (by simp at hk;simp [φ,hk])) (fun _=> .inl rfl) (fun b hb=>⟨rfl,rfl,by rw [ZaK hb.2,hb.2]⟩)
        (fun κ _ hκ hl=>(Zb7 h hκ hl).2) (fun _ os i ho hi=>(Ze2 h ho hi).2) (fun k hk=>?_) (fun κ hm hκb=>absurd hκb (hbig κ hm)) (fun hm=>⟨os,os.set k₀ _,q3,by rw [hget,if_pos rfl],by simp⟩) (fun κ hm hκb hl=>absurd hκb (hbig κ hm))
       ·simp at hk;rw [hget,if_neg hk.2,if_neg hk.1]
       ·simp at hk;exact Zbb hk.1
       ·simp at hk
        rcases hk with rfl|rfl
        ·refine .tmp hdO ?_
         rw [hget,if_neg hne,if_pos rfl,Zbe hds]
         have hcl:RepCells (g.remap φ) w k 0 vs ((cs.drop off).take (Zfl n)):=⟨by simp;omega,fun i u y hu hy=>(v3 i u y hu hy).mono (ZaN (Ext.refl _ _ _ _)) (fun _=>Nat.le_refl _) (Za0 (by
           have hi:i<Zfl n:=by have:=Zaq hu;omega
           simp [φ,hi])) (fun _ h=>h) (fun _ _=>rfl)⟩
         exact hcl.wrap v5
        ·refine .obj fun os' hos i cs'' hi=>?_
         rw [hget,if_pos rfl] at hos
         cases hos
         by_cases hik:i=k₀
         ·subst hik
          rw [List.getElem?_set_self hk₀] at hi
          cases hi
          exact .inr ⟨cur,ct,hb,⟨by rw [Zdc v4];exact hcells.1,by rw [Zdc v4];exact hcells.2.taken v4 (fun j hj=>by simp only [φ];rw [if_neg (fun hh=>hj hh.2.2)])⟩,hpr,ZaK how⟩
         ·rw [List.getElem?_set_ne (Ne.symm hik)] at hi
          obtain ⟨_,_,e2⟩:=Ze2 h q3 (Zaq hi)
          exact ((h.key OBJS).ob rfl os q3 i cs'' hi).mono (ZaN (Ext.refl _ _ _ _)) (fun _=>Nat.le_refl _) (fun j=>Za0 (by simp [φ,hik])) (fun _ h=>h) (fun _ _=>rfl) rfl rfl (by rw [ZaK e2,e2])
     ·cases heq
    ·cases heq
   ·cases heq
 ·cases ho
end each
end Go.Am
end
section
namespace Go.Am
variable [WI]
variable {Pg:Program}
def ZlQ (e:Env) (κ:Nat):Prop:=e.get κ= .undef/\ ∀k,(e.get k).ment κ=false
theorem ZtV {g:G} {w:World} {k c:Nat} {vs:Array Value} {cs:List C} (h:RepCells g w k c vs.toList cs):cs.length<=vs.size/\RepCells g w k c (vs.toList.take cs.length) cs:=by
 have hl:vs.toList.length=cs.length:=h.1
 rw [<-hl,List.take_length]
 exact ⟨by simp,h⟩
theorem Zuc (T:Nat->Prop) (pr:Nat->Nat) (ow:Nat->Option Loc) (w:World) (o:Obj):Ext T pr ow w (w.alloc o) pr ow:=by
 refine ⟨rfl,rfl,rfl,by simp,fun b o' hb=>⟨o',?_,SameObj.refl _ _⟩,fun _ _=>Nat.le_refl _,fun _ _ h _=>⟨rfl,h⟩,fun b hb _ _=>heap_alloc_old w o b hb⟩
 rw [heap_alloc_old w o b (ZaB hb)];exact hb
theorem ZkP {v:Value} {c:C} (h:ZfU v c=true) (κ:Nat):c.ment κ=false:=by
 unfold ZfU at h
 split at h<;>first|rfl|cases h
theorem Zk2 (κ:Nat): ∀(vs:List Value) (cs:List C),Zj0 vs cs=true->cs.any (C.ment κ)=false
 | [],[],_=>rfl
 | v::vs,c::cs,h=>by
   simp only [Zj0,Bool.and_eq_true] at h
   simp [ZkP h.1 κ,Zk2 κ vs cs h.2]
 | [],_::_,h=>by cases h
 | _::_,[],h=>by cases h
theorem plain_ment (κ:Nat) (c:C):c.plain.ment κ=c.ment κ:=by cases c<;>rfl
theorem A.plain_ment (κ:Nat) (x:A):x.plain.ment κ=x.ment κ:=by
 cases x with
 | one c=>simp [A.ment,A.plain,A.cells,Am.plain_ment]
 | agg cs=>
   simp only [A.ment,A.plain,A.cells,List.any_map]
   congr 1
   funext c
   exact Am.plain_ment κ c
theorem D.plain_ment (κ:Nat) (x:D):x.plain.ment κ=x.ment κ:=by
 cases x with
 | a x=>exact A.plain_ment κ x
 | tup xs=>
   simp only [D.ment,D.plain,List.any_map]
   congr 1
   funext c
   exact A.plain_ment κ c
 | _=>rfl
theorem ZvR {e:Env} {κ:Nat} (hno:ZlQ e κ) {x:Operand} {y:Arg} (h:Zcl x y=true) (takes:List Nat):(Zbl e takes y).ment κ=false:=by
 cases y with
 | k m=>
   simp only [Zbl]
   split
   · exact hno.2 m
   · rw [D.plain_ment];exact hno.2 m
 | c c=>
   cases x with
   | tmp t=>simp [Zcl] at h
   | const v=>simp [Zbl,D.ment,A.ment,A.cells,ZkP h κ]
   | global g=>simp [Zcl] at h
   | func f=>
     cases c with
     | clo f' p q=>
       cases p<;>cases q<;>simp [Zcl] at h
       subst h;rfl
     | _=>simp [Zcl] at h
section each
variable {F:ZaQ} {g:G} {e e':Env} {a:Act} {w:World}
theorem St.newBox (h:St g e a w) {d κ:Nat} (hlt:d<g.nt) (hκ:BOX<=κ) (hno:ZlQ e κ) {cells:Array Value} {cs:List C} (t:TypeId) (hc:RepCells g w κ 0 cells.toList cs) (hm:cs.any (C.ment κ)=false):
   ∃g',St g' ((e.set d (.a (.one (.ref ⟨true,κ,0⟩)))).set κ (.a (.agg cs))) (a.put (some d) (.pointer (some ⟨w.heap.size,0,none⟩))) (w.alloc (.cells cells t))/\
     Ext g.T g.pr g.ow w (w.alloc (.cells cells t)) g'.pr g'.ow/\g'.ω=g.ω/\g'.T=g.T/\g'.nt=g.nt:=by
 have hsame: ∀ℓ b,g.ow b=some ℓ->(w.alloc (Obj.cells cells t)).heap[b]? =w.heap[b]? :=fun ℓ b hb=>heap_alloc_old w _ b (by
   rcases Nat.lt_or_ge b w.heap.size with hh|hh
   · exact hh
   · rw [(h.fr b hh).2] at hb;cases hb)
 have hdO:d<OBJS:=Nat.lt_of_lt_of_le hlt h.nt
 have hds:d<a.tmps.size:=Nat.lt_of_lt_of_le hlt h.sz
 have hne:d≠κ:=by have:=Zau;omega
 let g':G:={g with β:=fun k=>if k=κ then w.heap.size else g.β k}
 have hext:Ext g.T g.pr g.ow w (w.alloc (.cells cells t)) g'.pr g'.ow:=Zuc _ _ _ _ _
 have hget: ∀k,((e.set d (.a (.one (.ref ⟨true,κ,0⟩)))).set κ (.a (.agg cs))).get k=if k=κ then .a (.agg cs) else if k=d then .a (.one (.ref ⟨true,κ,0⟩)) else e.get k:=fun k=>by
   rw [Env.get_set,Env.get_set]
   by_cases h1:κ=k
   · subst h1;simp
   · by_cases h2:d=k
     · subst h2;simp [h1,hne]
     · simp [h1,h2,Ne.symm h1,Ne.symm h2]
 refine ⟨g',?_,hext,rfl,rfl,rfl⟩
 refine h.gen [d,κ] (fun b=>b<w.heap.size) hext (fun b hb=>h.fr b (by simp at hb;omega)) rfl rfl rfl (by rw [Zb6];exact h.df) Zd6 (fun k hk=>?_) (fun k hk _=>?_) (fun k hk c i b hb=>⟨hb,rfl,hsame _ b hb⟩)
   (fun κ'=>?_) (fun b hb=>⟨heap_alloc_old w _ b hb,rfl,rfl⟩) (fun κ' _ hκ' hl=>(Zb7 h hκ' hl).1) (fun _ os i ho hi=>(Ze2 h ho hi).1) (fun k hk=>?_) (fun κ' hm hκb=>?_) (fun hm=>?_) (fun κ' hm hκb hl=>?_)
 · simp at hk;rw [hget,if_neg hk.2,if_neg hk.1]
 · simp at hk;exact Zbb hk.1
 · by_cases hh:κ'=κ
   · subst hh;exact .inr ⟨hno.1,fun k _=>hno.2 k⟩
   · exact .inl (by simp [g',hh])
 · simp at hk
   rcases hk with rfl|rfl
   · refine .tmp hdO ?_
     rw [hget,if_neg hne,if_pos rfl,Zbe hds]
     show _=R.val g' _
     simp [R.val,g']
   · refine .box hκ fun cs'' hcs=>?_
     rw [hget,if_pos rfl] at hcs
     cases hcs
     have hb:g'.β k=w.heap.size:=by simp [g']
     rw [hb]
     refine .inr ⟨cells,t,heap_alloc_new w _,ZtV (hc.mono hext (fun _=>Nat.le_refl _) (fun _ b hb=>⟨hb,rfl,hsame _ b hb⟩) (fun _ h=>h) (fun r hr=>?_)),?_⟩
     · unfold R.val
       cases hown:r.own with
       | false=>rfl
       | true=>
         have:r.k≠k:=fun hh=>by
           have h2:=hr hown
           rw [hh,hm] at h2;cases h2
         simp [g',this]
     · exact ⟨(h.fr _ (Nat.le_refl _)).1,(h.fr _ (Nat.le_refl _)).2⟩
 · simp at hm
   rcases hm with rfl|rfl
   · have:=Zau;omega
   · rw [hget,if_pos rfl];exact .inr ⟨_,rfl⟩
 · simp at hm;have:=Zau;omega
 · simp at hm
   rcases hm with rfl|rfl
   · have:=Zau;omega
   · refine .inr ⟨.inl (by simp [g']),fun κ'' hm' hκ'' _ _=>?_⟩
     simp at hm'
     rcases hm' with rfl|rfl
     · have:=Zau;omega
     · rfl
def Zsm (Pg:Program) (κ:Nat) (z:List C) (o:Oper) (s:SOp) (nt:Nat):Bool:=
 match o.op,o.dst,s.ins,s.outs,s.takes with
 | .alloc t,some d,[],[d',κ'],[]=>κ'==κ && Nat.ble BOX κ && d==d' && Nat.blt d nt && Zrz Pg t z
 | _,_,_,_,_=>false
theorem ZwW (h:St g e a w) {o:Oper} {s:SOp} {κ:Nat} {z:List C} (hk:s.kind= .alloc κ z) (ho:Zsm Pg κ z o s g.nt=true) (hno:ZlQ e κ) (hd:doOp F s e=some e'):OpOut Pg o a w g e':=by
 unfold Zsm at ho
 split at ho
 ·rename_i t d d' κ' hop hdst hins hout htk
  simp only [Bool.and_eq_true,beq_iff_eq,Nat.ble_eq,Nat.blt_eq] at ho
  obtain ⟨⟨⟨⟨e1,hκ⟩,e2⟩,hlt⟩,hz⟩:=ho
  obtain ⟨d,rfl⟩: ∃d₀:Nat,d₀=d:=⟨d,rfl⟩
  rw [e1,<-e2] at hout
  obtain ⟨ds,hx,hs⟩:=Zqq htk hd
  rw [hk,hins] at hx
  simp only [List.map_nil,ZaI,ZnH,Option.some.injEq] at hx
  subst hx
  rw [hout] at hs
  simp only [Env.sets,Option.some.injEq] at hs
  subst hs
  unfold Zrz at hz
  split at hz
  ·rename_i inf hi
   split at hz
   ·rename_i zv hzv
    obtain ⟨g',h1,h2,h3,h4,h5⟩:=h.newBox (cells:=zv.cells) hlt hκ hno t (ZfH g w κ 0 _ _ hz) (Zk2 κ _ _ hz)
    refine ⟨.value _,_,_,g',?_,.inl rfl,by rw [hdst];exact h1,h2,h3,h4,h5⟩
    simp [execOp,hop,Instr.alloc,Zcs hi hzv,newVar,newRow]
   ·cases hz
  ·cases hz
 ·cases ho
def ZBJ (κ:Nat) (o:Oper) (s:SOp) (nt:Nat):Bool:=
 match o.op,o.dst,s.ins,s.outs,s.takes with
 | .box _ x,some d,[y],[d',κ'],[]=>κ'==κ && Nat.ble BOX κ && d==d' && Nat.blt d nt && Zcl x y
 | _,_,_,_,_=>false
theorem ZB9 (h:St g e a w) {o:Oper} {s:SOp} {κ:Nat} (hk:s.kind= .box κ) (ho:ZBJ κ o s g.nt=true) (hno:ZlQ e κ) (hd:doOp F s e=some e'):OpOut Pg o a w g e':=by
 unfold ZBJ at ho
 split at ho
 ·rename_i t x d y d' κ' hop hdst hins hout htk
  simp only [Bool.and_eq_true,beq_iff_eq,Nat.ble_eq,Nat.blt_eq] at ho
  obtain ⟨⟨⟨⟨e1,hκ⟩,e2⟩,hlt⟩,hz⟩:=ho
  obtain ⟨d,rfl⟩: ∃d₀:Nat,d₀=d:=⟨d,rfl⟩
  rw [e1,<-e2] at hout
  obtain ⟨ds,hx,hs⟩:=Zqq htk hd
  rw [hk,hins] at hx
  simp only [List.map_cons,List.map_nil,ZaI] at hx
  unfold Ztb at hx
  split at hx
  ·rename_i z heq
   simp only [List.cons.injEq,and_true] at heq
   simp only [Option.some.injEq] at hx
   subst hx
   rw [hout] at hs
   simp only [Env.sets,Option.some.injEq] at hs
   subst hs
   obtain ⟨c1,c2⟩:=ZqE h hz heq κ 0 0
   have hment:=ZvR hno hz []
   rw [heq] at hment
   obtain ⟨g',h1,h2,h3,h4,h5⟩:=h.newBox (cells:=(a.eval x).cells) hlt hκ hno t ⟨c1,fun i u q hu hq=>by have:=c2 i u q hu hq;rwa [Nat.zero_add] at this⟩ hment
   refine ⟨.value _,_,_,g',?_,.inl rfl,by rw [hdst];exact h1,h2,h3,h4,h5⟩
   simp [execOp,hop,Instr.box,newVar,newRow]
  ·cases hx
 ·cases ho
end each
end Go.Am
end
section
namespace Go.Am
variable [WI] {Pg:Program} {F:ZaQ} {g:G} {e e':Env} {a:Act} {w:World}
def φt (m κ:Nat):Loc->Loc:=fun ℓ=>if ℓ.1=m/\ℓ.2.1=0 then (κ,0,ℓ.2.2) else ℓ
theorem St.taken (h:St g e a w) {m κ:Nat} (hm:m<OBJS):St (g.remap (φt m κ)) (e.set m (e.get m).plain) a w:=by
 have hext:Ext g.T g.pr g.ow w w g.pr g.ow:=Ext.refl _ _ _ _
 have hext':Ext g.T g.pr g.ow w w (g.remap (φt m κ)).pr (g.remap (φt m κ)).ow:=ZaN hext
 have hφ: ∀k c i,k≠m->φt m κ (k,c,i)=(k,c,i):=fun k c i hk=>if_neg fun hh=>hk hh.1
 refine h.gen [m] (fun b=>g.pr b=0/\g.ow b=none) hext' (ZbV h.fr (Nat.le_refl _)) rfl rfl rfl h.df rfl (fun k hk=>?_) (fun _ _ _=>rfl) (fun k hk c i=>Zev (hφ k c i fun hh=>?_) (fun _ _=>rfl)) (fun _=> .inl rfl)
  (fun b hb=>⟨rfl,rfl,by rw [ZaK hb.2,hb.2]⟩) (fun κ' _ hκ2 hl=>⟨(Zb7 h hκ2 hl).2.1,(Zb7 h hκ2 hl).2.2⟩)
  (fun _ os i ho hi=>⟨(Ze2 h ho hi).2.1,(Ze2 h ho hi).2.2⟩) (fun k hk=>?_) (fun κ' hm' hκb=>?_) (fun hm'=>?_) (fun κ' hm' hκb hl=>?_)
 ·simp at hk
  exact Env.get_set_ne _ _ (Ne.symm hk)
 ·simp at hk;exact hk hh
 ·simp at hk
  subst hk
  refine .tmp hm ?_
  rw [Env.get_set_same]
  exact ((h.key k).tm hm).plain'.mono (by
   exact ⟨hext.os,hext.tape,hext.output,hext.size,hext.blk,fun _ _=>Nat.le_refl _,fun _ _ hh _=>⟨rfl,hh⟩,fun b hb ho hT=>hext.hid b hb (by simpa [G.remap] using ho) hT⟩) (fun _=>Nat.le_refl _) (fun _ _ b hb=>⟨hb,rfl,rfl⟩) (fun _ h=>h) (fun _ _=>rfl)
 ·simp at hm';have:=Zau;omega
 ·simp at hm';omega
 ·simp at hm';have:=Zau;omega
def Zv0 (κ:Nat) (o:Oper) (s:SOp) (nt:Nat):Bool:=
 match o.op,o.dst,s.ins,s.outs,s.takes with
 | .box _ x,some d,[.k m],[d',κ'],[m']=>κ'==κ && m==m' && Nat.ble BOX κ && d==d' && Nat.blt d nt && Zcl x (.k m)
 | _,_,_,_,_=>false
theorem ZxX (h:St g e a w) {o:Oper} {s:SOp} {κ:Nat} (hk:s.kind= .box κ) (ho:Zv0 κ o s g.nt=true) (hno:ZlQ e κ) (hd:doOp F s e=some e'):OpOut Pg o a w g e':=by
 unfold Zv0 at ho
 split at ho
 · rename_i t x d m d' κ' m' hop hdst hins hout htk
   simp only [Bool.and_eq_true,beq_iff_eq,Nat.ble_eq,Nat.blt_eq] at ho
   obtain ⟨⟨⟨⟨⟨e1,e3⟩,hκ⟩,e2⟩,hlt⟩,hz⟩:=ho
   obtain ⟨d,rfl⟩: ∃d₀:Nat,d₀=d:=⟨d,rfl⟩
   rw [e1,<-e2] at hout
   rw [<-e3] at htk
   have hmO:m<OBJS:=(ZjR hz).2
   have hκO:OBJS<κ:=by have:=Zau;omega
   unfold doOp at hd
   rw [hk,hins,hout,htk] at hd
   have ha:Zbl e [m] (.k m)=e.get m:=by simp [Zbl]
   simp only [List.map_cons,List.map_nil,ZaI,ha] at hd
   unfold Ztb at hd
   cases hg:e.get m with
   | a z=>
     rw [hg] at hd
     simp only [Env.sets,Option.some.injEq] at hd
     subst hd
     obtain ⟨s1,s2,_⟩:=ZwH h hz (Nat.le_of_lt hκO) (takes:=[κ,m]) (.inr ⟨m,rfl,rfl⟩) (x:=z) (by simp [Zbl,hg]) (φt m κ) κ 0 0 (fun m' i h1 _=>by cases h1;simp [φt])
     have hno':ZlQ (e.set m (e.get m).plain) κ:=⟨by rw [Env.get_set_ne _ _ Zo];exact hno.1,fun k=>by
       by_cases hkm:m=k
       · subst hkm;rw [Env.get_set_same,D.plain_ment];exact hno.2 m
       · rw [Env.get_set_ne _ _ hkm];exact hno.2 k⟩
     have hment:z.cells.any (C.ment κ)=false:=by have:=hno.2 m;rw [hg] at this;exact this
     obtain ⟨g',h1,h2,h3,h4,h5⟩:=(h.taken (κ:=κ) hmO).newBox (cells:=(a.eval x).cells) (cs:=z.cells) hlt hκ hno' t ⟨s1,fun i u q hu hq=>by have:=s2 i u q hu hq;rwa [Nat.zero_add] at this⟩ hment
     refine ⟨.value _,.pointer (some ⟨w.heap.size,0,none⟩),w.alloc (.cells (a.eval x).cells t),g',?_,.inl rfl,?_,?_,h3,h4,h5⟩
     · simp [execOp,hop,Instr.box,newVar,newRow]
     · rw [hdst];exact h1
     · exact ⟨h2.os,h2.tape,h2.output,h2.size,h2.blk,h2.prle,fun b hb ho' hT=>by
         obtain ⟨q1,q2⟩:=h2.keep b hb (ZaK ho') hT
         exact ⟨q1,q2⟩,fun b hb ho' hT=>h2.hid b hb (ZaK ho') hT⟩
   | _=>rw [hg] at hd;simp at hd
 · cases ho
end Go.Am
end
section
namespace Go.Am
variable [WI]
variable {Pg:Program}
theorem ZsO (s:Nat): ∀(vs:List Value) (k:Nat) (cells:Array Value),(∀v∈vs,v.cells.size=s)->(k+vs.length)*s<=cells.size->
   ∃cells',Instr.fill (fun i=>some (i*s,s)) cells ((List.range' k vs.length).zip vs)=some cells'/\cells'.size=cells.size/\
     (∀i,i<k*s->cells'[i]? =cells[i]?)/\(∀(i:Nat) v,vs[i]? =some v-> ∀j,j<s->cells'[(k+i)*s+j]? =v.cells[j]?)
 | [],k,cells,_,_=>⟨cells,rfl,rfl,fun _ _=>rfl,fun i v h=>by simp at h⟩
 | v::vs,k,cells,hv,hl=>by
   have h0:=hv v Zs
   have hk:k*s+s<=cells.size:=by
     have:(k+1)*s<=(k+(v::vs).length)*s:=Nat.mul_le_mul_right _ Zs
     rw [Nat.add_mul,Nat.one_mul] at this
     omega
   let c1:Array Value:=v.cells.zipIdx.foldl (fun cs (c,j)=>cs.setIfInBounds (k*s+j) c) cells
   have hc1:c1.size=cells.size:=by
     simp only [c1];rw [<-Array.foldl_toList];exact Zf4 _ _ _
   have hg1: ∀i,c1[i]? =if k*s<=i/\i<k*s+s then v.cells[i-k*s]? else cells[i]? :=fun i=>by
     simp only [c1]
     rw [<-Array.foldl_toList,Array.toList_zipIdx]
     have:=Znw v.cells.toList cells (k*s) 0 (by simp [h0];omega) i
     simp only [Nat.add_zero,Array.length_toList,h0,Array.getElem?_toList] at this
     exact this
   obtain ⟨c2,f1,f2,f3,f4⟩:=ZsO s vs (k+1) c1 (fun u hu=>hv u (by simp [hu])) (by rw [hc1];simpa [Nat.add_assoc,Nat.add_comm 1] using hl)
   refine ⟨c2,?_,f2.trans hc1,fun i hi=>?_,fun i u hu j hj=>?_⟩
   · simp only [List.length_cons,List.range'_succ,List.zip_cons_cons,Instr.fill]
     have hcond: ¬(v.cells.size≠s∨k*s+v.cells.size>cells.size):=by rw [h0];omega
     rw [if_neg (by simpa using hcond)]
     exact f1
   · rw [f3 i (by rw [Nat.add_mul];omega),hg1,if_neg Zo]
   · cases i with
     | zero=>
       simp at hu;subst hu
       rw [Nat.add_zero,f3 _ (by rw [Nat.add_mul];omega),hg1,if_pos Zo]
       congr 1;omega
     | succ i=>
       have:=f4 i u (by simpa using hu) j hj
       rw [<-this,show k+(i+1)=k+1+i by omega]
theorem Zo5 {g:G} {w:World} {k c:Nat}: ∀{cs:List C} {row:List P} {vs:List Value},toPs cs=some row->RepCells g w k c vs cs->
   row.length=cs.length/\ ∀(j:Nat) v x,vs[j]? =some v->row[j]? =some x->RepP g.pr w v x
 | [],row,vs,h,_=>by simp [toPs] at h;subst h;exact ⟨rfl,fun j v x _ hx=>by simp at hx⟩
 | y::cs,row,vs,h,hr=>by
   unfold toPs at h
   split at h
   · rename_i x xs hx hxs
     cases h
     cases vs with
     | nil=>have:=hr.1;simp at this
     | cons v vs=>
       have htail: ∀(i:Nat) u z,vs[i]? =some u->cs[i]? =some z->RepC g w (k,c,i+1) u z:=fun i u z hu hz=>hr.2 (i+1) u z (by simpa using hu) (by simpa using hz)
       have key: ∀(cs:List C) (row:List P) (vs:List Value) (off:Nat),toPs cs=some row->(∀(i:Nat) u z,vs[i]? =some u->cs[i]? =some z->RepC g w (k,c,i+off) u z)->row.length=cs.length/\ ∀(j:Nat) v x,vs[j]? =some v->row[j]? =some x->RepP g.pr w v x:=by
         intro cs
         induction cs with
         | nil=>intro row vs off h _;simp [toPs] at h;subst h;exact ⟨rfl,fun j v x _ hx=>by simp at hx⟩
         | cons y cs ih=>
           intro row vs off h hr
           unfold toPs at h
           split at h
           · rename_i x xs hx hxs
             cases h
             obtain ⟨i1,i2⟩:=ih xs (vs.drop 1) (off+1) hxs (fun i u z hu hz=>by
               have:=hr (i+1) u z (by rw [List.getElem?_drop] at hu;rw [Nat.add_comm];exact hu) (by simpa using hz)
               rwa [show i+1+off=i+(off+1) by omega] at this)
             refine ⟨by simp [i1],fun j v z hv hz=>?_⟩
             cases j with
             | zero=>
               simp at hz;subst hz
               have:=hr 0 v y hv rfl
               cases y with
               | p q=>simp [C.toP] at hx;subst hx;exact this
               | tip s r=>simp [C.toP] at hx;subst hx;exact this.1
               | _=>simp [C.toP] at hx
             | succ j=>exact i2 j v z (by rw [List.getElem?_drop,Nat.add_comm];exact hv) (by simpa using hz)
           · cases h
       have:=key (y::cs) (x::xs) (v::vs) 0 (by simp [toPs,hx,hxs]) (fun i u z hu hz=>hr.2 i u z hu hz)
       exact this
   · cases h
theorem Zj6: ∀(ds:List D) (rows:List (List P)),Zgu ds=some rows->ds.length=rows.length
 | [],rows,h=>by simp [Zgu] at h;subst h;rfl
 | .a x::ds,rows,h=>by
   unfold Zgu at h
   split at h
   · rename_i row rows' _ hr
     cases h
     simp [Zj6 _ _ hr]
   · cases h
 | .undef::_,_,h=>by simp [Zgu] at h
 | .tup _::_,_,h=>by simp [Zgu] at h
 | .objs _::_,_,h=>by simp [Zgu] at h
theorem ZnU: ∀(ds:List D) (rows:List (List P)),Zgu ds=some rows-> ∀(i:Nat) row,rows[i]? =some row-> ∃x,ds[i]? =some (.a x)/\toPs x.cells=some row
 | [],rows,h,i,row,hi=>by simp [Zgu] at h;subst h;simp at hi
 | .a x::ds,rows,h,i,row,hi=>by
   unfold Zgu at h
   split at h
   · rename_i row' rows' h1 hr
     cases h
     cases i with
     | zero=>simp at hi;subst hi;exact ⟨x,rfl,h1⟩
     | succ i=>exact ZnU _ _ hr i row (by simpa using hi)
   · cases h
 | .undef::_,_,h,_,_,_=>by simp [Zgu] at h
 | .tup _::_,_,h,_,_,_=>by simp [Zgu] at h
 | .objs _::_,_,h,_,_,_=>by simp [Zgu] at h
def G.lay (g:G) (b n:Nat) (ℓ:Loc):G:={g with pr:=fun k=>if k=b then n else g.pr k,ow:=fun k=>if k=b then some ℓ else g.ow k}
theorem ZgD {pr:Nat->Nat} {w:World} {b o s len cap:Nat} {rows:List (List P)} (hl:len=rows.length) (hcap:len<=cap) (hpr:o+len*s<=pr b) (hlen: ∀(i:Nat) row,rows[i]? =some row->row.length=s)
  (h: ∀(i:Nat) row (j:Nat) x,rows[i]? =some row->row[j]? =some x-> ∃v,w.cell? ⟨b,o+i*s+j,none⟩=some v/\RepP pr w v x):RepP pr w (.slice (some ⟨b,o,none⟩) len cap) (.sl s rows):=by
 refine .sl b o len cap s rows (fun i j=>(w.cell? ⟨b,o+i*s+j,none⟩).getD undef) hl hcap hpr hlen (fun i j hi hj=>?_) (fun i row j x hi hj=>?_)
 ·have hi':i<rows.length:=by omega
  have hr:rows[i]? =some rows[i]:=List.getElem?_eq_getElem hi'
  have hj':j<rows[i].length:=by rw [hlen i _ hr];exact hj
  obtain ⟨v,hv,_⟩:=h i _ j _ hr (List.getElem?_eq_getElem hj')
  rw [hv];rfl
 ·obtain ⟨v,hv,hr⟩:=h i row j x hi hj
  rw [hv];exact hr
section each
variable {F:ZaQ} {g:G} {e e':Env} {a:Act} {w:World}
theorem St.newRow (h:St g e a w) {d:Nat} (hlt:d<g.nt) {cells:Array Value} (t:TypeId) {s len cap:Nat} {rows:List (List P)} (hl:len=rows.length) (hcap:len<=cap) (hsz:cap*s<=cells.size) (hlen: ∀(i:Nat) row,rows[i]? =some row->row.length=s)
  (hc: ∀(i:Nat) row (j:Nat) x,rows[i]? =some row->row[j]? =some x-> ∃v,cells[i*s+j]? =some v/\RepP g.pr w v x) (w₀:World) (hw:w₀=w∨w₀=w.drew):
  ∃g',St g' (e.set d (.a (.one (.tip s rows)))) (a.put (some d) (.slice (some ⟨w.heap.size,0,none⟩) len cap)) (w₀.alloc (.cells cells t))/\
   Ext g.T g.pr g.ow w (w₀.alloc (.cells cells t)) g'.pr g'.ow/\g'.ω=g.ω/\g'.T=g.T/\g'.nt=g.nt:=by
 have hdO:d<OBJS:=Nat.lt_of_lt_of_le hlt h.nt
 have hds:d<a.tmps.size:=Nat.lt_of_lt_of_le hlt h.sz
 let g':G:=g.lay w.heap.size (len*s) (d,0,0)
 let w':World:=w₀.alloc (.cells cells t)
 have hheap:w'.heap=w.heap.push (.cells cells t):=by rcases hw with rfl|rfl<;>rfl
 have hold: ∀b,b<w.heap.size->w'.heap[b]? =w.heap[b]? :=fun b hb=>by rw [hheap,Array.getElem?_push];simp [Nat.ne_of_lt hb]
 have hnew:w'.heap[w.heap.size]? =some (.cells cells t (0,0)):=by rw [hheap];simp
 have hsize:w'.heap.size=w.heap.size+1:=by rw [hheap];simp
 have hext:Ext g.T g.pr g.ow w w' g'.pr g'.ow:=by
  refine ⟨?_,?_,?_,by rw [hsize];omega,fun b o' hb=>⟨o',by rw [hold b (ZaB hb)];exact hb,SameObj.refl _ _⟩,fun b hb=>?_,fun b hb ho=>?_,fun b hb _ _=>?_⟩
  ·rcases hw with rfl|rfl<;>rfl
  ·rcases hw with rfl|rfl<;>rfl
  ·rcases hw with rfl|rfl<;>rfl
  ·simp [g',G.lay,Nat.ne_of_lt hb]
  ·simp [g',G.lay,Nat.ne_of_lt hb,ho]
  ·exact hold _ ‹_›
 have hp:=hext.prle' h.fr
 have hprn:g'.pr w.heap.size=len*s:=by simp [g',G.lay]
 refine ⟨g',?_,hext,rfl,rfl,rfl⟩
 have hbig: ∀κ,κ∈[d]-> ¬BOX<=κ:=fun κ hm hb=>by have:=Zau;simp at hm;omega
 refine h.gen [d] (fun b=>b<w.heap.size) hext (fun b hb=>?_) rfl rfl rfl (by rw [Zb6];exact h.df) Zd6 (fun k hk=>Env.get_set_ne _ _ (by simp at hk;omega)) (fun k hk _=>Zbb (by simpa using hk))
  (fun k hk c i b hb=>?_) (fun _=> .inl rfl) (fun b hb=>⟨hold b hb,by simp [g',G.lay,Nat.ne_of_lt hb],by simp [g',G.lay,Nat.ne_of_lt hb]⟩) (fun κ _ hκ hl=>(Zb7 h hκ hl).1) (fun _ os i ho hi=>(Ze2 h ho hi).1)
  (fun k hk=>?_) (fun κ hm hκ=>absurd hκ (hbig κ hm)) (fun hm=>by simp at hm;omega) (fun κ hm hκ=>absurd hκ (hbig κ hm))
 ·change w'.heap.size<=b at hb
  rw [hsize] at hb
  have hne:b≠w.heap.size:=by omega
  simp [g',G.lay,hne,h.fr b Zo]
 ·have hne:b≠w.heap.size:=fun hh=>by rw [hh,(h.fr _ (Nat.le_refl _)).2] at hb;cases hb
  refine ⟨by simp [g',G.lay,hne,hb],by simp [g',G.lay,hne],hold b ?_⟩
  rcases Nat.lt_or_ge b w.heap.size with hh|hh
  ·exact hh
  ·rw [(h.fr b hh).2] at hb;cases hb
 ·simp at hk;subst hk
  refine .tmp hdO ?_
  rw [Env.get_set_same,Zbe hds]
  have hrep:RepP g'.pr w' (.slice (some ⟨w.heap.size,0,none⟩) len cap) (.sl s rows):=by
   refine ZgD hl hcap (by rw [hprn];omega) hlen fun i row j x hi hj=>?_
   obtain ⟨v,hv,hr⟩:=hc i row j x hi hj
   refine ⟨v,?_,hr.mono hext.keeps hp⟩
   rw [ZG6 hnew,Nat.zero_add];exact hv
  refine ⟨hrep,some ⟨w.heap.size,0,none⟩,cap,by rw [hl],?_⟩
  refine .inr ⟨w.heap.size,0,rfl,by omega,?_,?_,cells,t,hnew,by omega⟩
  ·rw [hprn];simp [hl]
  ·simp [g',G.lay]
theorem Zoc {g:G} {e:Env} {a:Act} {w:World} (h:St g e a w): ∀(xs:List Operand) (ys:List Arg),Zeo xs ys=true-> ∀(i:Nat) x,xs[i]? =some x-> ∃y,ys[i]? =some y/\Zcl x y=true
 | [],[],_,i,x,hx=>by simp at hx
 | x::xs,y::ys,ho,i,z,hz=>by
   simp only [Zeo,Bool.and_eq_true] at ho
   cases i with
   | zero=>simp at hz;subst hz;exact ⟨y,rfl,ho.1⟩
   | succ i=>simpa using Zoc h xs ys ho.2 i z (by simpa using hz)
 | [],_::_,ho,_,_,_=>by cases ho
 | _::_,[],ho,_,_,_=>by cases ho
def Zlw (Pg:Program) (el:TypeId) (s:Nat):Bool:=
 match Pg.info? el with
 | some i=>(match i.zero with
   | some v=>v.cells.size==s
   | none=>false) && Nat.ble i.bytes 2048
 | none=>false
theorem Zmf {el s:Nat} (h:Zlw Pg el s=true): ∃i v,Pg.info? el=some i/\i.zero=some v/\v.cells.size=s/\i.bytes<=2048:=by
 unfold Zlw at h
 split at h
 ·rename_i i hi
  rw [Bool.and_eq_true] at h
  obtain ⟨h1,h2⟩:=h
  split at h1
  ·rename_i v hv
   exact ⟨i,v,hi,hv,by simpa using h1,by simpa using h2⟩
  ·cases h1
 ·cases h
def Zmy (Pg:Program) (t:TypeId) (s:Nat):Bool:=
 ZpD Pg t s && (match Pg.underlying t with|some (.slice el)=>Zlw Pg el s|_=>false)
theorem Zez {t s:Nat} (h:Zmy Pg t s=true): ∃el i v,Pg.underlying t=some (.slice el)/\Pg.info? el=some i/\i.size=s/\0<s/\i.zero=some v/\v.cells.size=s/\i.bytes<=2048:=by
 unfold Zmy at h
 rw [Bool.and_eq_true] at h
 obtain ⟨el,i,u1,u2,u3,u4⟩:=ZfK h.1
 have h2:=h.2
 rw [u1] at h2
 obtain ⟨i',v,z1,z2,z3,z4⟩:=Zmf h2
 rw [u2] at z1;cases z1
 exact ⟨el,i,v,u1,u2,u3,u4,z2,z3,z4⟩
def Zic (Pg:Program) (z:Nat) (o:Oper) (s:SOp) (nt:Nat):Bool:=
 Zie o s nt && match o.op with
 | .buildSlice t len ps=>Zmy Pg t z && ps.toList.map (·.1)==List.range' 0 len && Zeo (ps.toList.map (·.2)) s.ins && Nat.ble (len*z) (2 ^ 24)
 | _=>false
theorem Zn4 (h:St g e a w) {o:Oper} {s:SOp} {z:Nat} (hk:s.kind= .buildSlice z) (ho:Zic Pg z o s g.nt=true) (hd:doOp F s e=some e'):OpOut Pg o a w g e':=by
 unfold Zic at ho
 rw [Bool.and_eq_true] at ho
 obtain ⟨d,h1,h2,h3,hlt⟩:=Ziq ho.1
 obtain ⟨x,hx,rfl⟩:=Zk8 h3 h2 hd
 have ho2:=ho.2
 split at ho2
 ·rename_i t len ps hop
  simp only [Bool.and_eq_true,beq_iff_eq,Nat.ble_eq] at ho2
  obtain ⟨⟨⟨o1,o2⟩,o3⟩,o4⟩:=ho2
  obtain ⟨el,inf,zv,u1,u2,u3,u4,u5,u6,u7⟩:=Zez o1
  rw [hk] at hx
  simp only [ZaI,ZdT] at hx
  split at hx
  ·rename_i rows hrows
   split at hx
   ·rename_i hall
    simp only [Zx5,and_true] at hx
    subst hx
    have hlen: ∀(i:Nat) row,rows[i]? =some row->row.length=z:=fun i row hi=>by
     have:=List.all_eq_true.1 hall row (List.mem_of_getElem? hi)
     simpa using this
    have hpl:ps.toList.length=len:=by have:=congrArg List.length o2;simpa using this
    have hrl:rows.length=len:=by
     rw [<-Zj6 _ _ hrows,List.length_map,<-Zj1 _ _ o3,List.length_map,hpl]
    let vs:List Value:=ps.toList.map fun q=>a.eval q.2
    have hvsl:vs.length=len:=by simp [vs,hpl]
    have hrow: ∀(i:Nat) v,vs[i]? =some v-> ∃(x:A) (row:List P),rows[i]? =some row/\toPs x.cells=some row/\RepCells g w 0 0 v.cells.toList x.cells:=fun i v hv=>by
     have hi:=Zaq hv
     have hri:rows[i]? =some rows[i]:=List.getElem?_eq_getElem Zo
     obtain ⟨x,hx1,hx2⟩:=ZnU _ _ hrows i _ hri
     have hopi:(ps.toList.map (·.2))[i]? =some (ps.toList[i]'(by omega)).2:=by rw [List.getElem?_map,List.getElem?_eq_getElem Zo];rfl
     obtain ⟨y,hy1,hy2⟩:=Zoc h _ _ o3 i _ hopi
     rw [List.getElem?_map,hy1] at hx1
     simp only [Option.map_some,Option.some.injEq] at hx1
     have hev:v=a.eval (ps.toList[i]'(by omega)).2:=by
      simp only [vs,List.getElem?_map,List.getElem?_eq_getElem (show i<ps.toList.length by omega),Option.map_some,Option.some.injEq] at hv
      exact hv.symm
     have hr:=ZbL h hy2 0
     rw [hx1] at hr
     exact ⟨x,rows[i],hri,hx2,by rw [hev];exact RepA.cells hr⟩
    have hsz: ∀v∈vs,v.cells.size=z:=fun v hv=>by
     obtain ⟨i,hi,rfl⟩:=List.getElem_of_mem hv
     obtain ⟨x,row,r1,r2,r3⟩:=hrow i _ (List.getElem?_eq_getElem hi)
     have:=(Zo5 r2 r3).1
     have e1:=r3.1
     rw [hlen i row r1] at this
     simp at e1
     omega
    let zero:Array Value:=if len*z=0 then #[] else zv.cells
    let c0:Array Value:=(Array.range (len*z)).map (zero[· % zero.size]!)
    obtain ⟨cells,f1,f2,f3,f4⟩:=ZsO z vs 0 c0 hsz (by simp [c0,hvsl])
    have hc0:c0.size=len*z:=by simp [c0]
    have hfill:ps.toList.map (fun q=>(q.1,a.eval q.2))=(List.range' 0 vs.length).zip vs:=by
     rw [hvsl,<-o2]
     simp only [vs]
     rw [List.zip_map']
    obtain ⟨g',s1,s2,s3,s4,s5⟩:=h.newRow (cells:=cells) hlt el (rows:=rows) (s:=z) (len:=len) (cap:=len) hrl.symm (Nat.le_refl _) (by rw [f2,hc0];exact Nat.le_refl _) hlen (fun i row j x hi hj=>by
     have hi':i<vs.length:=by have:=Zaq hi;omega
     obtain ⟨x',row',r1,r2,r3⟩:=hrow i _ (List.getElem?_eq_getElem hi')
     rw [hi] at r1;cases r1
     obtain ⟨t1,t2⟩:=Zo5 r2 r3
     have hj':j<z:=by have:=Zaq hj;rw [hlen i row hi] at this;exact this
     have hv:=f4 i _ (List.getElem?_eq_getElem hi') j hj'
     have hjv:j<vs[i].cells.toList.length:=by have:=hsz _ (List.getElem_mem hi');simp;omega
     refine ⟨vs[i].cells.toList[j],?_,t2 j _ x (List.getElem?_eq_getElem hjv) hj⟩
     rw [Nat.zero_add] at hv
     rw [hv,<-Array.getElem?_toList,List.getElem?_eq_getElem hjv]) w (.inl rfl)
    refine ⟨.value _,_,_,g',?_,.inl rfl,by rw [h1];exact s1,s2,s3,s4,s5⟩
    simp only [execOp,hop]
    rw [Zaw]
    have hnl: ¬len*inf.size>2 ^ 24:=by rw [u3];omega
    have hf:Instr.fill (fun i=>some (i*inf.size,inf.size)) c0 (ps.toList.map fun q=>(q.1,a.eval q.2))=some cells:=by rw [u3,hfill];exact f1
    have hc0':(Array.map (fun x=>zero[x % zero.size]!) (Array.range (len*inf.size)))=c0:=by simp only [c0,u3]
    simp only [Instr.buildSlice,Sem.run_bind,run_underlying u1,Result.andThen_ok,sizeOf,typeInfo,run_program,u2,Sem.run_pure,hnl,if_false]
    by_cases hz0:len*inf.size=0
    ·have hzero:zero= #[]:=by simp only [zero];rw [<-u3,if_pos hz0]
     rw [hzero] at hc0'
     rw [if_pos hz0]
     simp only [Sem.run_bind,Sem.run_pure,Result.andThen_ok,Array.toList_map,hc0',hf]
     simp [newRow]
    ·have hzero:zero=zv.cells:=by simp only [zero];rw [<-u3,if_neg hz0]
     rw [hzero] at hc0'
     rw [if_neg hz0]
     simp only [Sem.run_bind,Sem.run_pure,Zcs u2 u5,Result.andThen_ok,Array.toList_map,hc0',hf]
     simp [newRow]
   ·cases hx
  ·cases hx
 ·cases ho2
def Zi7 (Pg:Program) (z:Nat) (o:Oper) (s:SOp) (nt:Nat):Bool:=
 Zie o s nt && match o.op with
 | .makeSlice t l c=>Zmy Pg t z && ok2 l c s
 | _=>false
theorem Zo7 (h:St g e a w) {o:Oper} {s:SOp} {z:Nat} (hk:s.kind= .makeSlice z) (ho:Zi7 Pg z o s g.nt=true) (hd:doOp F s e=some e'):OpOut Pg o a w g e':=by
 unfold Zi7 at ho
 rw [Bool.and_eq_true] at ho
 obtain ⟨d,h1,h2,h3,hlt⟩:=Ziq ho.1
 obtain ⟨x,hx,rfl⟩:=Zk8 h3 h2 hd
 have ho2:=ho.2
 split at ho2
 ·rename_i t l c hop
  rw [Bool.and_eq_true] at ho2
  obtain ⟨el,inf,zv,u1,u2,u3,u4,u5,u6,u7⟩:=Zez ho2.1
  obtain ⟨d1,d2,q1,q2,q3⟩:=Zj2 h ho2.2
  rw [hk,q1] at hx
  simp only [ZaI] at hx
  unfold Zgn at hx
  split at hx
  ·rename_i n heq
   simp only [List.cons.injEq,and_true] at heq
   obtain ⟨rfl,rfl⟩:=heq
   split at hx
   ·rename_i hn
    simp only [Zx5,and_true] at hx
    subst hx
    have e1:=Zei (q2 0)
    have e2:=Zei (q3 0)
    obtain ⟨n0,n1⟩:=hn
    unfold ZeA at n1
    let zero:Array Value:=if n.toNat*z=0 then #[] else zv.cells
    let c0:Array Value:=(Array.range (n.toNat*z)).map (zero[· % zero.size]!)
    obtain ⟨g',s1,s2,s3,s4,s5⟩:=h.newRow (cells:=c0) hlt el (rows:=[]) (s:=z) (len:=0) (cap:=n.toNat) rfl (Nat.zero_le _) (by simp [c0]) (fun i row hi=>by simp at hi) (fun i row j x hi=>by simp at hi) w (.inl rfl)
    refine ⟨.value _,_,_,g',?_,.inl rfl,by rw [h1];exact s1,s2,s3,s4,s5⟩
    have hw0:IntKind.i64.wrap 0=0:=by decide
    have hwn:IntKind.i64.wrap n=n:=by
     unfold IntKind.wrap IntKind.bits IntKind.signed
     simp
     omega
    have hbytes: ¬((inf.bytes:Int)*n>2 ^ 48):=by
     have:(inf.bytes:Int)*n<=2048*68719476736:=Int.mul_le_mul Zo Zo n0 Zo
     omega
    simp only [execOp,hop,e1,e2]
    rw [Zaw]
    have hcond2:(decide (n<0)||decide ((inf.bytes:Int)*n>2 ^ 48)||decide ((0:Int)<0)||decide ((0:Int)>n))=false:=by
     simp;omega
    have hc0':(Array.map (fun x=>zero[x % zero.size]!) (Array.range (n.toNat*inf.size)))=c0:=by simp only [c0,u3]
    simp only [Instr.makeSlice,Sem.run_bind,run_underlying u1,Result.andThen_ok,asInt,asIntOf,Sem.run_pure,typeInfo,run_program,u2,hw0,hwn,hcond2,Bool.false_eq_true,if_false,run_askRoom,sizeOf]
    by_cases hz0:n.toNat*inf.size=0
    ·have hzero:zero= #[]:=by simp only [zero];rw [<-u3,if_pos hz0]
     rw [hzero] at hc0'
     rw [if_pos hz0]
     simp only [Sem.run_bind,Sem.run_pure,Result.andThen_ok,hc0']
     simp [newRow]
    ·have hzero:zero=zv.cells:=by simp only [zero];rw [<-u3,if_neg hz0]
     rw [hzero] at hc0'
     rw [if_neg hz0]
     simp only [Sem.run_bind,Sem.run_pure,Zcs u2 u5,Result.andThen_ok,hc0']
     simp [newRow]
   ·cases hx
  ·cases hx
 ·cases ho2
end each
end Go.Am
end
section
namespace Go.Am
variable [WI]
variable {Pg:Program}
theorem RepC.later {g g':G} {w w':World} {ℓ ℓ':Loc} {v:Value} {c:C} (h:RepC g w ℓ v c) (he:Ext g.T g.pr g.ow w w' g'.pr g'.ow) (hp: ∀b,g.pr b<=g'.pr b) (hr: ∀r:R,(r.own=true->c.ment r.k=true)->r.val g'=r.val g):RepC g' w' ℓ' v c.plain:=by
 cases c with
 | p x=>exact RepP.mono h he.keeps hp
 | tip s rows=>exact RepP.mono h.1 he.keeps hp
 | ref r=>have:v=r.val g:=h;rw [<-hr r (fun ho=>by simp [C.ment,ho])] at this;exact this
 | view row off=>
   obtain ⟨b,o,hv,hrow,hle⟩:=h
   exact ⟨b,o,hv,hrow.mono hle he.keeps hp,Nat.le_trans hle (hp b)⟩
 | clo f first caps=>
   have h':v= .func (.func f) (first.map (R.val g)).toArray (caps.map (R.val g)).toArray:=h
   have e1:first.map (R.val g')=first.map (R.val g):=List.map_congr_left fun r hm=>hr r (fun ho=>by simp only [C.ment,Bool.or_eq_true,List.any_eq_true];exact .inl ⟨r,hm,by simp [ho]⟩)
   have e2:caps.map (R.val g')=caps.map (R.val g):=List.map_congr_left fun r hm=>hr r (fun ho=>by simp only [C.ment,Bool.or_eq_true,List.any_eq_true];exact .inr ⟨r,hm,by simp [ho]⟩)
   show v=_
   rw [e1,e2];exact h'
 | closs f r=>have:v= .func (.func f) #[.agg #[r.val g]] #[]:=h;rw [<-hr r (fun ho=>by simp [C.ment,ho])] at this;exact this
 | nilp=>exact h
 | uniq s r=>obtain ⟨a,cap,rfl,_⟩:=h;exact ⟨a,cap,rfl⟩
 | bytes s r=>obtain ⟨a,cap,rfl,_⟩:=h;exact ⟨a,cap,rfl⟩
 | map r es=>
   obtain ⟨_,_,h,_⟩:=h
   show v=_
   rw [R.blk_eq (hr r (fun ho=>by simp [C.ment,ho]))];exact h
 | mptr r=>
   have h':v= .map (some (r.blk g)):=h
   show v=_
   rw [R.blk_eq (hr r (fun ho=>by simp [C.ment,ho]))];exact h'
 | hdr n=>exact h
 | mapc es=>exact h.elim
 | mapl es=>exact h.elim
 | own r s n=>
   obtain ⟨cap,hv,hn,cs,t,hb,hsz⟩:=h
   have hr':=hr r (fun ho=>by simp [C.ment,ho])
   unfold R.val at hr'
   injection hr' with hr'
   injection hr' with hr'
   injection hr' with h1 _ _
   obtain ⟨o',hb',cs',rfl,hs',_⟩:=he.blk _ _ hb
   exact ⟨cap,by rw [hv,h1],hn,cs',t,by rw [h1];exact hb',by omega⟩
 | junk=>exact h
theorem RepCells.later {g g':G} {w w':World} {k c k' c':Nat} {vs:List Value} {cs:List C} (h:RepCells g w k c vs cs) (he:Ext g.T g.pr g.ow w w' g'.pr g'.ow) (hp: ∀b,g.pr b<=g'.pr b) (hr: ∀r:R,(r.own=true->cs.any (C.ment r.k)=true)->r.val g'=r.val g):RepCells g' w' k' c' vs (cs.map C.plain):=by
 refine ⟨by rw [List.length_map];exact h.1,fun i u x hu hx=>?_⟩
 rw [List.getElem?_map] at hx
 cases hc:cs[i]? with
 | none=>rw [hc] at hx;cases hx
 | some y=>rw [hc] at hx;cases hx;exact (h.2 i u y hu hc).later he hp (fun r hm=>hr r fun ho=>List.any_eq_true.2 ⟨y,List.mem_of_getElem? hc,hm ho⟩)
theorem RepA.later {g g':G} {w w':World} {k c k' c':Nat} {v:Value} {x:A} (h:RepA g w k c v x) (he:Ext g.T g.pr g.ow w w' g'.pr g'.ow) (hp: ∀b,g.pr b<=g'.pr b) (hr: ∀r:R,(r.own=true->x.ment r.k=true)->r.val g'=r.val g):RepA g' w' k' c' v x.plain:=by
 cases x with
 | one x=>exact RepC.later h he hp (fun r hm=>hr r fun ho=>by simp [A.ment,A.cells,hm ho])
 | agg cs=>obtain ⟨vs,rfl,hc⟩:=h;exact ⟨vs,rfl,hc.later he hp hr⟩
theorem RepD.later {g g':G} {w w':World} {k k':Nat} {v:Value} {d:D} (h:RepD g w k v d) (he:Ext g.T g.pr g.ow w w' g'.pr g'.ow) (hp: ∀b,g.pr b<=g'.pr b) (hr: ∀r:R,(r.own=true->d.ment r.k=true)->r.val g'=r.val g):RepD g' w' k' v d.plain:=by
 cases d with
 | undef=>exact True.intro
 | a x=>exact RepA.later h he hp hr
 | tup xs=>
   obtain ⟨vs,rfl,hl,hx⟩:=h
   refine ⟨vs,rfl,by rw [List.length_map];exact hl,fun j u x hu hxs=>?_⟩
   rw [List.getElem?_map] at hxs
   cases hc:xs[j]? with
   | none=>rw [hc] at hxs;cases hxs
   | some y=>rw [hc] at hxs;cases hxs;exact (hx j u y hu hc).later he hp (fun r hm=>hr r fun ho=>List.any_eq_true.2 ⟨y,List.mem_of_getElem? hc,hm ho⟩)
 | objs os=>exact h.elim
def Zjd (base:Option Addr) (n:Nat) (news:List Value):Sem Unit:=
 match base with
 | some a=>storeCells (a.add n) news
 | none=>pure ()
theorem ZlC (base:Option Addr) (n:Nat) (w:World):(Zjd base n []).run Pg w= .ok () w:=by cases base<;>rfl
theorem Zhw {w:World} {t ty el:TypeId} {i:TypeInfo} (ht:Pg.underlying t=some (.slice el)) (hi:Pg.info? el=some i) {base base':Option Addr} {len cap n cap':Nat} (hle:len+n<=cap)
   {news:List Value} (hf:(Builtin.firstCells i.size n (.slice base' n cap')).run Pg w= .ok news.toArray w):
   (Builtin.append_ #[t,t] ty #[.slice base len cap,.slice base' n cap']).run Pg w=
     ((Zjd base (len*i.size) news).run Pg w).andThen fun _ w'=> .ok (.slice base (len+n) cap) w':=by
 cases base with
 | none=>simp [Zjd,Builtin.append_,run_underlying ht,sizeOf,typeInfo,hi,Builtin.lenOf,hle,hf]
 | some ad=>
   simp [Zjd,Builtin.append_,run_underlying ht,sizeOf,typeInfo,hi,Builtin.lenOf,hle,hf]
theorem Zji {pr:Nat->Nat} {w:World} {a:Option Addr} {len cap s:Nat} {rows:List (List P)} (h:RepP pr w (.slice a len cap) (.sl s rows)) (hs:0<s):
   ∃cs:List Value,cs.length=rows.length*s/\(∀(b:Addr),a=some b-> ∀(j:Nat) v,cs[j]? =some v->w.cell? (b.add j)=some v)/\
     (∀(i:Nat) row (j:Nat) x,rows[i]? =some row->row[j]? =some x-> ∃v,cs[i*s+j]? =some v/\RepP pr w v x)/\(rows≠[]-> ∃b o,a=some ⟨b,o,none⟩)/\(∀(i:Nat) row,rows[i]? =some row->row.length=s)/\(∀v∈cs,v.oneCell'=true)/\(rows≠[]-> ∀b o,a=some ⟨b,o,none⟩->o+len*s<=pr b):=by
 cases h with
 | nils=>exact ⟨[],by simp,fun b _ j v h=>by simp at h,fun i row j x h=>by simp at h,fun h=>absurd rfl h,fun i row h=>by simp at h,fun v h=>by simp at h,fun h=>absurd rfl h⟩
 | sl b o _ _ _ _ vs hl hcap hpr hlen hc hr=>
   subst hl
   refine ⟨(List.range (rows.length*s)).map fun k=>vs (k / s) (k % s),by simp,fun b' hb j v hj=>?_,fun i row j x hi hj=>?_,fun _=>⟨b,o,rfl⟩,hlen,fun v hv=>?_,fun _ b' o' hb=>by cases hb;exact hpr⟩
   · cases hb
     have hjl:j<rows.length*s:=by have:=Zaq hj;simpa using this
     rw [List.getElem?_map,List.getElem?_range hjl] at hj
     cases hj
     have hq:j / s<rows.length:=Nat.div_lt_of_lt_mul (by rw [Nat.mul_comm];exact hjl)
     have:=hc (j / s) (j % s) hq (Nat.mod_lt _ hs)
     rw [Addr.add_eq,<-this]
     have e:j / s*s+j % s=j:=by rw [Nat.mul_comm];exact Nat.div_add_mod j s
     congr 2
     omega
   · have hj':j<s:=by have:=Zaq hj;rw [hlen i row hi] at this;exact this
     have hi':=Zaq hi
     have hlt:=ZdS hi' hj'
     refine ⟨vs i j,?_,hr i row j x hi hj⟩
     rw [List.getElem?_map,List.getElem?_range hlt]
     simp only [Option.map_some,Option.some.injEq]
     rw [Nat.mul_comm,Nat.mul_add_div hs,Nat.div_eq_of_lt hj',Nat.mul_add_mod,Nat.mod_eq_of_lt hj',Nat.add_zero]
   · obtain ⟨k,hk,rfl⟩:=List.mem_map.1 hv
     have hk':k<rows.length*s:=by simpa using hk
     have hq:k / s<rows.length:=Nat.div_lt_of_lt_mul (by rw [Nat.mul_comm];exact hk')
     have hri:rows[k / s]? =some rows[k / s]:=List.getElem?_eq_getElem hq
     have hm:k % s<rows[k / s].length:=by rw [hlen _ _ hri];exact Nat.mod_lt _ hs
     exact RepC.oneCell (g:=⟨0,fun _=>True,pr,fun _=>none,fun _=>0,fun _=>0⟩) (ℓ:=(0,0,0)) (c:= .p _) (hr (k / s) _ (k % s) _ hri (List.getElem?_eq_getElem hm))
theorem Zce {rows more:List (List P)} {i:Nat} {row:List P} (h:(rows++more)[i]? =some row):(i<rows.length/\rows[i]? =some row)∨(rows.length<=i/\more[i-rows.length]? =some row):=by
 rcases Nat.lt_or_ge i rows.length with h1|h1
 ·rw [List.getElem?_append_left h1] at h;exact .inl ⟨h1,h⟩
 ·rw [List.getElem?_append_right h1] at h;exact .inr ⟨h1,h⟩
def Arg.isNot (y:Arg) (m:Nat):Bool:=
 match y with
 | .k m'=>m !=m'
 | .c _=>true
def Zuz (y1 y2:Arg) (takes:List Nat) (d:Nat):Bool:=
 match y1 with
 | .k m=>takes==[m] && m !=d && y2.isNot m
 | .c _=>takes==[]
theorem Zew {y1 y2:Arg} {takes:List Nat} {d:Nat} (h:Zuz y1 y2 takes d=true):(takes=[]/\ ∀m,y1≠ .k m)∨ ∃m,takes=[m]/\y1= .k m/\m≠d/\y2≠ .k m:=by
 cases y1 with
 | k m=>
   simp only [Zuz,Bool.and_eq_true,beq_iff_eq,bne_iff_ne] at h
   refine .inr ⟨m,h.1.1,rfl,h.1.2,fun hh=>?_⟩
   subst hh
   have:=h.2
   simp [Arg.isNot] at this
 | c c=>
   simp only [Zuz,beq_iff_eq] at h
   exact .inl ⟨h,by intro m hh;cases hh⟩
theorem Zrv {v:Value} {s:Nat} {rows:List (List P)} (h:ZfU v (.tip s rows)=true):rows=[]/\v= .slice none 0 0:=by
 unfold ZfU at h
 split at h<;>simp_all
def Zlz (Pg:Program) (z:Nat) (o:Oper) (s:SOp) (nt:Nat):Bool:=
 match o.op,o.dst,s.ins,s.outs with
 | .call c,some d,[y1,y2],[d']=>(match c.callee,c.args.toList,c.argTypes.toList with
   | .builtin .append,[x1,x2],[t,t']=>t'==t && Zcl x1 y1 && Zcl x2 y2 && Zmy Pg t z && d==d' && Nat.blt d nt &&
     Zuz y1 y2 s.takes d
   | _,_,_=>false)
 | _,_,_,_=>false
section each
variable {F:ZaQ} {g:G} {e e':Env} {a:Act} {w:World}
theorem St.appended (h:St g e a w) {d:Nat} (hlt:d<g.nt) {takes:List Nat} (htk: ∀m,m∈takes->m<OBJS/\m≠d) (htl:takes=[]∨ ∃m,takes=[m]) {v:Value} {x:D} {g':G} {w':World}
  (hext:Ext g.T g.pr g.ow w w' g'.pr g'.ow) (hfr:ZnQ g'.pr g'.ow w') (hω:g'.ω=g.ω) (hβ:g'.β=g.β) (hT:g'.T=g.T) (hnt:g'.nt=g.nt)
  (how: ∀k,k∉takes->k≠d-> ∀c i,Ze3 g g' w w' (k,c,i) (k,c,i)) (hB: ∀b,b<w.heap.size->g.pr b=0->g.ow b=none->w'.heap[b]? =w.heap[b]? /\g'.pr b=g.pr b/\g'.ow b=g.ow b)
  (hv:RepD g' w' d v x):St g' ((ZaA e takes).set d x) (a.put (some d) v) w':=by
 have hdO:d<OBJS:=Nat.lt_of_lt_of_le hlt h.nt
 have hds:d<a.tmps.size:=Nat.lt_of_lt_of_le hlt h.sz
 have hget: ∀k,((ZaA e takes).set d x).get k=if k=d then x else if k∈takes then (e.get k).plain else e.get k:=fun k=>by
  rw [Env.get_set]
  by_cases hk:d=k
  ·subst hk;simp
  ·rw [if_neg hk,if_neg (Ne.symm hk)]
   rcases htl with rfl|⟨m,rfl⟩
   ·simp [ZaA]
   ·simp only [ZaA,List.mem_singleton]
    rw [Env.get_set]
    by_cases hm:m=k
    ·subst hm;simp
    ·simp [hm,Ne.symm hm]
 have hbig: ∀κ,κ∈d::takes-> ¬BOX<=κ:=fun κ hm hb=>by
  have:=Zau
  rcases List.mem_cons.1 hm with rfl|hm
  ·omega
  ·have:=(htk κ hm).1;omega
 have hno:OBJS∉d::takes:=fun hm=>by
  rcases List.mem_cons.1 hm with hh|hm
  ·omega
  ·have:=(htk _ hm).1;omega
 have hval: ∀r:R,r.val g'=r.val g:=fun r=>by unfold R.val;rw [hω,hβ]
 refine h.gen (d::takes) (fun b=>b<w.heap.size/\g.pr b=0/\g.ow b=none) hext hfr hω hT hnt (by rw [Zb6];exact h.df) Zd6
  (fun k hk=>?_) (fun k hk _=>?_) (fun k hk c i=>?_) (fun κ=> .inl (by rw [hβ])) (fun b hb=>hB b hb.1 hb.2.1 hb.2.2)
  (fun κ _ hκ hl=>Zb7 h hκ hl) (fun _ os i ho hi=>Ze2 h ho hi) (fun k hk=>?_) (fun κ hm hκ=>absurd hκ (hbig κ hm)) (fun hm=>absurd hm hno) (fun κ hm hκ=>absurd hκ (hbig κ hm))
 ·rw [List.mem_cons,not_or] at hk
  rw [hget,if_neg hk.1,if_neg hk.2]
 ·rw [List.mem_cons,not_or] at hk
  exact Zbb hk.1
 ·rw [List.mem_cons,not_or] at hk
  exact how k hk.2 hk.1 c i
 ·rcases List.mem_cons.1 hk with rfl|hk
  ·refine .tmp hdO ?_
   rw [hget,if_pos rfl,Zbe hds];exact hv
  ·obtain ⟨q1,q2⟩:=htk k hk
   refine .tmp q1 ?_
   rw [hget,if_neg q2,if_pos hk,Zbb q2]
   exact ((h.key k).tm q1).later hext (hext.prle' h.fr) (fun r _=>hval r)
theorem Zuu (h:St g e a w) {o:Oper} {s:SOp} {z:Nat} (hk:s.kind= .append z) (ho:Zlz Pg z o s g.nt=true) (hd:doOp F s e=some e'):OpOut Pg o a w g e':=by
 unfold Zlz at ho
 split at ho
 · rename_i c d y1 y2 d' hop hdst hins hout
   split at ho
   · rename_i x1 x2 t t' hcal hargs htys
     simp only [Bool.and_eq_true,beq_iff_eq,Nat.blt_eq] at ho
     obtain ⟨⟨⟨⟨⟨⟨e1,o1⟩,o2⟩,o3⟩,e2⟩,hlt⟩,o4⟩:=ho
     obtain ⟨d,rfl⟩: ∃d₀:Nat,d₀=d:=⟨d,rfl⟩
     rw [<-e2] at hout
     obtain ⟨el,inf,zv,u1,u2,u3,u4,u5,u6,u7⟩:=Zez o3
     have hdO:d<OBJS:=Nat.lt_of_lt_of_le hlt h.nt
     have htl:s.takes=[]∨ ∃m,s.takes=[m]:=(Zew o4).imp (·.1) (fun ⟨m,hm,_⟩=>⟨m,hm⟩)
     have htk: ∀m,m∈s.takes->y1= .k m/\m<OBJS/\m≠d/\y2≠ .k m:=fun m hm=>by
       rcases Zew o4 with ⟨h0,_⟩|⟨m',h0,h1,h2,h3⟩
       · rw [h0] at hm;simp at hm
       · rw [h0] at hm;simp at hm;subst hm
         refine ⟨h1,?_,h2,h3⟩
         rw [h1] at o1
         exact (ZjR o1).2
     have hy1: ∀m,y1= .k m->m∈s.takes:=fun m hm=>by
       rcases Zew o4 with ⟨_,h1⟩|⟨m',h0,h1,_⟩
       · exact absurd hm (h1 m)
       · rw [hm] at h1;cases h1;rw [h0];simp
     unfold doOp at hd
     rw [hk,hins,hout] at hd
     simp only [List.map_cons,List.map_nil,ZaI] at hd
     unfold Zg6 at hd
     split at hd
     · cases hd
     · rename_i ds heq
       split at heq
       · rename_i s' rows c2 heq2
         simp only [List.cons.injEq,and_true] at heq2
         obtain ⟨q1,q2⟩:=heq2
         split at heq
         · rename_i s'' more hmore
           split at heq
           · rename_i hc
             obtain ⟨rfl,rfl,hbd⟩:=hc
             simp only [Option.some.injEq] at heq
             subst heq
             simp only [Env.sets,Option.some.injEq] at hd
             subst hd
             have r1: ∃k,RepC g w (k,0,0) (a.eval x1) (.tip s'' rows)/\(∀m,m∈s.takes->k=m)/\(s.takes=[]->rows=[]/\a.eval x1= .slice none 0 0):=by
               have hr:=ZfR h o1 s.takes
               rw [q1] at hr
               cases y1 with
               | k m=>
                 exact ⟨m,hr,(fun m' hm'=>by have:=(htk m' hm').1;cases this;rfl),fun hh=>by have:=hy1 m rfl;rw [hh] at this;cases this⟩
               | c c=>
                 have hce:c= .tip s'' rows:=by simpa [Zbl] using q1
                 subst hce
                 refine ⟨0,hr,(fun m' hm'=>by have:=(htk m' hm').1;cases this),fun _=>?_⟩
                 cases x1 with
                 | const v=>
                   exact Zrv o1
                 | tmp t=>simp [Zcl] at o1
                 | global g=>simp [Zcl] at o1
                 | func f=>simp [Zcl] at o1
             obtain ⟨k1,r1,hk1,hnil⟩:=r1
             have r2:RepP g.pr w (a.eval x2) (.sl s'' more):=by
               have hr:=ZfR h o2 s.takes
               rw [q2] at hr
               exact ZhO hr hmore
             obtain ⟨rep1,ad1,cap1,v1,hroom⟩:=r1
             obtain ⟨ad2,cap2,v2,hcap2⟩:=r2.slice_inv
             rw [v1] at rep1
             rw [v2] at r2
             obtain ⟨olds,l1,c1,g1,b1,n1,oc1,p1⟩:=Zji rep1 u4
             obtain ⟨news,l2,c2',g2,b2,n2,oc2,p2⟩:=Zji r2 u4
             have hlens: ∀(i:Nat) row,(rows++more)[i]? =some row->row.length=s'':=fun i row hi=>by
               rcases Zce hi with ⟨_,hh⟩|⟨_,hh⟩
               · exact n1 i row hh
               · exact n2 _ row hh
             have htk': ∀m,m∈s.takes->m<OBJS/\m≠d:=fun m hm=>⟨(htk m hm).2.1,(htk m hm).2.2.1⟩
             have hfirst: ∀W:World,(∀ad,W.cell? ad=w.cell? ad)->(Builtin.firstCells inf.size more.length (.slice ad2 more.length cap2)).run Pg W= .ok news.toArray W:=fun W hW=>by
               cases ad2 with
               | none=>
                 have:news=[]:=by
                   cases more with
                   | nil=>simpa using l2
                   | cons r rs=>obtain ⟨_,_,hh⟩:=b2 Zs;cases hh
                 rw [this];exact run_firstCells_none W _ _ _ _
               | some b=>
                 exact run_firstCells_some W _ _ b _ _ news (by rw [l2,u3]) (fun j v hj=>by rw [hW];exact c2' b rfl j v hj)
             have hexec: ∀(v:Value) (w':World),(Builtin.append_ #[t,t] o.type #[.slice ad1 rows.length cap1,.slice ad2 more.length cap2]).run Pg w= .ok v w'->(execOp a.eval o).run Pg w= .ok (.value v) w':=fun v w' hr=>by
               obtain ⟨callee,args,argTypes⟩:=c
               obtain ⟨args⟩:=args
               obtain ⟨argTypes⟩:=argTypes
               simp only at hcal hargs htys
               subst hcal;subst hargs;subst htys;subst e1
               simp only [execOp,hop,resolve,List.map_toArray,List.map_cons,List.map_nil,v1,v2]
               rw [Sem.run_bind,Sem.run_pure,Result.andThen_ok]
               simp only [invoke,builtin]
               rw [Zaw,hr,Result.andThen_ok]
             by_cases hle:rows.length+more.length<=cap1
             ·
               have hrun:=Zhw (Pg:=Pg) (w:=w) (ty:=o.type) u1 u2 (base:=ad1) (base':=ad2) hle (hfirst w fun _=>rfl)
               by_cases hm0:more=[]
               ·
                 have hn0:news=[]:=by rw [hm0] at l2;simpa using l2
                 subst hm0
                 subst hn0
                 rw [ZlC,Result.andThen_ok] at hrun
                 let φ:Loc->Loc:=fun ℓ=>if ℓ.1∈s.takes then (d,ℓ.2) else ℓ
                 refine ⟨.value _,_,w,g.remap φ,hexec _ _ hrun,.inl rfl,?_,ZaN (Ext.refl _ _ _ _),rfl,rfl,rfl⟩
                 rw [hdst]
                 refine h.appended hlt htk' htl (ZaN (Ext.refl _ _ _ _)) (ZbV h.fr (Nat.le_refl _)) rfl rfl rfl rfl (fun k hk _ c i=>Za0 (by simp [φ,hk])) (fun b _ _ hb=>⟨rfl,rfl,by rw [ZaK hb,hb]⟩) ?_
                 simp only [List.append_nil,List.length_nil,Nat.add_zero]
                 refine ⟨rep1,ad1,cap1,rfl,hroom.imp id ?_⟩
                 rintro ⟨b,o',hb,hl,hroom⟩
                 refine ⟨b,o',hb,hl,hroom.mono (ℓ:=(k1,0,0)) ?_ (fun b o hb=>⟨o,hb,SameObj.refl _ _⟩)⟩
                 rcases htl with htl|⟨m,htl⟩
                 · have h0:=(hnil htl).2;rw [v1] at h0;injection h0 with h1;rw [h1] at hb;cases hb
                 · have:=hk1 m (by rw [htl];simp);subst this
                   exact Za0 (by simp [φ,htl])
               ·
                 have hpos:0<more.length:=by cases more with|nil=>exact absurd rfl hm0|cons _ _=>simp
                 rcases hroom with hroom|⟨b,o',hb,hl,hpr,how,cs,el',hcs,hfit⟩
                 · omega
                 subst hb
                 have hmt: ∃m,s.takes=[m]:=by
                   rcases htl with htl|hh
                   · have h0:=(hnil htl).2;rw [v1] at h0;injection h0 with h1;cases h1
                   · exact hh
                 obtain ⟨m,hmt⟩:=hmt
                 have hk1m:=hk1 m (by rw [hmt];simp)
                 subst hk1m
                 let new:Array Value:=(cs.toList.take (o'+rows.length*s'')++news++cs.toList.drop (o'+rows.length*s''+news.length)).toArray
                 have hfit':o'+rows.length*s''+news.length<=cs.size:=by
                   rw [l2]
                   have:(rows.length+more.length)*s''<=cap1*s'':=Nat.mul_le_mul_right _ hle
                   rw [Nat.add_mul] at this
                   omega
                 have hst:(Zjd (some ⟨b,o',none⟩) (rows.length*inf.size) news).run Pg w= .ok () (w.setRow b new):=by
                   show (storeCells ((⟨b,o',none⟩:Addr).add (rows.length*inf.size)) news).run Pg w=_
                   rw [Addr.add_eq,u3]
                   have:=run_storeCells_at Pg b (o'+rows.length*s'') el' news 0 cs w hcs (by simpa using hfit') oc2
                   simpa [new] using this
                 rw [hst,Result.andThen_ok] at hrun
                 have hnsz:new.size=cs.size:=by simp [new];omega
                 have hnget: ∀i,new[i]? =if o'+rows.length*s''<=i/\i<o'+rows.length*s''+news.length then news[i-(o'+rows.length*s'')]? else cs[i]? :=fun i=>by
                   have hm:(cs.toList.take (o'+rows.length*s'')).length=o'+rows.length*s'':=by simp;omega
                   simp only [new,List.getElem?_toArray]
                   rcases Nat.lt_or_ge i (o'+rows.length*s'') with h1|h1
                   · rw [if_neg Zo,List.append_assoc,List.getElem?_append_left Zo,List.getElem?_take,if_pos h1,Array.getElem?_toList]
                   · rcases Nat.lt_or_ge i (o'+rows.length*s''+news.length) with h2|h2
                     · rw [if_pos ⟨h1,h2⟩,List.append_assoc,List.getElem?_append_right Zo,hm,List.getElem?_append_left Zo]
                     · rw [if_neg Zo,List.append_assoc,List.getElem?_append_right Zo,hm,List.getElem?_append_right Zo,List.getElem?_drop,Array.getElem?_toList]
                       congr 1;omega
                 let g':G:={(g.remap fun ℓ=>if ℓ.1=k1 then (d,ℓ.2) else ℓ) with pr:=fun k=>if k=b then o'+(rows.length+more.length)*s'' else g.pr k}
                 have hprb:g'.pr b=o'+(rows.length+more.length)*s'':=by simp [g']
                 have hle':g.pr b<=g'.pr b:=by rw [hprb,hpr,Nat.add_mul];omega
                 have hext0:=Zik (T:=g.T) (ow:=g.ow) hcs hnsz (pr:=g.pr) (fun j hj=>by rw [hnget,if_neg (by rw [hpr] at hj;omega)]) (.inr (by rw [how];simp))
                 have hext:Ext g.T g.pr g.ow w (w.setRow b new) g'.pr g'.ow:=by
                   refine ⟨hext0.os,hext0.tape,hext0.output,hext0.size,hext0.blk,fun k hk=>?_,fun k hk hn=>?_,fun k hk hn hT=>hext0.hid k hk (by simpa [g',G.remap] using hn) hT⟩
                   · by_cases hkb:k=b
                     · subst hkb;exact hle'
                     · simp [g',hkb]
                   · by_cases hkb:k=b
                     · subst hkb;rw [how] at hn;cases hn
                     · simp [g',hkb,G.remap,hn]
                 have hblt:=ZaB hcs
                 refine ⟨.value _,_,w.setRow b new,g',hexec _ _ hrun,.inl rfl,?_,hext,rfl,rfl,rfl⟩
                 rw [hdst]
                 refine h.appended hlt htk' htl hext (fun k hk=>?_) rfl rfl rfl rfl (fun k hk _ c i b' hb'=>?_) (fun k hk hp0 hn=>?_) ?_
                 · have hk':w.heap.size<=k:=by simpa using hk
                   have hkb:k≠b:=by omega
                   simp [g',hkb,G.remap,h.fr k hk']
                 · have hkb:b'≠b:=fun hh=>by
                     rw [hh,how] at hb';cases hb'
                     exact hk (by rw [hmt];simp)
                   have hkm:k≠k1:=fun hh=>hk (by rw [hmt,hh];simp)
                   exact ⟨by simp [g',G.remap,hb',hkb,hkm],by simp [g',hkb],setRow_other w b b' new hkb⟩
                 · have hkb:k≠b:=fun hh=>by rw [hh,how] at hn;cases hn
                   exact ⟨setRow_other w b k new hkb,by simp [g',hkb],by simp [g',G.remap,hn]⟩
                 · have hkeeps:=hext.keeps
                   have hpall:=hext.prle' h.fr
                   have hcellnew: ∀i,(w.setRow b new).cell? ⟨b,i,none⟩=new[i]? :=fun i=>cell_setRow_same w b i cs new el' (0,0) hcs
                   have hrep:RepP g'.pr (w.setRow b new) (.slice (some ⟨b,o',none⟩) (rows.length+more.length) cap1) (.sl s'' (rows++more)):=by
                     refine ZgD Zs hle (by rw [hprb];exact Nat.le_refl _) hlens fun i row j x hi hj=>?_
                     have hj':j<s'':=by have:=Zaq hj;rw [hlens i row hi] at this;exact this
                     rcases Zce hi with ⟨hi1,hh⟩|⟨hi1,hh⟩
                     · obtain ⟨v,hv1,hv2⟩:=g1 i row j x hh hj
                       refine ⟨v,?_,hv2.mono hkeeps hpall⟩
                       have hlt':=ZdS hi1 hj'
                       have:=c1 ⟨b,o',none⟩ rfl (i*s''+j) v hv1
                       rw [Addr.add_eq,ZG6 hcs] at this
                       rw [hcellnew,hnget,if_neg Zo,<-this]
                       congr 1;omega
                     · obtain ⟨v,hv1,hv2⟩:=g2 (i-rows.length) row j x hh hj
                       refine ⟨v,?_,hv2.mono hkeeps hpall⟩
                       have hlt':=Zaq hv1
                       have hi2:i*s''=rows.length*s''+(i-rows.length)*s'':=by rw [<-Nat.add_mul];congr 1;omega
                       rw [hcellnew,hnget,if_pos Zo]
                       rw [<-hv1];congr 1;omega
                   refine ⟨hrep,some ⟨b,o',none⟩,cap1,by simp,.inr ⟨b,o',rfl,by simpa using hle,?_,?_,new,el',setRow_heap w b cs new el' (0,0) hcs,by rw [hnsz];exact hfit⟩⟩
                   · rw [hprb];simp
                   · simp [g',G.remap,how]
             ·
               have hgt:cap1<rows.length+more.length:=by omega
               have hpos:0<more.length:=by
                 rcases Nat.eq_zero_or_pos more.length with h0|h0
                 · have:rows=[]∨rows.length<=cap1:=by
                     rcases hroom with hr|⟨_,_,_,hr,_⟩
                     · exact .inr Zo
                     · exact .inr hr
                   rcases this with rfl|hh
                   · simp at hgt;omega
                   · omega
                 · exact h0
               have hmne:more≠[]:=fun hh=>by rw [hh] at hpos;simp at hpos
               obtain ⟨b₂,o₂,hb₂⟩:=b2 hmne
               subst hb₂
               have hbytes:(rows.length+more.length)*inf.bytes<=140737488355328:=by
                 unfold ZeA at hbd
                 have:(rows.length+more.length)*inf.bytes<=68719476736*2048:=Nat.mul_le_mul Zo u7
                 omega
               have h63:((rows.length+more.length:Nat):Int)<=9223372036854775807:=by unfold ZeA at hbd;omega
               have hrunG: ∃(cells:Array Value) (ncap:Nat),(Builtin.append_ #[t,t] o.type #[.slice ad1 rows.length cap1,.slice (some ⟨b₂,o₂,none⟩) more.length cap2]).run Pg w= .ok (.slice (some ⟨w.heap.size,0,none⟩) (rows.length+more.length) ncap) (w.drew.alloc (.cells cells el))/\
                   rows.length+more.length<=ncap/\ncap*s''<=cells.size/\(∀i,i<rows.length*s''->cells[i]? =olds[i]?)/\(∀i,i<news.length->cells[rows.length*s''+i]? =news[i]?):=by
                 have hcapge: ∀old,rows.length+more.length<=grownCap w (rows.length+more.length) old el:=fun old=>by
                   unfold grownCap Question.cut;exact Nat.le_add_right _ _
                 cases ad1 with
                 | none=>
                   have hr0:rows=[]:=by
                     cases rows with
                     | nil=>rfl
                     | cons r rs=>obtain ⟨_,_,hh⟩:=b1 Zs;cases hh
                   subst hr0
                   have hc0:cap1=0:=by
                     rcases hroom with hr|⟨_,_,hh,_⟩
                     · simpa using hr.symm
                     · cases hh
                   subst hc0
                   have hold0:olds=[]:=by simpa using l1
                   subst hold0
                   simp only [List.length_nil,Nat.zero_add] at*
                   have:=run_append_nil w t o.type el inf zv u1 u2 u5 ⟨b₂,o₂,none⟩ more.length cap2 news (by rw [l2,u3]) (fun j v hj=>c2' _ rfl j v hj) hpos h63 (by
                     have:more.length*inf.bytes<=140737488355328:=hbytes
                     omega)
                   refine ⟨_,_,this,hcapge 0,?_,fun i hi=>by simp at hi,fun i hi=>?_⟩
                   · have hz:(Builtin.zeroCells zv.cells (grownCap w more.length 0 el-more.length)).size=(grownCap w more.length 0 el-more.length)*s'':=by simp [Builtin.zeroCells,u6]
                     have:=hcapge 0
                     rw [Array.size_append,hz,List.size_toArray,l2,<-Nat.add_mul]
                     exact Nat.mul_le_mul_right _ Zo
                   · simp only [Nat.zero_mul,Nat.zero_add]
                     rw [Array.getElem?_append_left (by simpa using hi)]
                     simp
                 | some ad1=>
                   have:=run_append_grow w t o.type el inf zv u1 u2 u5 ad1 rows.length cap1 olds (by rw [l1,u3]) (fun j v hj=>c1 ad1 rfl j v hj) ⟨b₂,o₂,none⟩ more.length cap2 news (by rw [l2,u3]) (fun j v hj=>c2' _ rfl j v hj) hgt h63 (growslice_fits hgt hbytes)
                   refine ⟨_,_,this,hcapge cap1,?_,fun i hi=>?_,fun i hi=>?_⟩
                   · have hz:(Builtin.zeroCells zv.cells (grownCap w (rows.length+more.length) cap1 el-(rows.length+more.length))).size=(grownCap w (rows.length+more.length) cap1 el-(rows.length+more.length))*s'':=by simp [Builtin.zeroCells,u6]
                     have:=hcapge cap1
                     rw [Array.size_append,Array.size_append,hz,List.size_toArray,List.size_toArray,l1,l2,<-Nat.add_mul,<-Nat.add_mul]
                     exact Nat.mul_le_mul_right _ Zo
                   · rw [Array.getElem?_append_left (by simp [l1];omega),Array.getElem?_append_left (by simp [l1];omega)]
                     simp
                   · rw [Array.getElem?_append_left (by simp [l1];omega),Array.getElem?_append_right (by simp [l1])]
                     simp [l1]
               obtain ⟨cells,ncap,hrun,hnc,hcsz,hco,hcn⟩:=hrunG
               let φ:Loc->Loc:=fun ℓ=>ℓ
               have hSt:St g (ZaA e s.takes) a w:=by
                 rcases htl with htl|⟨m,htl⟩
                 · rw [htl];exact h
                 · rw [htl]
                   obtain ⟨_,hmO,hmd,_⟩:=htk m (by rw [htl];simp)
                   have hno:OBJS∉[m]:=by simp;omega
                   have hbig: ∀κ,κ∈[m]-> ¬BOX<=κ:=fun κ hm hb=>by have:=Zau;simp at hm;omega
                   refine h.gen [m] (fun _=>True) (Ext.refl _ _ _ _) h.fr rfl rfl rfl h.df rfl (fun k hk=>Env.get_set_ne _ _ (by simp at hk;omega)) (fun _ _ _=>rfl) (fun _ _ _ _ b hb=>⟨hb,rfl,rfl⟩) (fun _=> .inl rfl) (fun _ _=>⟨rfl,rfl,rfl⟩)
                     (fun _ _ _ _=>trivial) (fun _ _ _ _ _=>trivial) (fun k hk=>?_) (fun κ hm hκ=>absurd hκ (hbig κ hm)) (fun hm=>absurd hm hno) (fun κ hm hκ=>absurd hκ (hbig κ hm))
                   simp at hk;subst hk
                   refine .tmp hmO ?_
                   simp only [ZaA]
                   rw [Env.get_set_same]
                   exact ((h.key k).tm hmO).plain
               obtain ⟨g',s1,s2,s3,s4,s5⟩:=hSt.newRow (cells:=cells) hlt el (rows:=rows++more) (s:=s'') (len:=rows.length+more.length) (cap:=ncap) Zs hnc hcsz hlens (fun i row j x hi hj=>by
                 have hj':j<s'':=by have:=Zaq hj;rw [hlens i row hi] at this;exact this
                 rcases Zce hi with ⟨hi1,hh⟩|⟨hi1,hh⟩
                 · obtain ⟨v,hv1,hv2⟩:=g1 i row j x hh hj
                   exact ⟨v,by rw [hco _ (ZdS hi1 hj')];exact hv1,hv2⟩
                 · obtain ⟨v,hv1,hv2⟩:=g2 (i-rows.length) row j x hh hj
                   refine ⟨v,?_,hv2⟩
                   have hi2:i*s''=rows.length*s''+(i-rows.length)*s'':=by rw [<-Nat.add_mul];congr 1;omega
                   rw [hi2,Nat.add_assoc,hcn _ (Zaq hv1)];exact hv1) w.drew (.inr rfl)
               exact ⟨.value _,_,_,g',hexec _ _ hrun,.inl rfl,by rw [hdst];exact s1,s2,s3,s4,s5⟩
           · cases heq
         · cases heq
       · cases heq
   · cases ho
 · cases ho
end each
end Go.Am
end
section
namespace Go.Am
variable [WI]
variable {Pg:Program}
theorem Zhe {φ:R->Option R}: ∀{cs cs':List C},Zl9 φ cs=some cs'->cs.length=cs'.length/\ ∀(i:Nat) c',cs'[i]? =some c'-> ∃c,cs[i]? =some c/\c.mapR φ=some c'
 | [],cs',h=>by simp [Zl9] at h;subst h;exact ⟨rfl,fun i c' h=>by simp at h⟩
 | c::r,cs',h=>by
   unfold Zl9 at h
   split at h
   · rename_i x xs h1 h2
     cases h
     obtain ⟨l,g⟩:=Zhe h2
     refine ⟨by simp [l],fun i c' hi=>?_⟩
     cases i with
     | zero=>simp at hi;subst hi;exact ⟨c,rfl,h1⟩
     | succ i=>obtain ⟨q,q1,q2⟩:=g i c' (by simpa using hi);exact ⟨q,by simpa using q1,q2⟩
   · cases h
theorem Zip {φ:R->Option R}: ∀{cs cs':List A},ZlP φ cs=some cs'->cs.length=cs'.length/\ ∀(i:Nat) c',cs'[i]? =some c'-> ∃c,cs[i]? =some c/\c.mapR φ=some c'
 | [],cs',h=>by simp [ZlP] at h;subst h;exact ⟨rfl,fun i c' h=>by simp at h⟩
 | c::r,cs',h=>by
   unfold ZlP at h
   split at h
   · rename_i x xs h1 h2
     cases h
     obtain ⟨l,g⟩:=Zip h2
     refine ⟨by simp [l],fun i c' hi=>?_⟩
     cases i with
     | zero=>simp at hi;subst hi;exact ⟨c,rfl,h1⟩
     | succ i=>obtain ⟨q,q1,q2⟩:=g i c' (by simpa using hi);exact ⟨q,by simpa using q1,q2⟩
   · cases h
theorem Zkr {φ:R->Option R}: ∀{cs cs':List (List C)},Zmc φ cs=some cs'->cs.length=cs'.length/\ ∀(i:Nat) c',cs'[i]? =some c'-> ∃c,cs[i]? =some c/\Zl9 φ c=some c'
 | [],cs',h=>by simp [Zmc] at h;subst h;exact ⟨rfl,fun i c' h=>by simp at h⟩
 | c::r,cs',h=>by
   unfold Zmc at h
   split at h
   · rename_i x xs h1 h2
     cases h
     obtain ⟨l,g⟩:=Zkr h2
     refine ⟨by simp [l],fun i c' hi=>?_⟩
     cases i with
     | zero=>simp at hi;subst hi;exact ⟨c,rfl,h1⟩
     | succ i=>obtain ⟨q,q1,q2⟩:=g i c' (by simpa using hi);exact ⟨q,by simpa using q1,q2⟩
   · cases h
theorem ZpV {φ:R->Option R} {g g2:G} (hr: ∀r r',φ r=some r'->r'.val g2=r.val g): ∀{rs rs':List R},rs.mapM φ=some rs'->rs'.map (R.val g2)=rs.map (R.val g)
 | [],rs',h=>by simp at h;subst h;rfl
 | r::rs,rs',h=>by
   rw [List.mapM_cons] at h
   cases h1:φ r with
   | none=>rw [h1] at h;simp at h
   | some q=>
     cases h2:rs.mapM φ with
     | none=>rw [h1,h2] at h;simp at h
     | some qs=>
       rw [h1,h2] at h
       simp at h
       subst h
       rw [List.map_cons,List.map_cons,hr r q h1,ZpV hr h2]
def C.isU:C->Bool
 | .uniq _ _=>true
 | .bytes _ _=>true
 | .map _ _=>true
 | _=>false
theorem RepC.map {φ:R->Option R} {g g2:G} {w:World} {ℓ ℓ':Loc} {v:Value} {c c':C} (h:RepC g w ℓ v c) (hm:c.mapR φ=some c') (hp:g2.pr=g.pr) (ho:c.held=false∨Ze3 g g2 w w ℓ ℓ') (hT:c.isU=false∨ ∀b,g.T b->g.ow b≠none->g2.ow b≠none->g2.T b)
   (hr: ∀r r',φ r=some r'->r'.val g2=r.val g):RepC g2 w ℓ' v c':=by
 cases c with
 | p x=>cases hm;show RepP g2.pr w v x;rw [hp];exact h
 | tip s rows=>
   cases hm
   obtain ⟨h1,a,cap,h2,h3⟩:=h
   refine ⟨by rw [hp];exact h1,a,cap,h2,h3.imp id ?_⟩
   rintro ⟨b,o,ha,hl,hroom⟩
   rcases ho with ho|ho
   · cases ho
   · exact ⟨b,o,ha,hl,hroom.mono ho (fun b o hb=>⟨o,hb,SameObj.refl _ _⟩)⟩
 | ref r=>
   simp only [C.mapR] at hm
   cases h1:φ r with
   | none=>rw [h1] at hm;cases hm
   | some q=>
     rw [h1] at hm;cases hm
     have:v=r.val g:=h
     show v=q.val g2
     rw [hr r q h1];exact this
 | view row off=>
   cases hm
   obtain ⟨b,o,hv,hrow,hle⟩:=h
   exact ⟨b,o,hv,by rw [hp];exact hrow,by rw [hp];exact hle⟩
 | clo f first caps=>
   simp only [C.mapR] at hm
   split at hm
   · rename_i x y h1 h2
     cases hm
     have h':v= .func (.func f) (first.map (R.val g)).toArray (caps.map (R.val g)).toArray:=h
     show v=_
     rw [ZpV hr h1,ZpV hr h2];exact h'
   · cases hm
 | closs f r=>
   simp only [C.mapR] at hm
   cases h1:φ r with
   | none=>rw [h1] at hm;cases hm
   | some q=>
     rw [h1] at hm;cases hm
     have:v= .func (.func f) #[.agg #[r.val g]] #[]:=h
     show v= .func (.func f) #[.agg #[q.val g2]] #[]
     rw [hr r q h1];exact this
 | nilp=>cases hm;exact h
 | uniq s rows=>
   cases hm
   obtain ⟨a,cap,hv,hh⟩:=h
   refine ⟨a,cap,hv,hh.imp id ?_⟩
   rintro ⟨b,cs,e,ha,hl,hpr,how,hTb,hb,hsz,hrows⟩
   rcases ho with ho|ho
   · cases ho
   · obtain ⟨k1,k2,_⟩:=ho b how
     have hT2:g2.T b:=by
       rcases hT with hT|hT
       · cases hT
       · exact hT b hTb (by rw [how];simp) (by rw [k1];simp)
     exact ⟨b,cs,e,ha,hl,k2.trans hpr,k1,hT2,hb,hsz,fun i row hi=>⟨(hrows i row hi).1,fun j x hx=>by
       obtain ⟨u,hu,hr'⟩:=(hrows i row hi).2 j x hx
       exact ⟨u,hu,by rw [hp];exact hr'⟩⟩⟩
 | bytes e t=>
   cases hm
   obtain ⟨a,cap,hv,hh⟩:=h
   refine ⟨a,cap,hv,hh.imp id ?_⟩
   rintro ⟨b,cs,ha,hl,hm,hpr,how,hTb,hb,hsz,hrows⟩
   rcases ho with ho|ho
   · cases ho
   · obtain ⟨k1,k2,_⟩:=ho b how
     have hT2:g2.T b:=by
       rcases hT with hT|hT
       · cases hT
       · exact hT b hTb (by rw [how];simp) (by rw [k1];simp)
     exact ⟨b,cs,ha,hl,hm,k2.trans hpr,k1,hT2,hb,hsz,hrows⟩
 | own r s n=>
   obtain ⟨cap,hv,hn,cs,t,hb,hsz⟩:=h
   simp only [C.mapR] at hm
   split at hm
   · rename_i r' h1
     cases hm
     have h2:=hr r r' h1
     unfold R.val at h2
     injection h2 with h2
     injection h2 with h2
     injection h2 with h3 h4 _
     exact ⟨cap,by rw [hv,h3,h4],hn,cs,t,by rw [h3];exact hb,by rw [h4];exact hsz⟩
   · cases hm;exact ⟨_,cap,hv⟩
 | junk=>cases hm;exact h
 | mptr r=>
   simp only [C.mapR] at hm
   split at hm
   · rename_i r' h1
     cases hm
     have h':v= .map (some (r.blk g)):=h
     show v=_
     rw [R.blk_eq (hr r r' h1)];exact h'
   · cases hm
     cases h;exact ⟨rfl,(by intro _ h;cases h),(by intro _ h;cases h)⟩
 | map r es=>
   obtain ⟨mes,clock,hv,hpr,how,hTb,hb,hsz,hes⟩:=h
   simp only [C.mapR] at hm
   split at hm
   · rename_i r' h1
     cases hm
     have e:=R.blk_eq (hr r r' h1)
     rcases ho with ho|ho
     · cases ho
     · obtain ⟨k1,k2,_⟩:=ho _ how
       have hT2:g2.T (r.blk g):=by
         rcases hT with hT|hT
         · cases hT
         · exact hT _ hTb (by rw [how];simp) (by rw [k1];simp)
       exact ⟨mes,clock,by rw [e];exact hv,by rw [e];exact k2.trans hpr,by rw [e];exact k1,by rw [e];exact hT2,by rw [e];exact hb,hsz,fun i k x hi=>by
         obtain ⟨e,h1,h2,h3⟩:=hes i k x hi
         exact ⟨e,h1,by rw [hp];exact h2,by rw [hp];exact h3⟩⟩
   · cases hm
     rw [hv];exact ⟨rfl,(by intro _ h;cases h),(by intro _ h;cases h)⟩
 | hdr n=>cases hm;exact h
 | mapc es=>exact h.elim
 | mapl es=>exact h.elim
theorem RepCells.mapped {φ:R->Option R} {g g2:G} {w:World} {k c k' c':Nat} {vs:List Value} {cs cs':List C} (h:RepCells g w k c vs cs) (hm:Zl9 φ cs=some cs') (hp:g2.pr=g.pr) (ho:(∀x∈cs,x.held=false)∨ ∀i,Ze3 g g2 w w (k,c,i) (k',c',i)) (hT:(∀x∈cs,x.isU=false)∨ ∀b,g.T b->g.ow b≠none->g2.ow b≠none->g2.T b)
  (hr: ∀r r',φ r=some r'->r'.val g2=r.val g):RepCells g2 w k' c' vs cs':=by
 obtain ⟨l,gt⟩:=Zhe hm
 refine ⟨h.1.trans l,fun i u x hu hx=>?_⟩
 obtain ⟨q,q1,q2⟩:=gt i x hx
 exact (h.2 i u q hu q1).map q2 hp (ho.imp (fun h=>h q (List.mem_of_getElem? q1)) (fun h=>h i)) (hT.imp (fun h=>h q (List.mem_of_getElem? q1)) id) hr
theorem RepA.mapped {φ:R->Option R} {g g2:G} {w:World} {k c k' c':Nat} {v:Value} {x x':A} (h:RepA g w k c v x) (hm:x.mapR φ=some x') (hp:g2.pr=g.pr) (ho:(∀y∈x.cells,y.held=false)∨ ∀i,Ze3 g g2 w w (k,c,i) (k',c',i)) (hT:(∀y∈x.cells,y.isU=false)∨ ∀b,g.T b->g.ow b≠none->g2.ow b≠none->g2.T b)
   (hr: ∀r r',φ r=some r'->r'.val g2=r.val g):RepA g2 w k' c' v x':=by
 cases x with
 | one y=>
   simp only [A.mapR] at hm
   cases h1:y.mapR φ with
   | none=>rw [h1] at hm;cases hm
   | some q=>rw [h1] at hm;cases hm;exact RepC.map h h1 hp (ho.imp (fun h=>h y (by simp [A.cells])) (fun h=>h 0)) (hT.imp (fun h=>h y (by simp [A.cells])) id) hr
 | agg cs=>
   simp only [A.mapR] at hm
   cases h1:Zl9 φ cs with
   | none=>rw [h1] at hm;cases hm
   | some q=>
     rw [h1] at hm;cases hm
     obtain ⟨vs,rfl,hc⟩:=h
     exact ⟨vs,rfl,hc.mapped h1 hp ho hT hr⟩
theorem Box.mapped {φ:R->Option R} {g g2:G} {w:World} {b k c k' c':Nat} {cs cs':List C} (h:Box g w b k c cs) (hm:Zl9 φ cs=some cs') (hp:g2.pr=g.pr) (ho: ∀i,Ze3 g g2 w w (k,c,i) (k',c',i)) (hb:g2.ow b=none) (hT:(∀x∈cs,x.isU=false)∨ ∀b,g.T b->g.ow b≠none->g2.ow b≠none->g2.T b)
  (hr: ∀r r',φ r=some r'->r'.val g2=r.val g):Box g2 w b k' c' cs':=by
 have hl:=(Zhe hm).1
 refine h.lift rfl (by rw [hp]) hb (fun _ _ _ _ h=>h) (fun b=>Nat.le_of_eq (by rw [hp])) (fun x e hx=>by rw [e] at hm;cases x<;>first|(exact (Option.some.inj hm).symm)|(cases hx)) ?_
 rintro ⟨vs,t,h1,h2,h3,h4⟩
 exact ⟨vs,t,h1,⟨by rw [<-hl];exact h2.1,by rw [<-hl];exact h2.2.mapped hm hp (.inr ho) hT hr⟩,by rw [hp];exact h3,hb⟩
def RESK:Nat:=9998
def Zhz (Pg:Program) (f:Nat):Bool:=
  match Pg.funcs[f]? with
  | some fn => fn.name != "runtime.NumGoroutine" && fn.body.isSome
  | none=>false
theorem Zpc {f:Nat} (h:Zhz Pg f=true) (args:Array Value) (w:World):(callFunc f args).run Pg w= .ok (.enter f args) w:=by
 unfold Zhz at h
 split at h
 ·rename_i fn hf
  simp only [Bool.and_eq_true,bne_iff_ne,ne_eq] at h
  obtain ⟨c,hc⟩:=Option.isSome_iff_exists.1 h.2
  simp [callFunc,hf,h.1,hc]
 ·cases h
def ZdP (g:G) (w:World) (vs:List Value) (xs:List A):Prop:=
 vs.length=xs.length/\ ∀(j:Nat) u x,vs[j]? =some u->xs[j]? =some x->RepA g w j 0 u x
def ZJK (Pg:Program) (f:Nat) (args:List A) (os:List (List C)) (rs:List A) (os':List (List C)):Prop:=
 Zhz Pg f=true/\
 ∀(g:G) (w:World) (vs:List Value),ZdP g w vs args->(∀x∈args,x.clean=true)->(∀cs∈os,cs.all C.clean=true)->
  (∀(i:Nat) cs,os[i]? =some cs->Box g w (g.ω i) OBJS i cs)->(∀i j,i<os.length->j<os.length->g.ω i=g.ω j->i=j)->ZnQ g.pr g.ow w->WI.I g.pr w->
  (∀b,w.heap.size<=b∨(∃i,i<os.length/\b=g.ω i)->g.T b)->
  Calls Pg f vs.toArray w fun e w'=> ∃v g',e= .returned v/\Ext g.T g.pr g.ow w w' g'.pr g'.ow/\g'.T=g.T/\g'.ω=g.ω/\ZnQ g'.pr g'.ow w'/\
   RepD g' w' RESK v (resD rs)/\ ∀(i:Nat) cs,os'[i]? =some cs->Box g' w' (g.ω i) OBJS i cs
def ZKX (Pg:Program) (f:Nat) (args:List A) (rs:List A) (bs:List (List C)):Prop:=
 Zhz Pg f=true/\
 ∀(g:G) (w:World) (vs:List Value),ZdP g w vs args->(∀x∈args,x.clean=true)->ZnQ g.pr g.ow w->WI.I g.pr w->(g.T=fun b=>w.heap.size<=b)->
  Calls Pg f vs.toArray w fun e w'=> ∃v g',e= .returned v/\Ext g.T g.pr g.ow w w' g'.pr g'.ow/\g'.T=g.T/\ZnQ g'.pr g'.ow w'/\
   RepD g' w' RESK v (resD rs)/\(∀(i:Nat) cs,bs[i]? =some cs->Box g' w' (g'.ω i) OBJS i cs/\w.heap.size<=g'.ω i)/\ ∀i j,i<bs.length->j<bs.length->g'.ω i=g'.ω j->i=j
def Zcv (Pg:Program) (F:ZaQ):Prop:=
 ∀f args os rs os',F f args os=some (rs,os')->ZJK Pg f args os rs os'∨(os=[]/\ ∃f0 bs,f=UPB+f0/\os'=[]::bs/\ZKX Pg f0 args rs bs)
theorem Zcv.len {F:ZaQ} (hF:Zcv Pg F) {f:Nat} {args:List A} {os:List (List C)} {rs:List A} {os':List (List C)} (h:F f args os=some (rs,os')) (hl:os'.length=os.length):ZJK Pg f args os rs os':=
 (hF f args os rs os' h).resolve_right (by rintro ⟨rfl,_,_,_,rfl,_⟩;simp at hl)
theorem Zcv.low {F:ZaQ} (hF:Zcv Pg F) {f:Nat} {args:List A} {os:List (List C)} {rs:List A} {os':List (List C)} (h:F f args os=some (rs,os')) (hf:f<UPB):ZJK Pg f args os rs os':=
 (hF f args os rs os' h).resolve_right (by rintro ⟨_,f0,_,rfl,_⟩;omega)
theorem Zjz: ∀{ds:List D} {css:List (List C)},Zdf ds=some css->ds.length=css.length/\ ∀(i:Nat) cs,css[i]? =some cs->ds[i]? =some (.a (.agg cs))
 | [],css,h=>by simp [Zdf] at h;subst h;exact ⟨rfl,fun i cs h=>by simp at h⟩
 | .a (.agg c)::r,css,h=>by
   unfold Zdf at h
   cases h1:Zdf r with
   | none=>rw [h1] at h;cases h
   | some q=>
     rw [h1] at h;cases h
     obtain ⟨l,gt⟩:=Zjz h1
     refine ⟨by simp [l],fun i cs hi=>?_⟩
     cases i with
     | zero=>simp at hi;subst hi;rfl
     | succ i=>simpa using gt i cs (by simpa using hi)
 | .a (.one _)::_,_,h=>by simp [Zdf] at h
 | .undef::_,_,h=>by simp [Zdf] at h
 | .tup _::_,_,h=>by simp [Zdf] at h
 | .objs _::_,_,h=>by simp [Zdf] at h
theorem Ztf: ∀{ks:List Nat} {ds:List D} {e e':Env},e.sets ks ds=some e'->ks.Nodup->ks.length=ds.length/\(∀k,k∉ks->e'.get k=e.get k)/\ ∀(i:Nat) k d,ks[i]? =some k->ds[i]? =some d->e'.get k=d
 | [],[],e,e',h,_=>by simp [Env.sets] at h;subst h;exact ⟨rfl,fun _ _=>rfl,fun i k d h=>by simp at h⟩
 | k::ks,d::ds,e,e',h,hn=>by
   simp only [Env.sets] at h
   rw [List.nodup_cons] at hn
   obtain ⟨h1,h2,h3⟩:=Ztf h hn.2
   refine ⟨by simp [h1],fun k' hk'=>?_,fun i k' d' hi hd=>?_⟩
   · rw [List.mem_cons,not_or] at hk'
     rw [h2 k' hk'.2,Env.get_set_ne _ _ (Ne.symm hk'.1)]
   · cases i with
     | zero=>simp at hi hd;subst hi;subst hd;rw [h2 k hn.1,Env.get_set_same]
     | succ i=>exact h3 i k' d' (by simpa using hi) (by simpa using hd)
 | [],_::_,_,_,h,_=>by simp [Env.sets] at h
 | _::_,[],_,_,h,_=>by simp [Env.sets] at h
theorem ZhS (ks:List Nat): ∀(e:Env) (k:Nat),(ZaA e ks).get k=e.get k∨(k∈ks/\(ZaA e ks).get k=(e.get k).plain):=by
 induction ks with
 | nil=>exact fun e k=> .inl rfl
 | cons x ks ih=>
   intro e k
   simp only [ZaA]
   rcases ih (e.set x (e.get x).plain) k with h|⟨h1,h2⟩
   · rw [h,Env.get_set]
     by_cases hx:x=k
     · subst hx;right;exact ⟨by simp,by simp⟩
     · left;simp [hx]
   · rw [h2,Env.get_set]
     by_cases hx:x=k
     · subst hx
       right
       refine ⟨by simp,?_⟩
       simp only [if_true]
       cases e.get x with
       | a y=>cases y<;>simp [D.plain,A.plain,plain_plain]
       | tup xs=>simp only [D.plain,List.map_map];congr 1;apply List.map_congr_left;intro y _;cases y<;>simp [A.plain,plain_plain]
       | _=>rfl
     · right;simp [hx,h1]
theorem D.plain_plain (x:D):x.plain.plain=x.plain:=by
 cases x with
 | a y=>cases y<;>simp [D.plain,A.plain,Am.plain_plain]
 | tup xs=>simp only [D.plain,List.map_map];congr 1;apply List.map_congr_left;intro y _;cases y<;>simp [A.plain,Am.plain_plain]
 | _=>rfl
theorem ZnF (ks:List Nat): ∀(e:Env) (k:Nat),e.get k=(e.get k).plain->(ZaA e ks).get k=e.get k:=by
 induction ks with
 | nil=>exact fun e k _=>rfl
 | cons x ks ih=>
   intro e k h
   simp only [ZaA]
   have h1:(e.set x (e.get x).plain).get k=e.get k:=by
     rw [Env.get_set]
     by_cases hx:x=k
     · subst hx;simp [<-h]
     · simp [hx]
   rw [ih _ k (by rw [h1];exact h),h1]
theorem Zlj {ks:List Nat}: ∀{e:Env} {k:Nat},k∈ks->(ZaA e ks).get k=(e.get k).plain:=by
 induction ks with
 | nil=>intro e k h;simp at h
 | cons x ks ih=>
   intro e k h
   simp only [ZaA]
   by_cases hx:x=k
   · subst hx
     rw [ZnF _ _ _ (by rw [Env.get_set_same,D.plain_plain]),Env.get_set_same]
   · have hk:k∈ks:=by
       rcases List.mem_cons.1 h with rfl|h
       · exact absurd rfl hx
       · exact h
     rw [ih hk,Env.get_set_ne _ _ hx]
theorem ZeP {ks:List Nat} {e:Env} {k:Nat} (h:k∉ks):(ZaA e ks).get k=e.get k:=by
 rcases ZhS ks e k with h1|⟨h1,_⟩
 ·exact h1
 ·exact absurd h1 h
theorem ZlH {φ:R->Option R} (hφ: ∀r r',φ r=some r'->r'.own=false) {c c':C} (h:c.mapR φ=some c'):c'.clean=true:=by
 have hm: ∀{rs rs':List R},rs.mapM φ=some rs'->rs'.all (fun r=> !r.own)=true:=by
   intro rs
   induction rs with
   | nil=>intro rs' h;simp at h;subst h;rfl
   | cons r rs ih=>
     intro rs' h
     rw [List.mapM_cons] at h
     cases h1:φ r with
     | none=>rw [h1] at h;simp at h
     | some q=>
       cases h2:rs.mapM φ with
       | none=>rw [h1,h2] at h;simp at h
       | some qs=>rw [h1,h2] at h;simp at h;subst h;simp only [List.all_cons,hφ r q h1,Bool.not_false,Bool.true_and];exact ih h2
 cases c with
 | ref r=>
   simp only [C.mapR] at h
   cases h1:φ r with
   | none=>rw [h1] at h;cases h
   | some q=>rw [h1] at h;cases h;simp [C.clean,hφ r q h1]
 | clo f x y=>
   simp only [C.mapR] at h
   split at h
   · rename_i p q h1 h2;cases h;simp only [C.clean,hm h1,hm h2,Bool.and_self]
   · cases h
 | closs f r=>
   simp only [C.mapR] at h
   cases h1:φ r with
   | none=>rw [h1] at h;cases h
   | some q=>rw [h1] at h;cases h;simp [C.clean,hφ r q h1]
 | own r s n=>
   simp only [C.mapR] at h
   split at h
   · rename_i q h1;cases h;simp [C.clean,hφ r q h1]
   · cases h;rfl
 | mptr r=>
   simp only [C.mapR] at h
   split at h
   · rename_i q h1;cases h;simp [C.clean,hφ r q h1]
   · cases h;rfl
 | map r es=>
   simp only [C.mapR] at h
   split at h
   · rename_i q h1;cases h;simp [C.clean,hφ r q h1]
   · cases h;rfl
 | _=>cases h;rfl
theorem RepC.lone {g:G} {w:World} {ℓ:Loc} {v:Value} {c:C} (h:RepC g w ℓ v c):RepC g w ℓ v c.lone:=by
 cases c with
 | uniq s r=>obtain ⟨a,cap,hv,_⟩:=h;exact ⟨a,cap,hv⟩
 | bytes s r=>obtain ⟨a,cap,hv,_⟩:=h;exact ⟨a,cap,hv⟩
 | map r es=>obtain ⟨_,_,h,_⟩:=h;exact h
 | _=>exact h
theorem ZnC (c:C):c.lone.isU=false:=by cases c<;>rfl
theorem Zqi {c:C} (h:c.held=false):c.lone.held=false:=by cases c<;>first|rfl|cases h
theorem RepCells.lone {g:G} {w:World} {k c:Nat} {vs:List Value} {cs:List C} (h:RepCells g w k c vs cs):RepCells g w k c vs (cs.map C.lone):=by
 refine ⟨by rw [List.length_map];exact h.1,fun i u x hu hx=>?_⟩
 rw [List.getElem?_map] at hx
 cases hc:cs[i]? with
 | none=>rw [hc] at hx;cases hx
 | some y=>rw [hc] at hx;cases hx;exact (h.2 i u y hu hc).lone
theorem RepA.lone {g:G} {w:World} {k c:Nat} {v:Value} {x:A} (h:RepA g w k c v x):RepA g w k c v x.lone:=by
 cases x with
 | one x=>exact RepC.lone h
 | agg cs=>obtain ⟨vs,rfl,hc⟩:=h;exact ⟨vs,rfl,hc.lone⟩
theorem Zs4 {x:A}: ∀y∈x.lone.cells,y.isU=false:=by
 cases x with
 | one c=>intro y hy;simp [A.lone,A.cells] at hy;subst hy;exact ZnC c
 | agg cs=>intro y hy;simp only [A.lone,A.cells,List.mem_map] at hy;obtain ⟨c,_,rfl⟩:=hy;exact ZnC c
theorem Zl8 {x:A} (h: ∀y∈x.cells,y.held=false): ∀y∈x.lone.cells,y.held=false:=by
 cases x with
 | one c=>intro y hy;simp [A.lone,A.cells] at hy;subst hy;exact Zqi (h c (by simp [A.cells]))
 | agg cs=>intro y hy;simp only [A.lone,A.cells,List.mem_map] at hy;obtain ⟨c,hc,rfl⟩:=hy;exact Zqi (h c hc)
theorem RepC.part {g:G} {w:World} {ℓ:Loc} {v:Value} {c:C} (h:RepC g w ℓ v c):RepC g w ℓ v c.part:=by
 cases c with
 | map r es=>obtain ⟨_,_,h,_⟩:=h;exact h
 | _=>exact h
theorem ZK9 {c:C} (h:c.held=false):c.part.held=false:=by cases c<;>first|rfl|cases h
theorem RepCells.parted {g:G} {w:World} {k c:Nat} {vs:List Value} {cs:List C} (h:RepCells g w k c vs cs):RepCells g w k c vs (cs.map C.part):=by
 refine ⟨by rw [List.length_map];exact h.1,fun i u x hu hx=>?_⟩
 rw [List.getElem?_map] at hx
 cases hc:cs[i]? with
 | none=>rw [hc] at hx;cases hx
 | some y=>rw [hc] at hx;cases hx;exact (h.2 i u y hu hc).part
theorem RepA.part {g:G} {w:World} {k c:Nat} {v:Value} {x:A} (h:RepA g w k c v x):RepA g w k c v x.part:=by
 cases x with
 | one x=>exact RepC.part h
 | agg cs=>obtain ⟨vs,rfl,hc⟩:=h;exact ⟨vs,rfl,hc.parted⟩
theorem ZJm {x:A} (h: ∀y∈x.cells,y.held=false): ∀y∈x.part.cells,y.held=false:=by
 cases x with
 | one c=>intro y hy;simp [A.part,A.cells] at hy;subst hy;exact ZK9 (h c (by simp [A.cells]))
 | agg cs=>intro y hy;simp only [A.part,A.cells,List.mem_map] at hy;obtain ⟨c,hc,rfl⟩:=hy;exact ZK9 (h c hc)
theorem Box.part {g:G} {w:World} {b k c:Nat} {cs:List C} (h:Box g w b k c cs):Box g w b k c (cs.map C.part):=by
 obtain ⟨_,_,_,hn⟩:=h.bk
 refine h.lift rfl rfl hn (fun _ _ _ _ h=>h) (fun _=>Nat.le_refl _) (fun x e hx=>by rw [e];cases x<;>first|rfl|(cases hx)) ?_
 rintro ⟨vs,t,h1,h2,h3,h4⟩
 exact ⟨vs,t,h1,⟨by rw [List.length_map];exact h2.1,by rw [List.length_map];exact h2.2.parted⟩,h3,h4⟩
theorem Zqb {m:Option Nat} {own:List Nat} {r r':R} (h:R.down m own r=some r'):r'.own=false:=by
 unfold R.down at h
 split at h
 ·split at h
  ·cases h;assumption
  ·cases h
 ·split at h
  ·cases h;rfl
  ·cases h
end Go.Am
end
section
namespace Go.Am
variable [WI]
variable {Pg:Program}
theorem ZjY {pass:Bool} {own:List Nat} {n k:Nat} {rs:List A} {os:List (List C)} {ds:List D} (h:ZfY pass own n k rs os=some ds):
  os.length=k/\ ∃rs' os₂,ZlP (R.up (some n) own) rs=some rs'/\Zmc (R.up (some n) own) os=some os₂/\ds=resD rs'::((if pass then [.objs (os₂.take n)] else [])++(os₂.drop n).map fun cs=> .a (.agg cs)):=by
 unfold ZfY at h
 split at h
 ·rename_i hk
  split at h
  ·rename_i rs' os₂ h1 h2
   cases h
   exact ⟨hk,rs',os₂,h1,h2,rfl⟩
  ·cases h
 ·cases h
theorem ZgJ {F:ZaQ} {f:Nat} {pass:Bool} {own:List Nat} {args:List A} {rest ds:List D} (h:ZcU F f pass own args rest=some ds):
  ∃os bs css xs os' rs os'',ZcK pass rest=some (os,bs)/\Zdf bs=some css/\ZlP (R.down (some os.length) own) (args.map A.part)=some xs/\Zmc (R.down (some os.length) own) ((os++css).map fun l=>l.map C.part)=some os'/\
   F f xs os'=some (rs,os'')/\ZfY pass own os.length os'.length rs os''=some ds:=by
 unfold ZcU at h
 split at h
 ·cases h
 ·rename_i os bs h1
  split at h
  ·rename_i cs xs h2 h3
   split at h
   ·cases h
   ·rename_i os' h4
    unfold ZsU at h
    split at h
    ·rename_i rs os'' h5
     exact ⟨os,bs,cs,xs,os',rs,os'',h1,h2,h3,h4,h5,h⟩
    ·cases h
  ·cases h
theorem ZnX {pass:Bool} {D0:D} {own:List D} {os:List (List C)} {bs:List D} (h:ZcK pass ((if pass then [D0] else [])++own)=some (os,bs)):bs=own/\(pass=true->D0= .objs os)/\(pass=false->os=[]):=by
 cases pass with
 | false=>simp [ZcK] at h;obtain ⟨rfl,rfl⟩:=h;exact ⟨rfl,by simp,fun _=>rfl⟩
 | true=>
   cases D0 with
   | objs os'=>simp [ZcK] at h;obtain ⟨rfl,rfl⟩:=h;exact ⟨rfl,fun _=>rfl,by simp⟩
   | _=>simp [ZcK] at h
theorem ZxT {n:Nat} {own:List Nat} {r r':R} (h:R.up (some n) own r=some r'):r.own=false/\((r.k<n/\r'=r)∨ ∃κ,n<=r.k/\own[r.k-n]? =some κ/\r'=⟨true,κ,r.off⟩):=by
 unfold R.up at h
 split at h
 ·cases h
 ·rename_i ho
  refine ⟨ho,?_⟩
  split at h
  ·rename_i hk
   cases h
   exact .inl ⟨by simpa using hk,rfl⟩
  ·rename_i hk
   cases hq:own[r.k-(some n).getD 0]? with
   | none=>rw [hq] at h;cases h
   | some κ=>rw [hq] at h;cases h;exact .inr ⟨κ,by simpa using hk,by simpa using hq,rfl⟩
theorem Zt7 {n:Nat} {own:List Nat} {r r':R} (h:R.down (some n) own r=some r'):(r.own=false/\r.k<n/\r'=r)∨(r.own=true/\ ∃i,own.idxOf? r.k=some i/\r'=⟨false,n+i,r.off⟩):=by
 unfold R.down at h
 split at h
 ·rename_i ho
  split at h
  ·rename_i hk;cases h;exact .inl ⟨ho,by simpa using hk,rfl⟩
  ·cases h
 ·rename_i ho
  split at h
  ·rename_i i hi;cases h;exact .inr ⟨ho,i,hi,rfl⟩
  ·cases h
theorem Zq5 {φ:R->Option R} {g g2:G} {w:World} {k k':Nat} {v:Value} {rs rs':List A} (h:RepD g w k v (resD rs)) (hm:ZlP φ rs=some rs') (hp:g2.pr=g.pr) (ho: ∀c i,Ze3 g g2 w w (k,c,i) (k',c,i)) (hT: ∀b,g.T b->g.ow b≠none->g2.ow b≠none->g2.T b)
   (hr: ∀r r',φ r=some r'->r'.val g2=r.val g):RepD g2 w k' v (resD rs'):=by
 obtain ⟨l,gt⟩:=Zip hm
 match rs,rs',l,h,hm,gt with
 | [],[],_,h,_,_=>
   obtain ⟨vs,q1,q2,q3⟩:=h
   exact ⟨vs,q1,q2,fun j u x _ hx=>by simp at hx⟩
 | [x],[x'],_,h,_,gt=>
   obtain ⟨y,hy1,hy2⟩:=gt 0 x' rfl
   simp at hy1;subst hy1
   exact RepA.mapped h hy2 hp (.inr fun i=>ho 0 i) (.inr hT) hr
 | x::y::zs,x'::y'::zs',l2,h,_,gt=>
   obtain ⟨vs,q1,q2,q3⟩:=h
   refine ⟨vs,q1,by rw [q2];exact l2,fun j u z hu hz=>?_⟩
   obtain ⟨q,hq1,hq2⟩:=gt j z hz
   exact (q3 j u q hu hq1).mapped hq2 hp (.inr fun i=>ho (1+j) i) (.inr hT) hr
 | [],_::_,l,_,_,_=>simp at l
 | _::_,[],l,_,_,_=>simp at l
 | [_],_::_::_,l,_,_,_=>simp at l
 | _::_::_,[_],l,_,_,_=>simp at l
open Classical in
theorem Zu2 {F:ZaQ} (hF:Zcv Pg F) {g:G} {e e':Env} {a:Act} {w:World} (h:St g e a w) {f:Nat} {pass:Bool} {own takes:List Nat} {d:Nat} (hlt:d<g.nt)
   (hown:own.Nodup) (hownB: ∀κ∈own,BOX<=κ/\κ∈takes) (hpass:pass=true->OBJS∈takes)
   (ht1: ∀m∈takes,m<OBJS->m≠d) (ht2: ∀m∈takes,OBJS<=m->(m=OBJS/\pass=true)∨m∈own)
   {args:List A} {vs:List Value} (hlen:vs.length=args.length) (pos:Nat->Option Nat)
   (hargs: ∀(j:Nat) u x,vs[j]? =some u->args[j]? =some x->(∃k,RepA g w k 0 u x/\((∀c∈x.cells,c.held=false)∨(k∈takes/\k<OBJS/\pos k=some j)))∨ ∃c,x= .one c/\ ∀g' w' ℓ,RepC g' w' ℓ u c)
   {ds:List D} (hc:ZcU F f pass own args ((if pass then [e.get OBJS] else [])++own.map e.get)=some ds)
   (hs:(ZaA e takes).sets (d::((if pass then [OBJS] else [])++own)) ds=some e'):
   Zhz Pg f=true/\Calls Pg f vs.toArray w fun r w'=> ∃v g',r= .returned v/\St g' e' (a.put (some d) v) w'/\Ext g.T g.pr g.ow w w' g'.pr g'.ow/\g'.ω=g.ω/\g'.T=g.T/\g'.nt=g.nt:=by
 have hdO:d<OBJS:=Nat.lt_of_lt_of_le hlt h.nt
 have hds:d<a.tmps.size:=Nat.lt_of_lt_of_le hlt h.sz
 have hob:=Zau
 obtain ⟨os,bs,css,xs,os',rs,os'',hsplit,hcss,hxs,hos',hcall,hback⟩:=ZgJ hc
 obtain ⟨hbs,hobj,hobj0⟩:=ZnX hsplit
 subst hbs
 obtain ⟨hlen2,rs',os₂,hrs',hos₂,hdseq⟩:=ZjY hback
 subst hdseq
 obtain ⟨hent,hspec⟩:=hF.len hcall hlen2
 refine ⟨hent,?_⟩
 obtain ⟨bl,bg⟩:=Zjz hcss
 rw [List.length_map] at bl
 have hcs: ∀(i:Nat) κ,own[i]? =some κ-> ∃cs,css[i]? =some cs/\e.get κ= .a (.agg cs):=fun i κ hi=>by
   have hil:=Zaq hi
   have hci:css[i]? =some css[i]:=List.getElem?_eq_getElem Zo
   have:=bg i _ hci
   rw [List.getElem?_map,hi] at this
   exact ⟨css[i],hci,by simpa using this⟩
 obtain ⟨ol,og⟩:=Zkr hos'
 rw [List.length_map,List.length_append] at ol
 let n:=os.length
 have hidx: ∀(i:Nat) κ,own[i]? =some κ->own.idxOf? κ=some i:=fun i κ hi=>by
   have hil:=Zaq hi
   rw [List.getElem?_eq_getElem hil] at hi
   cases hi
   rw [List.idxOf?_eq_some_iff]
   refine ⟨hil,rfl,fun j hj=>?_⟩
   intro hh
   exact absurd ((List.getElem_inj hown).1 hh) Zo
 have hidx': ∀(i:Nat) κ,own.idxOf? κ=some i->own[i]? =some κ:=fun i κ hi=>by
   obtain ⟨h1,h2,_⟩:=List.idxOf?_eq_some_iff.1 hi
   rw [List.getElem?_eq_getElem h1];exact congrArg some h2
 let ωc:Nat->Nat:=fun i=>if i<n then g.ω i else g.β (own.getD (i-n) 0)
 let ψ:Loc->Option Loc:=fun ℓ=>if ℓ.1∈takes then (if ℓ.1<OBJS then (if ℓ.2.1=0 then (pos ℓ.1).map (fun j=>(j,0,ℓ.2.2)) else none) else if ℓ.1=OBJS then some (OBJS,ℓ.2.1,ℓ.2.2) else if ℓ.2.1=0 then (own.idxOf? ℓ.1).map (fun i=>(OBJS,n+i,ℓ.2.2)) else none) else none
 let gc:G:={nt:=0,T:=fun b=>(w.heap.size<=b∨ ∃i,i<os'.length/\b=ωc i)∨((g.ow b).bind ψ≠none/\g.T b),pr:=g.pr,ow:=fun b=>(g.ow b).bind ψ,β:=fun _=>0,ω:=ωc}
 have hωown: ∀(i:Nat) κ,own[i]? =some κ->ωc (n+i)=g.β κ:=fun i κ hi=>by
   simp only [ωc]
   rw [if_neg Zo,Nat.add_sub_cancel_left]
   simp [List.getD,hi]
 have hωobj: ∀i,i<n->ωc i=g.ω i:=fun i hi=>by simp only [ωc];rw [if_pos hi]
 have hdown: ∀r r',R.down (some n) own r=some r'->r'.val gc=r.val g:=fun r r' hr=>by
   rcases Zt7 hr with ⟨h1,h2,rfl⟩|⟨h1,i,h2,rfl⟩
   · simp only [R.val,h1,Bool.false_eq_true,if_false,gc,hωobj _ h2]
   · simp only [R.val,h1,if_true,Bool.false_eq_true,if_false,gc,hωown i _ (hidx' i _ h2)]
 have hψ: ∀ℓ ℓ',ψ ℓ=some ℓ'->Ze3 g gc w w ℓ ℓ':=fun ℓ ℓ' hh b hb=>⟨by simp only [gc];rw [hb];exact hh,rfl,rfl⟩
 have hlive: ∀(i:Nat) κ,own[i]? =some κ->e.get κ≠ .undef:=fun i κ hi=>by obtain ⟨cs,_,hh⟩:=hcs i κ hi;rw [hh];simp
 have hpass':n≠0->pass=true:=fun hn=>by
   cases hp:pass with
   | true=>rfl
   | false=>exact absurd (by simp only [n];rw [hobj0 hp];rfl) hn
 have hTd: ∀b,g.T b->g.ow b≠none->gc.ow b≠none->gc.T b:=fun b h1 _ h2=> .inr ⟨h2,h1⟩
 have hparams:ZdP gc w vs xs:=by
   obtain ⟨al,ag⟩:=Zip hxs
   rw [List.length_map] at al
   refine ⟨hlen.trans al,fun j u x hu hx=>?_⟩
   obtain ⟨y',hy1',hy2⟩:=ag j x hx
   rw [List.getElem?_map] at hy1'
   obtain ⟨y,hy1,rfl⟩: ∃y,args[j]? =some y/\y.part=y':=by
     cases hq:args[j]? with
     | none=>rw [hq] at hy1';cases hy1'
     | some y=>rw [hq] at hy1';cases hy1';exact ⟨y,rfl,rfl⟩
   rcases hargs j u y hu hy1 with ⟨k,hk1,hk2⟩|⟨c,rfl,hk⟩
   · refine hk1.part.mapped hy2 rfl (hk2.imp (fun h=>ZJm h) fun hh i=>?_) (.inr hTd) hdown
     refine hψ _ _ ?_
     simp only [ψ]
     rw [if_pos hh.1,if_pos hh.2.1,if_pos trivial,hh.2.2];rfl
   · have h1:=hk g w (0,0,0)
     have h2:=hk gc w (j,0,0)
     have h3: ∀c',c.part.mapR (R.down (some n) own)=some c'->RepC gc w (j,0,0) u c':=fun c' hm=>by
       cases c with
       | tip s r=>cases hm;exact h2
       | uniq s r=>cases hm;exact h2
       | bytes s r=>cases hm;exact h2
       | _=>exact RepC.map (ℓ:=(0,0,0)) h1.part hm rfl (.inl rfl) (.inl rfl) hdown
     simp only [A.part,A.mapR] at hy2
     cases hm:c.part.mapR (R.down (some os.length) own) with
     | none=>rw [hm] at hy2;cases hy2
     | some c'=>rw [hm] at hy2;cases hy2;exact h3 c' hm
 have hboxes: ∀(i:Nat) cs,os'[i]? =some cs->Box gc w (gc.ω i) OBJS i cs:=fun i cs hi=>by
   obtain ⟨q',hq1',hq2⟩:=og i cs hi
   rw [List.getElem?_map] at hq1'
   obtain ⟨q,hq1,rfl⟩: ∃y,(os++css)[i]? =some y/\y.map C.part=q':=by
     cases hq:(os++css)[i]? with
     | none=>rw [hq] at hq1';cases hq1'
     | some y=>rw [hq] at hq1';cases hq1';exact ⟨y,rfl,rfl⟩
   rcases Nat.lt_or_ge i n with hin|hin
   · rw [List.getElem?_append_left hin] at hq1
     have hp:=hpass' Zo
     have hbox:=(h.key OBJS).ob rfl os (hobj hp) i q hq1
     have e1:gc.ω i=g.ω i:=hωobj i hin
     rw [e1]
     refine hbox.part.mapped hq2 rfl (fun m=>hψ _ _ ?_) ?_ (.inr hTd) hdown
     · simp only [ψ];rw [if_pos (hpass hp),if_neg Zo,if_pos trivial]
     · obtain ⟨_,_,h4⟩:=Ze2 h (hobj hp) hin
       simp only [gc,h4];rfl
   · rw [List.getElem?_append_right hin] at hq1
     have hil:=Zaq hq1
     have hil':i-n<own.length:=by simp only [n] at*;omega
     have hoi:own[i-n]? =some own[i-n]:=List.getElem?_eq_getElem hil'
     obtain ⟨cs₀,hc1,hc2⟩:=hcs (i-n) _ hoi
     have hqe:q=cs₀:=by have:=hq1.symm.trans hc1;simpa using this
     subst hqe
     obtain ⟨hb1,hb2⟩:=hownB _ (List.getElem_mem hil')
     have hbox:=(h.key own[i-n]).bx hb1 q hc2
     have e1:gc.ω i=g.β own[i-n]:=by have:=hωown (i-n) _ hoi;rwa [show n+(i-n)=i by omega] at this
     rw [e1]
     refine hbox.part.mapped hq2 rfl (fun m=>hψ _ _ ?_) ?_ (.inr hTd) hdown
     · simp only [ψ]
       rw [if_pos hb2,if_neg Zo,if_neg Zo,if_pos trivial,hidx _ _ hoi]
       simp only [Option.map_some,Option.some.injEq,Prod.mk.injEq,true_and,and_true];omega
     · obtain ⟨_,_,h4⟩:=Zb7 h hb1 (hlive _ _ hoi)
       simp only [gc,h4];rfl
 have hol:os'.length=n+own.length:=by simp only [n];omega
 have hωinj: ∀i j,i<os'.length->j<os'.length->gc.ω i=gc.ω j->i=j:=fun i j hi hj hh=>by
   rw [hol] at hi hj
   have key: ∀i,i<n+own.length->n<=i-> ∃κ,own[i-n]? =some κ/\gc.ω i=g.β κ/\BOX<=κ:=fun i hi hn=>by
     have hoi:own[i-n]? =some (own[i-n]'(by omega)):=List.getElem?_eq_getElem _
     have:=hωown (i-n) _ hoi
     rw [show n+(i-n)=i by omega] at this
     exact ⟨_,hoi,this,(hownB _ (List.getElem_mem _)).1⟩
   rcases Nat.lt_or_ge i n with h1|h1
   · rcases Nat.lt_or_ge j n with h2|h2
     · have hp:=hpass' Zo
       rw [show gc.ω i=g.ω i from hωobj i h1,show gc.ω j=g.ω j from hωobj j h2] at hh
       exact h.dob os i j (hobj hp) h1 h2 hh
     · obtain ⟨κ,k1,k2,k3⟩:=key j hj h2
       have hp:=hpass' Zo
       rw [show gc.ω i=g.ω i from hωobj i h1,k2] at hh
       exact absurd hh.symm (h.dbo κ os i k3 (hlive _ _ k1) (hobj hp) h1)
   · obtain ⟨κ,k1,k2,k3⟩:=key i hi h1
     rcases Nat.lt_or_ge j n with h2|h2
     · have hp:=hpass' Zo
       rw [show gc.ω j=g.ω j from hωobj j h2,k2] at hh
       exact absurd hh (h.dbo κ os j k3 (hlive _ _ k1) (hobj hp) h2)
     · obtain ⟨κ',k1',k2',k3'⟩:=key j hj h2
       rw [k2,k2'] at hh
       have:=h.db κ κ' k3 k3' (hlive _ _ k1) (hlive _ _ k1') hh
       subst this
       have e1:=hidx _ _ k1
       have e2:=hidx _ _ k1'
       rw [e1] at e2
       simp at e2
       omega
 have hfresh:ZnQ gc.pr gc.ow w:=fun b hb=>by
   obtain ⟨f1,f2⟩:=h.fr b hb
   exact ⟨f1,by simp only [gc,f2];rfl⟩
 have hcl1: ∀x∈xs,x.clean=true:=fun x hx=>by
   obtain ⟨i,hi,rfl⟩:=List.getElem_of_mem hx
   obtain ⟨y,_,hy⟩:=(Zip hxs).2 i _ (List.getElem?_eq_getElem hi)
   cases y with
   | one c=>
     simp only [A.mapR] at hy
     cases hm:c.mapR (R.down (some os.length) own) with
     | none=>rw [hm] at hy;cases hy
     | some q=>rw [hm] at hy;simp only [Option.map_some,Option.some.injEq] at hy;rw [<-hy];simp [A.clean,A.cells,ZlH (fun _ _=>Zqb) hm]
   | agg cs=>
     simp only [A.mapR] at hy
     cases hm:Zl9 (R.down (some os.length) own) cs with
     | none=>rw [hm] at hy;cases hy
     | some q=>
       rw [hm] at hy;simp only [Option.map_some,Option.some.injEq] at hy
       rw [<-hy]
       simp only [A.clean,A.cells,List.all_eq_true]
       intro c hc'
       obtain ⟨j,hj,rfl⟩:=List.getElem_of_mem hc'
       obtain ⟨_,_,hz⟩:=(Zhe hm).2 j _ (List.getElem?_eq_getElem hj)
       exact ZlH (fun _ _=>Zqb) hz
 have hcl2: ∀cs∈os',cs.all C.clean=true:=fun cs hcs'=>by
   obtain ⟨i,hi,rfl⟩:=List.getElem_of_mem hcs'
   obtain ⟨y,_,hy⟩:=og i _ (List.getElem?_eq_getElem hi)
   simp only [List.all_eq_true]
   intro c hc'
   obtain ⟨j,hj,rfl⟩:=List.getElem_of_mem hc'
   obtain ⟨_,_,hz⟩:=(Zhe hy).2 j _ (List.getElem?_eq_getElem hj)
   exact ZlH (fun _ _=>Zqb) hz
 refine (hspec gc w vs hparams hcl1 hcl2 hboxes hωinj hfresh h.wi (fun b hb=> .inl hb)).mono ?_
 rintro r w' ⟨v,g1,rfl,hext,hT1,hω1,hfr1,hres,hbx1⟩
 let χ:Loc->Option Loc:=fun ℓ=>if ℓ.1=RESK then some (d,ℓ.2.1,ℓ.2.2) else if ℓ.1=OBJS then (if ℓ.2.1<n then some (OBJS,ℓ.2.1,ℓ.2.2) else (own[ℓ.2.1-n]?).map (fun κ=>(κ,0,ℓ.2.2))) else none
 let g2:G:={nt:=g.nt,T:=g.T,pr:=g1.pr,ow:=fun b=>if b<w.heap.size/\gc.ow b=none then g.ow b else (g1.ow b).bind χ,β:=g.β,ω:=g.ω}
 have hTc: ∀b,¬g.T b-> ¬gc.T b:=fun b hb hh=>by
   rcases hh with (hh|⟨i,hi,rfl⟩)|⟨_,hh⟩
   rotate_right
   · exact hb hh
   · exact hb (h.tf b hh)
   · rw [hol] at hi
     rcases Nat.lt_or_ge i n with h1|h1
     · have hp:=hpass' Zo
       rw [hωobj i h1] at hb
       exact hb (h.to os i (hobj hp) h1)
     · have hoi:own[i-n]? =some (own[i-n]'(by omega)):=List.getElem?_eq_getElem _
       have:=hωown (i-n) _ hoi
       rw [show n+(i-n)=i by omega] at this
       rw [this] at hb
       exact hb (h.tb _ (hownB _ (List.getElem_mem _)).1 (hlive _ _ hoi))
 have hownone: ∀b,g.ow b=none->gc.ow b=none:=fun b hb=>by simp only [gc,hb];rfl
 have hext2:Ext g.T g.pr g.ow w w' g2.pr g2.ow:=by
   refine ⟨hext.os,hext.tape,hext.output,hext.size,hext.blk,hext.prle,fun b hb ho hT=>⟨(hext.keep b hb (hownone b ho) (hTc b hT)).1,?_⟩,fun b hb ho hT=>hext.hid b hb (hownone b ho) (hTc b hT)⟩
   simp only [g2];rw [if_pos ⟨hb,hownone b ho⟩];exact ho
 have hfr2:ZnQ g2.pr g2.ow w':=fun b hb=>by
   obtain ⟨f1,f2⟩:=hfr1 b hb
   refine ⟨f1,?_⟩
   have: ¬(b<w.heap.size/\gc.ow b=none):=fun hh=>by have:=hext.size;omega
   simp only [g2];rw [if_neg this,f2];rfl
 have hobjow: ∀b,gc.T b->b<w.heap.size->g1.ow b=none∨(gc.ow b≠none/\g.T b):=fun b hTb hlt=>by
   rcases hTb with (hh|⟨i,hi,rfl⟩)|hh
   rotate_right
   · exact .inr hh
   · omega
   · obtain ⟨_,_,_,h4⟩:=(hbx1 i (os''[i]'(by rw [hlen2];exact hi)) (List.getElem?_eq_getElem _)).bk
     exact .inl h4
 have hT2: ∀b,g1.T b->g1.ow b≠none->g2.ow b≠none->g2.T b:=fun b hTb hn _=>by
   rw [hT1] at hTb
   rcases Nat.lt_or_ge b w.heap.size with hlt|hge
   · rcases hobjow b hTb hlt with hh|hh
     · exact absurd hh hn
     · exact hh.2
   · exact h.tf b hge
 have hχ: ∀ℓ ℓ',χ ℓ=some ℓ'->Ze3 g1 g2 w' w' ℓ ℓ':=fun ℓ ℓ' hh b hb=>by
   refine ⟨?_,rfl,rfl⟩
   have: ¬(b<w.heap.size/\gc.ow b=none):=fun hq=>by
     by_cases hTb:gc.T b
     · rcases hobjow b hTb hq.1 with this|this
       · rw [this] at hb;cases hb
       · exact this.1 hq.2
     · have:=(hext.keep b hq.1 hq.2 hTb).2
       rw [this] at hb;cases hb
   simp only [g2];rw [if_neg this,hb];exact hh
 have hup: ∀r r',R.up (some n) own r=some r'->r'.val g2=r.val g1:=fun r r' hr=>by
   obtain ⟨h1,h2⟩:=ZxT hr
   rcases h2 with ⟨h2,rfl⟩|⟨κ,h2,h3,rfl⟩
   · simp only [R.val,h1,Bool.false_eq_true,if_false,g2,hω1,gc,hωobj _ h2]
   · have:=hωown _ _ h3
     rw [show n+(r.k-n)=r.k by omega] at this
     simp only [R.val,h1,if_true,Bool.false_eq_true,if_false,g2,hω1,gc,this]
 have hnd:(d::((if pass then [OBJS] else [])++own)).Nodup:=by
   refine List.nodup_cons.2 ⟨fun hm=>?_,List.nodup_append.2 ⟨by cases pass<;>simp,hown,fun x hx y hy=>?_⟩⟩
   · rcases List.mem_append.1 hm with hm|hm
     · cases pass<;>simp at hm;omega
     · have:=(hownB _ hm).1;omega
   · have:=(hownB _ hy).1
     cases pass<;>simp at hx;omega
 obtain ⟨sl,sn,sg⟩:=Ztf hs hnd
 have hgd:e'.get d=resD rs':=sg 0 d _ rfl rfl
 obtain ⟨l2,gt2⟩:=Zkr hos₂
 have hl2:os₂.length=n+own.length:=by rw [<-l2,hlen2,hol]
 have hgO:pass=true->e'.get OBJS= .objs (os₂.take n):=fun hp=>by
   subst hp
   exact sg 1 OBJS _ rfl rfl
 have hgκ: ∀(i:Nat) κ,own[i]? =some κ-> ∃cs,os₂[n+i]? =some cs/\e'.get κ= .a (.agg cs):=fun i κ hi=>by
   have hil:=Zaq hi
   obtain ⟨cs₂,hci⟩: ∃c,os₂[n+i]? =some c:=⟨_,List.getElem?_eq_getElem Zo⟩
   refine ⟨_,hci,?_⟩
   cases hp:pass with
   | true=>
     subst hp
     refine sg (i+2) κ _ (by simpa using hi) ?_
     simp only [if_true,List.cons_append,List.nil_append,List.getElem?_cons_succ,List.getElem?_map,List.getElem?_drop]
     rw [show os.length+i=n+i from rfl,hci];rfl
   | false=>
     subst hp
     refine sg (i+1) κ _ (by simpa using hi) ?_
     simp only [Bool.false_eq_true,if_false,List.nil_append,List.getElem?_cons_succ,List.getElem?_map,List.getElem?_drop]
     rw [show os.length+i=n+i from rfl,hci];rfl
 have hval2: ∀r:R,r.val g2=r.val g:=fun r=>rfl
 have hnot: ∀k,k∉takes->k≠d->k∉d::((if pass then [OBJS] else [])++own):=fun k hk hkd hm=>by
   rcases List.mem_cons.1 hm with hm|hm
   · exact hkd hm
   · rcases List.mem_append.1 hm with hm|hm
     · cases hp:pass with
       | true=>rw [hp] at hm;simp at hm;rw [hm] at hk;exact hk (hpass hp)
       | false=>rw [hp] at hm;simp at hm
     · exact hk (hownB _ hm).2
 refine ⟨v,g2,rfl,?_,hext2,rfl,rfl,rfl⟩
 refine h.gen (d::takes) (fun b=>b<w.heap.size/\gc.ow b=none/\g.ow b=none/\ ¬gc.T b) hext2 hfr2 rfl rfl rfl (by rw [Zb6];exact h.df) Zd6
   (fun k hk=>?_) (fun k hk _=>?_) (fun k hk c i b hb=>?_) (fun _=> .inl rfl) (fun b hb=>⟨hext.hid b hb.1 hb.2.1 hb.2.2.2,(hext.keep b hb.1 hb.2.1 hb.2.2.2).1,?_⟩) (fun κ hκ hκb hl=>?_) (fun hno os₀ i ho hi=>?_) (fun k hk=>?_) (fun κ hm hκ=>?_) (fun hm=>?_) (fun κ hm hκ hl=>?_)
 · rw [List.mem_cons,not_or] at hk
   rw [sn k (hnot k hk.2 hk.1),ZeP hk.2]
 · rw [List.mem_cons,not_or] at hk
   exact Zbb hk.1
 · rw [List.mem_cons,not_or] at hk
   have hbl:b<w.heap.size:=by
     rcases Nat.lt_or_ge b w.heap.size with hh|hh
     · exact hh
     · rw [(h.fr b hh).2] at hb;cases hb
   have hgn:gc.ow b=none:=by
     simp only [gc,hb,Option.bind_some,ψ]
     rw [if_neg hk.2]
   have hnT: ¬gc.T b:=fun hh=>by
     rcases hh with (hh|⟨i',hi',hh⟩)|hh
     rotate_right
     · exact hh.1 hgn
     · omega
     · rw [hol] at hi'
       rcases Nat.lt_or_ge i' n with h1|h1
       · have hp:=hpass' Zo
         rw [hωobj i' h1] at hh
         obtain ⟨_,_,h4⟩:=Ze2 h (hobj hp) h1
         rw [hh,h4] at hb;cases hb
       · have hoi:own[i'-n]? =some (own[i'-n]'(by omega)):=List.getElem?_eq_getElem _
         have hq:=hωown (i'-n) _ hoi
         rw [show n+(i'-n)=i' by omega] at hq
         obtain ⟨_,_,h4⟩:=Zb7 h (hownB _ (List.getElem_mem (by omega:i'-n<own.length))).1 (hlive _ _ hoi)
         rw [hh,hq,h4] at hb;cases hb
   refine ⟨?_,(hext.keep b hbl hgn hnT).1,hext.hid b hbl hgn hnT⟩
   simp only [g2];rw [if_pos ⟨hbl,hgn⟩];exact hb
 · simp only [g2];rw [if_pos ⟨hb.1,hb.2.1⟩]
 · obtain ⟨b1,b2,b3⟩:=Zb7 h hκb hl
   refine ⟨b1,hownone _ b3,b3,fun hh=>?_⟩
   rw [List.mem_cons,not_or] at hκ
   rcases hh with (hh|⟨i,hi,hh⟩)|hh
   rotate_right
   · exact hh.1 (hownone _ b3)
   · omega
   · rw [hol] at hi
     rcases Nat.lt_or_ge i n with h1|h1
     · have hp:=hpass' Zo
       rw [hωobj i h1] at hh
       exact h.dbo κ os i hκb hl (hobj hp) h1 hh
     · have hoi:own[i-n]? =some (own[i-n]'(by omega)):=List.getElem?_eq_getElem _
       have:=hωown (i-n) _ hoi
       rw [show n+(i-n)=i by omega] at this
       rw [this] at hh
       obtain ⟨q1,q2⟩:=hownB _ (List.getElem_mem (by omega:i-n<own.length))
       have:=h.db κ _ hκb q1 hl (hlive _ _ hoi) hh
       exact hκ.2 (by rw [this];exact q2)
 · obtain ⟨b1,b2,b3⟩:=Ze2 h ho hi
   refine ⟨b1,hownone _ b3,b3,fun hh=>?_⟩
   rw [List.mem_cons,not_or] at hno
   have hp:pass=false:=by
     cases hp:pass with
     | false=>rfl
     | true=>exact absurd (hpass hp) hno.2
   have hn0:n=0:=by simp only [n];rw [hobj0 hp];rfl
   rcases hh with (hh|⟨j,hj,hh⟩)|hh
   rotate_right
   · exact hh.1 (hownone _ b3)
   · omega
   · rw [hol] at hj
     have hoi:own[j-n]? =some (own[j-n]'(by omega)):=List.getElem?_eq_getElem _
     have:=hωown (j-n) _ hoi
     rw [show n+(j-n)=j by omega] at this
     rw [this] at hh
     exact h.dbo _ os₀ i (hownB _ (List.getElem_mem _)).1 (hlive _ _ hoi) ho hi hh.symm
 · rcases List.mem_cons.1 hk with rfl|hk
   · refine .tmp hdO ?_
     rw [hgd,Zbe hds]
     exact Zq5 hres hrs' rfl (fun c i=>hχ _ _ (by simp [χ])) hT2 hup
   · rcases Nat.lt_or_ge k OBJS with hkO|hkO
     · refine .tmp hkO ?_
       have hkd:=ht1 k hk hkO
       have hno:k∉d::((if pass then [OBJS] else [])++own):=fun hm=>by
         rcases List.mem_cons.1 hm with hm|hm
         · exact hkd hm
         · rcases List.mem_append.1 hm with hm|hm
           · cases pass<;>simp at hm;omega
           · have:=(hownB _ hm).1;omega
       rw [sn k hno,Zbb hkd]
       have hrep:=(h.key k).tm hkO
       rcases ZhS takes e k with hh|⟨_,hh⟩
       ·
         have:(ZaA e takes).get k=(e.get k).plain:=Zlj hk
         rw [this]
         exact hrep.later hext2 (hext2.prle' h.fr) (fun r _=>rfl)
       · rw [hh]
         exact hrep.later hext2 (hext2.prle' h.fr) (fun r _=>rfl)
     · rcases ht2 k hk hkO with ⟨rfl,hp⟩|hko
       · refine .obj fun os₃ ho i cs hi=>?_
         rw [hgO hp] at ho
         cases ho
         have hin:i<n:=by have:=Zaq hi;simp at this;omega
         rw [List.getElem?_take,if_pos hin] at hi
         obtain ⟨q,hq1,hq2⟩:=gt2 i cs hi
         have hb:=hbx1 i q hq1
         have e1:gc.ω i=g.ω i:=hωobj i hin
         rw [e1] at hb
         refine hb.mapped hq2 rfl (fun m=>hχ _ _ ?_) ?_ (.inr hT2) hup
         · have:OBJS≠RESK:=by decide
           simp [χ,this,hin]
         · obtain ⟨b1,_,b3⟩:=Ze2 h (hobj hp) hin
           simp only [g2];rw [if_pos ⟨b1,hownone _ b3⟩];exact b3
       · obtain ⟨i,hi,hik⟩:=List.getElem_of_mem hko
         have hoi:own[i]? =some k:=by rw [List.getElem?_eq_getElem hi,hik]
         have hkB:=(hownB k hko).1
         refine .box hkB fun cs hcs'=>?_
         obtain ⟨cs₂,hc2,hc3⟩:=hgκ i k hoi
         rw [hc3] at hcs'
         cases hcs'
         obtain ⟨q,hq1,hq2⟩:=gt2 (n+i) cs hc2
         have hb:=hbx1 (n+i) q hq1
         have e1:gc.ω (n+i)=g.β k:=hωown i k hoi
         rw [e1] at hb
         refine hb.mapped hq2 rfl (fun m=>hχ _ _ ?_) ?_ (.inr hT2) hup
         · have h1:OBJS≠RESK:=by decide
           simp only [χ]
           rw [if_neg h1,if_pos trivial,if_neg Zo,Nat.add_sub_cancel_left,hoi];rfl
         · obtain ⟨b1,_,b3⟩:=Zb7 h hkB (hlive _ _ hoi)
           simp only [g2];rw [if_pos ⟨b1,hownone _ b3⟩];exact b3
 · rcases List.mem_cons.1 hm with rfl|hm
   · omega
   · rcases ht2 κ hm Zo with ⟨hh,_⟩|hko
     · omega
     · obtain ⟨i,hi,hik⟩:=List.getElem_of_mem hko
       obtain ⟨cs₂,_,hc3⟩:=hgκ i κ (by rw [List.getElem?_eq_getElem hi,hik])
       exact .inr ⟨cs₂,hc3⟩
 · rcases List.mem_cons.1 hm with hh|hm
   · omega
   · rcases ht2 OBJS hm (Nat.le_refl _) with ⟨_,hp⟩|hko
     · exact ⟨os,os₂.take n,hobj hp,hgO hp,by rw [List.length_take];simp only [n] at*;omega⟩
     · have:=(hownB _ hko).1;omega
 · rcases List.mem_cons.1 hm with rfl|hm
   · omega
   · rcases ht2 κ hm Zo with ⟨hh,_⟩|hko
     · omega
     · obtain ⟨i,hi,hik⟩:=List.getElem_of_mem hko
       exact .inl ⟨hlive i κ (by rw [List.getElem?_eq_getElem hi,hik]),rfl⟩
end Go.Am
end
section
namespace Go.Am
variable [WI]
variable {Pg:Program}
def OpWp (Pg:Program) (o:Oper) (a:Act) (w:World) (g:G) (e':Env):Prop:=
 ∀(K:Act->World->Prop) (Q:Exit->Act->World->Prop),
  (∀v w' g',St g' e' (a.put o.dst v) w'->Ext g.T g.pr g.ow w w' g'.pr g'.ow->g'.ω=g.ω->g'.T=g.T->g'.nt=g.nt->K (a.put o.dst v) w')->o.wp Pg a w K Q
theorem OpOut.wp {o:Oper} {a:Act} {w:World} {g:G} {e':Env} (h:OpOut Pg o a w g e'):OpWp Pg o a w g e':=by
 intro K Q hK
 obtain ⟨nx,v,w',g',hr,hv,hst,hext,h1,h2,h3⟩:=h
 have:=hK v w' g' hst hext h1 h2 h3
 unfold Oper.wp
 rw [hr]
 rcases hv with rfl|⟨rfl,rfl⟩<;>exact this
def Zvt:List Arg->Nat->Option Nat
 | [],_=>none
 | .k m::r,k=>if m==k then some 0 else (Zvt r k).map (· +1)
 | .c _::r,k=>(Zvt r k).map (· +1)
def ZAi (args:List Arg) (takes:List Nat):Bool:=
 (List.range args.length).all fun j=>match args[j]? with
  | some (.k k)=> !takes.elem k||Zvt args k==some j
  | _=>true
theorem Zn5 {args:List Arg} {takes:List Nat} (h:ZAi args takes=true) {j k:Nat} (hj:args[j]? =some (.k k)) (hk:k∈takes):Zvt args k=some j:=by
 have:=List.all_eq_true.1 h j (List.mem_range.2 (Zaq hj))
 simp only [hj] at this
 simpa [hk] using this
def ZCK:Arg->Arg->Bool
 | .k a,.k b=>a==b
 | _,_=>false
def Zq6:List Arg->List Arg->Bool
 | [],[]=>true
 | x::xs,y::ys=>ZCK x y && Zq6 xs ys
 | _,_=>false
theorem Zg7: ∀{xs ys:List Arg},Zq6 xs ys=true->xs=ys
 | [],[],_=>rfl
 | x::xs,y::ys,h=>by
   simp only [Zq6,Bool.and_eq_true] at h
   rw [Zg7 h.2]
   cases x<;>cases y<;>simp [ZCK] at h
   rw [h.1]
 | [],_::_,h=>by cases h
 | _::_,[],h=>by cases h
def ZuI (pass:Bool) (own:List Nat) (args rest:List Arg) (takes outs:List Nat) (d nt:Nat):Bool:=
 Nat.blt d nt && decide own.Nodup && own.all (fun κ=>Nat.ble BOX κ && takes.elem κ) && (!pass||takes.elem OBJS) &&
 takes.all (fun m=>if Nat.blt m OBJS then m !=d else (m==OBJS && pass)||own.elem m) &&
 Zq6 rest ((if pass then [.k OBJS] else [])++own.map .k) && outs==d::((if pass then [OBJS] else [])++own) && ZAi args takes
def Zwp (Pg:Program) (f:Nat) (pass:Bool) (own:List Nat) (na:Nat) (o:Oper) (s:SOp) (nt:Nat):Bool:=
 match o.op,o.dst with
 | .call c,some d=>(match c.callee with
   | .value (.func f')=>f==f' && Zeo c.args.toList (s.ins.take na) && ZuI pass own (s.ins.take na) (s.ins.drop na) s.takes s.outs d nt
   | _=>false)
 | _,_=>false
def Zr9 (pass:Bool) (own:List Nat) (na:Nat) (o:Oper) (s:SOp) (nt:Nat):Bool:=
 match o.op,o.dst with
 | .call c,some d=>(match c.callee,s.ins with
   | .value x,y::ins=>Zcl x y && Zeo c.args.toList (ins.take na) && ZuI pass own (ins.take na) (ins.drop na) s.takes s.outs d nt
   | _,_=>false)
 | _,_=>false
theorem Zmi: ∀{xs:List Operand} {ys:List Arg},Zeo xs ys=true->xs.length=ys.length/\ ∀(j:Nat) x y,xs[j]? =some x->ys[j]? =some y->Zcl x y=true
 | [],[],_=>⟨rfl,fun j x y h=>by simp at h⟩
 | x::xs,y::ys,h=>by
   simp only [Zeo,Bool.and_eq_true] at h
   obtain ⟨l,gt⟩:=Zmi h.2
   refine ⟨by simp [l],fun j u v hu hv=>?_⟩
   cases j with
   | zero=>simp at hu hv;subst hu;subst hv;exact h.1
   | succ j=>exact gt j u v (by simpa using hu) (by simpa using hv)
 | [],_::_,h=>by cases h
 | _::_,[],h=>by cases h
theorem ZqB: ∀{ds:List D} {xs:List A},asOf ds=some xs->ds.length=xs.length/\ ∀(j:Nat) x,xs[j]? =some x->ds[j]? =some (.a x)
 | [],xs,h=>by simp [asOf] at h;subst h;exact ⟨rfl,fun j x h=>by simp at h⟩
 | .a y::r,xs,h=>by
   unfold asOf at h
   cases h1:asOf r with
   | none=>rw [h1] at h;cases h
   | some q=>
     rw [h1] at h;cases h
     obtain ⟨l,gt⟩:=ZqB h1
     refine ⟨by simp [l],fun j x hx=>?_⟩
     cases j with
     | zero=>simp at hx;subst hx;rfl
     | succ j=>simpa using gt j x (by simpa using hx)
 | .undef::_,_,h=>by simp [asOf] at h
 | .tup _::_,_,h=>by simp [asOf] at h
 | .objs _::_,_,h=>by simp [asOf] at h
theorem Zq4 {x:A} {c:C} (hc:c∈x.plain.cells):c.held=false:=by
 cases x with
 | one y=>simp [A.plain,A.cells] at hc;subst hc;exact Zc1 _
 | agg cs=>simp [A.plain,A.cells] at hc;obtain ⟨y,_,rfl⟩:=hc;exact Zc1 _
theorem Zwa {g:G} {e:Env} {a:Act} {w:World} (h:St g e a w) {x:Operand} {y:Arg} (hx:Zcl x y=true) {args:List Arg} {takes:List Nat} (hp:ZAi args takes=true)
   {j:Nat} (hj:args[j]? =some y) {z:A} (hz:Zbl e takes y= .a z):
   (∃k,RepA g w k 0 (a.eval x) z/\((∀c∈z.cells,c.held=false)∨(k∈takes/\k<OBJS/\Zvt args k=some j)))∨ ∃c,z= .one c/\ ∀g' w' ℓ,RepC g' w' ℓ (a.eval x) c:=by
 cases y with
 | k n=>
   have hn:n<OBJS/\x= .tmp n:=by
     cases x<;>simp [Zcl] at hx
     exact ⟨hx.2,by rw [hx.1]⟩
   obtain ⟨hn,rfl⟩:=hn
   have hr:=(h.key n).tm hn
   refine .inl ⟨n,?_⟩
   simp only [Zbl] at hz
   by_cases ht:takes.elem n=true
   · rw [if_pos ht] at hz
     rw [hz] at hr
     exact ⟨hr,.inr ⟨by simpa using ht,hn,Zn5 hp hj (by simpa using ht)⟩⟩
   · rw [if_neg ht] at hz
     have hr':=hr.plain (k':=n)
     rw [hz] at hr'
     refine ⟨hr',.inl fun c hc=>?_⟩
     cases hd:e.get n with
     | a q=>
       rw [hd] at hz
       simp only [D.plain,D.a.injEq] at hz
       subst hz
       exact Zq4 hc
     | _=>rw [hd] at hz;simp [D.plain] at hz
 | c c=>
   simp only [Zbl] at hz
   cases hz
   refine .inr ⟨c,rfl,fun g' w' ℓ=>?_⟩
   cases x with
   | tmp t=>simp [Zcl] at hx
   | const v=>exact Zds hx g' w' ℓ
   | global g=>simp [Zcl] at hx
   | func f=>
     cases c with
     | clo f' p q=>
       cases p<;>cases q<;>simp [Zcl] at hx
       subst hx;rfl
     | _=>simp [Zcl] at hx
section
variable {F:ZaQ} {g:G} {e e':Env} {a:Act} {w:World}
theorem ZJj (hF:Zcv Pg F) (h:St g e a w) {f:Nat} {pass:Bool} {own takes outs:List Nat} {ins rest:List Arg} {d:Nat} (hp:ZuI pass own ins rest takes outs d g.nt=true)
   {xs:List Operand} (hx:Zeo xs ins=true) {args:List A} (ha:asOf (ins.map (Zbl e takes))=some args) (first caps:List R) (fv:R->Value) (fa:R->A) (hfr: ∀r,RepA g w 0 0 (fv r) (fa r)/\ ∀c∈(fa r).cells,c.held=false)
   {ds:List D} (hc:ZcU F f pass own (first.map fa++args++caps.map fun r=> .one (.ref r)) (rest.map (Zbl e takes))=some ds) (hs:(ZaA e takes).sets outs ds=some e'):
   Zhz Pg f=true/\Calls Pg f (first.map fv++xs.map a.eval++caps.map (R.val g)).toArray w fun r w'=> ∃v g',r= .returned v/\St g' e' (a.put (some d) v) w'/\Ext g.T g.pr g.ow w w' g'.pr g'.ow/\g'.ω=g.ω/\g'.T=g.T/\g'.nt=g.nt:=by
 unfold ZuI at hp
 simp only [Bool.and_eq_true,decide_eq_true_eq] at hp
 obtain ⟨⟨⟨⟨⟨⟨⟨p1,p2⟩,p3⟩,p4⟩,p5⟩,p6⟩,p7⟩,p8⟩:=hp
 have p1':d<g.nt:=Nat.blt_eq.mp p1
 have p3': ∀κ∈own,BOX<=κ/\κ∈takes:=fun κ hκ=>by
   have:=List.all_eq_true.1 p3 κ hκ
   rw [Bool.and_eq_true] at this
   exact ⟨Nat.le_of_ble_eq_true this.1,by simpa using this.2⟩
 have p4':pass=true->OBJS∈takes:=fun hh=>by rw [hh] at p4;simpa using p4
 have p5': ∀m∈takes,if Nat.blt m OBJS then m≠d else (m=OBJS/\pass=true)∨m∈own:=fun m hm=>by
   have:=List.all_eq_true.1 p5 m hm
   split
   · rename_i hh;rw [if_pos hh] at this;simpa using this
   · rename_i hh;rw [if_neg hh] at this;simpa using this
 have ht1: ∀m∈takes,m<OBJS->m≠d:=fun m hm hl=>by
   have:=p5' m hm
   rwa [if_pos (Nat.blt_eq.mpr hl)] at this
 have ht2: ∀m∈takes,OBJS<=m->(m=OBJS/\pass=true)∨m∈own:=fun m hm hl=>by
   have:=p5' m hm
   rwa [if_neg (fun hh=>by have:=Nat.blt_eq.mp hh;omega)] at this
 have hrest:=Zg7 p6
 have houts:outs=d::((if pass then [OBJS] else [])++own):=by simpa using p7
 subst houts
 have hrd:rest.map (Zbl e takes)=(if pass then [e.get OBJS] else [])++own.map e.get:=by
   rw [hrest,List.map_append]
   congr 1
   · cases hps:pass with
     | false=>rfl
     | true=>simp [Zbl,p4' hps]
   · rw [List.map_map]
     refine List.map_congr_left fun κ hκ=>?_
     simp [Zbl,(p3' κ hκ).2]
 rw [hrd] at hc
 obtain ⟨xl,xg⟩:=Zmi hx
 obtain ⟨al,ag⟩:=ZqB ha
 rw [List.length_map] at al
 refine Zu2 hF h p1' p2 p3' p4' ht1 ht2 Ze (fun k=>(Zvt ins k).map (· +first.length)) ?_ hc hs
 intro j u x hu hxx
 have refRep: ∀(l:List R) (i:Nat),(l.map (R.val g))[i]? =some u->(l.map fun r=>A.one (C.ref r))[i]? =some x-> ∃k,RepA g w k 0 u x/\((∀c∈x.cells,c.held=false)∨(k∈takes/\k<OBJS/\((Zvt ins k).map (· +first.length))=some j)):=fun l i hu hxx=>by
   rw [List.getElem?_map] at hu hxx
   cases hl:l[i]? with
   | none=>rw [hl] at hu;cases hu
   | some r=>
     rw [hl] at hu hxx
     cases hu;cases hxx
     exact ⟨0,rfl,.inl fun c hc=>by simp [A.cells] at hc;subst hc;rfl⟩
 rw [List.append_assoc] at hu hxx
 rcases Nat.lt_or_ge j first.length with h1|h1
 · rw [List.getElem?_append_left (by simpa using h1)] at hu hxx
   rw [List.getElem?_map] at hu hxx
   rw [List.getElem?_eq_getElem h1] at hu hxx
   cases hu;cases hxx
   exact .inl ⟨0,(hfr _).1,.inl (hfr _).2⟩
 · rw [List.getElem?_append_right (by simpa using h1),List.length_map] at hu hxx
   rcases Nat.lt_or_ge (j-first.length) xs.length with h2|h2
   · rw [List.getElem?_append_left (by simpa using h2),List.getElem?_map] at hu
     rw [List.getElem?_append_left Zo] at hxx
     cases hq:xs[j-first.length]? with
     | none=>rw [hq] at hu;cases hu
     | some q=>
       rw [hq] at hu
       simp only [Option.map_some,Option.some.injEq] at hu
       subst hu
       have hd:=ag _ x hxx
       rw [List.getElem?_map] at hd
       cases hy:ins[j-first.length]? with
       | none=>rw [hy] at hd;cases hd
       | some y=>
         rw [hy] at hd
         simp only [Option.map_some,Option.some.injEq] at hd
         rcases Zwa h (xg _ q y hq hy) p8 hy hd with ⟨k,k1,k2⟩|hk
         · refine .inl ⟨k,k1,k2.imp id fun ⟨q1,q2,q3⟩=>⟨q1,q2,?_⟩⟩
           rw [q3];simp;omega
         · exact .inr hk
   · rw [List.getElem?_append_right (by simpa using h2),List.length_map] at hu
     rw [List.getElem?_append_right Zo] at hxx
     rw [show args.length=xs.length by omega] at hxx
     exact .inl (refRep caps _ hu hxx)
theorem Zmp (hF:Zcv Pg F) (h:St g e a w) {f:Nat} {pass:Bool} {own takes outs:List Nat} {ins rest:List Arg} {d:Nat} (hp:ZuI pass own ins rest takes outs d g.nt=true)
  {xs:List Operand} (hx:Zeo xs ins=true) {args:List A} (ha:asOf (ins.map (Zbl e takes))=some args) (first caps:List R)
  {ds:List D} (hc:ZcU F f pass own (first.map (fun r=> .one (.ref r))++args++caps.map fun r=> .one (.ref r)) (rest.map (Zbl e takes))=some ds) (hs:(ZaA e takes).sets outs ds=some e'):
  Zhz Pg f=true/\Calls Pg f (first.map (R.val g)++xs.map a.eval++caps.map (R.val g)).toArray w fun r w'=> ∃v g',r= .returned v/\St g' e' (a.put (some d) v) w'/\Ext g.T g.pr g.ow w w' g'.pr g'.ow/\g'.ω=g.ω/\g'.T=g.T/\g'.nt=g.nt:=
 ZJj hF h hp hx ha first caps (R.val g) (fun r=> .one (.ref r)) (fun r=>⟨rfl,fun c hc=>by simp [A.cells] at hc;subst hc;rfl⟩) hc hs
theorem Zts {o:Oper} {f:Nat} {vs:Array Value} (hr:(execOp a.eval o).run Pg w= .ok (.enter f vs) w)
  (hc:Calls Pg f vs w fun r w'=> ∃v g',r= .returned v/\St g' e' (a.put o.dst v) w'/\Ext g.T g.pr g.ow w w' g'.pr g'.ow/\g'.ω=g.ω/\g'.T=g.T/\g'.nt=g.nt):OpWp Pg o a w g e':=by
 intro K Q hK
 unfold Oper.wp
 rw [hr,Oper.upon_enter]
 refine hc.mono ?_
 rintro r w' ⟨v,g',rfl,h1,h2,h3,h4,h5⟩
 exact hK v w' g' h1 h2 h3 h4 h5
theorem ZjZ {o:Oper} {c:Call} {x:Operand} {f:Nat} {first caps:Array Value} (hop:o.op= .call c) (hcal:c.callee= .value x) (hx:a.eval x= .func (.func f) first caps) (hent:Zhz Pg f=true):
  (execOp a.eval o).run Pg w= .ok (.enter f (first++c.args.map a.eval++caps)) w:=by
 simp only [execOp,hop,resolve,hcal,hx,Deferred.ofValue]
 rw [Sem.run_bind]
 exact Zpc hent _ _
theorem Zye (hF:Zcv Pg F) (h:St g e a w) {o:Oper} {s:SOp} {f:Nat} {pass:Bool} {own:List Nat} {na:Nat} (hk:s.kind= .call f pass own na) (ho:Zwp Pg f pass own na o s g.nt=true) (hd:doOp F s e=some e'):OpWp Pg o a w g e':=by
 unfold Zwp at ho
 split at ho
 ·rename_i c d hop hdst
  split at ho
  ·rename_i f' hcal
   simp only [Bool.and_eq_true,beq_iff_eq] at ho
   obtain ⟨⟨rfl,h1⟩,h2⟩:=ho
   unfold doOp at hd
   split at hd
   ·cases hd
   ·rename_i ds hs
    rw [hk] at hs
    simp only [ZaI,Zj7] at hs
    split at hs
    ·rename_i args hargs
     rw [<-List.map_take] at hargs
     rw [<-List.map_drop] at hs
     obtain ⟨q1,q2⟩:=Zmp hF h (first:=[]) (caps:=[]) h2 h1 hargs (by simpa using hs) hd
     refine Zts (ZjZ (first:= #[]) (caps:= #[]) hop hcal rfl q1) (hdst ▸ ?_)
     refine cast ?_ q2
     congr 1
     apply Array.toList_inj.1
     simp
    ·cases hs
  ·cases ho
 ·cases ho
theorem Zwr (hF:Zcv Pg F) (h:St g e a w) {o:Oper} {s:SOp} {pass:Bool} {own:List Nat} {na:Nat} (hk:s.kind= .callv pass own na) (ho:Zr9 pass own na o s g.nt=true) (hd:doOp F s e=some e'):OpWp Pg o a w g e':=by
 unfold Zr9 at ho
 split at ho
 ·rename_i c d hop hdst
  split at ho
  ·rename_i x y ins hcal hins
   simp only [Bool.and_eq_true] at ho
   obtain ⟨⟨h0,h1⟩,h2⟩:=ho
   unfold doOp at hd
   split at hd
   ·cases hd
   ·rename_i ds hs
    rw [hk,hins] at hs
    simp only [ZaI,List.map_cons] at hs
    unfold Zju at hs
    split at hs
    ·rename_i f first caps xs heq
     simp only [List.cons.injEq] at heq
     obtain ⟨heq1,rfl⟩:=heq
     split at hs
     ·rename_i args hargs
      rw [<-List.map_take] at hargs
      rw [<-List.map_drop] at hs
      obtain ⟨q1,q2⟩:=Zmp hF h (first:=first) (caps:=caps) h2 h1 hargs hs hd
      have hv:=ZfR h h0 s.takes
      rw [heq1] at hv
      have hv':a.eval x= .func (.func f) (first.map (R.val g)).toArray (caps.map (R.val g)).toArray:=hv
      refine Zts (ZjZ hop hcal hv' q1) (hdst ▸ ?_)
      refine cast ?_ q2
      congr 1
      apply Array.toList_inj.1
      simp
     ·cases hs
    ·rename_i f r xs heq
     simp only [List.cons.injEq] at heq
     obtain ⟨heq1,rfl⟩:=heq
     split at hs
     ·rename_i args hargs
      rw [<-List.map_take] at hargs
      rw [<-List.map_drop] at hs
      obtain ⟨q1,q2⟩:=ZJj hF h h2 h1 hargs [r] [] (fun r=> .agg #[r.val g]) (fun r=> .agg [.ref r]) (fun r=>⟨⟨#[r.val g],rfl,rfl,fun i u x hu hx=>by
       cases i with
       | zero=>simp at hu hx;subst hu;subst hx;rfl
       | succ i=>simp at hx⟩,fun c hc=>by simp [A.cells] at hc;subst hc;rfl⟩) (by simpa using hs) hd
      have hv:=ZfR h h0 s.takes
      rw [heq1] at hv
      have hv':a.eval x= .func (.func f) #[.agg #[r.val g]] #[]:=hv
      refine Zts (ZjZ hop hcal hv' q1) (hdst ▸ ?_)
      refine cast ?_ q2
      congr 1
      apply Array.toList_inj.1
      simp
     ·cases hs
    ·cases hs
  ·cases ho
 ·cases ho
end
end Go.Am
end
