/- Part. -/
import Derived.Test.YtmofclmogldnjaaGreatDoorMbu
set_option maxRecDepth 999999
set_option maxHeartbeats 0
set_option linter.all false
section
namespace Go.Am
open Fe
def ZrU: ∀(xs:List (List UInt8)),(Lib.join xs [32]).length<=(xs.map fun x=>x.length+1).sum
 | []=>by simp [Lib.join]
 | [x]=>by simp [Lib.join]
 | x::y::l=>by
   have:=ZrU (y::l);simp only [Lib.join,List.intercalate,List.intersperse,List.flatten_cons,YF,Yp,List.sum_cons,YO,List.length_nil] at this⊢;omega
def Zlb: ∀{rows:LP},ZaL rows-> ∃xs,strs xs=rows/\(∀x∈xs,Byt x)/\wt rows=(xs.map fun x=>x.length+1).sum
 | [],_=>⟨[],rfl,by simp,rfl⟩
 | r::rows,h=>by
   obtain ⟨s,rfl,hb⟩:=h r Yr;obtain ⟨xs,e,h1,h2⟩:=Zlb (rows:=rows) fun x hx=>h x (Yk _ hx);exact ⟨s::xs,by simp [strs] at*;exact e,by simpa [hb] using h1,by simp [wt,h2]⟩
def ZvS {a b:List LN} (h:strs a=strs b):a=b:=by
 induction a generalizing b with
 | nil=>cases b with
   | nil=>rfl
   | cons y b=>simp [strs] at h
 | cons x a ih=>cases b with
   | nil=>simp [strs] at h
   | cons y b=>simp [strs] at h;rw [h.1,ih (b:=b) (by simpa [strs] using h.2)]
def Decl.uniq {S1:Nat->Option Fn} {row:List P} {a b:List LN} (h1:Decl S1 row a) (h2:Decl S1 row b):a=b:=by
 obtain ⟨n,h1⟩:=h1;obtain ⟨m,h2⟩:=h2;have e1:=Zmt (Nat.le_max_left n m) _ _ _ _ h1;have e2:=Zmt (Nat.le_max_right n m) _ _ _ _ h2;rw [e1] at e2;injection e2 with e2;injection e2 with e2 _;injection e2 with e2 _;injection e2 with e2;injection e2 with e2;injection e2 with _ e2;exact ZvS e2
def ZtU {xs:List LN}:(Zl2 xs).size<=(xs.map fun x=>x.length+1).sum:=by
 have h:=ZrU ((xs.map Zf5).map (·.data.toList));have e:(Zl2 xs).size=(Lib.join ((xs.map Zf5).map (·.data.toList)) [32]).length:=by simp [Zl2,ByteArray.size]
 rw [e];refine Yy h (Nat.le_of_eq ?_);simp [Zf5,Function.comp_def]
def ZsN {xs:List LN}:xs.length<=(xs.map fun x=>x.length+1).sum:=by
 induction xs with
 | nil=>simp
 | cons x l ih=>simp;omega
def Zvd {S1:Nat->Option Fn} (H1:Has S1) (HP1:HasP S1) {m:Nat} {row:List P} (h:IsNd m row) (hm:m<=24000):ZrJ S1 row/\(Zl2 (ZiN S1 row)).size<=80000*m:=by
 have h0:=h;obtain ⟨op,n,k,m',a,s,s2,args,ts,ls,rfl⟩:=h.form;have hg:Gives S1 Zbk [.one (.tip 1 []),.agg [.p (.int .i64 op),.p (.str s),.p (.int .i64 n),.p (.int .i64 k),.p (.str s2),.p (.int .i64 m'),.p (.sl 4 args),.p (.sl 4 ts),.p (.sl 10 ls),.p (.int .i64 a)]] []
   fun rs os=> ∃rows',ZaL rows'/\wt rows'<=80000*m/\rs=[.one (.p (.sl 1 rows'))]/\os=[]:=
  ZpN H1 HP1 (by rw [Zag];omega) (fun r hr=>absurd hr Zs) h0 fun rows' h1 h2=>⟨rows',h1,by rw [Zag] at h2;omega,rfl,rfl⟩
 obtain ⟨fu,rs,os,hc,rows',h1,h2,rfl,rfl⟩:=hg;obtain ⟨xs,rfl,hb,hw⟩:=Zlb h1;have hd:Decl S1 [.int .i64 op,.str s,.int .i64 n,.int .i64 k,.str s2,.int .i64 m',.sl 4 args,.sl 4 ts,.sl 10 ls,.int .i64 a] xs:=⟨fu,hc⟩
 have he:ZiN S1 _=xs:=(Znq ⟨_,hd⟩).uniq hd;have hj:=ZtU (xs:=xs);have hl:=ZsN (xs:=xs);rw [ZrJ,he];exact ⟨⟨rfl,⟨_,hd⟩,by omega,by omega⟩,by omega⟩
def Ztt {D:Nat->ByteArray} {f:Nat->Nat} {len:Nat} (h: ∀k,k<len->f k+(D k).size<=f (k+1)): ∀k,k<=len->(Proofs.Tryz.text D k).length<=f k+k
 | 0,_=>by simp [Proofs.Tryz.text]
 | k+1,hk=>by
   have h1:=Ztt h k Zo;have h2:=h k Zo;have h3:(D k).data.toList.length=(D k).size:=Array.length_toList;simp only [Proofs.Tryz.text,YF,YO,List.length_nil];omega
def ZvV {S1 S2:Nat->Option Fn} (H1:Has S1) (HP1:HasP S1) (h:S2 Znh=some (.prim (ZpA (Zpr S1)))):HasPr S2 where
 print op n' k m a s s2 args ts ls Q hl hQ:=by
  obtain ⟨f,f0,fa,fb⟩:=hl.parts;have hlen:=hl.len;have hrow: ∀j (hj:j<ls.length),ZrJ S1 ls[j]/\f j*80000+(Zl2 (ZiN S1 ls[j])).size<=f (j+1)*80000:=fun j hj=>by
   obtain ⟨mj,e,h⟩:=fb j hj;have h2:=fa (j+1) hj;obtain ⟨h3,h4⟩:=Zvd H1 HP1 h Zo;exact ⟨h3,by omega⟩
  have hs:(Proofs.Tryz.text (Zn9 S1 ls) ls.length).length<=f ls.length*80000+ls.length:=
   Ztt (f:=fun k=>f k*80000) (len:=ls.length) (fun k hk=>by
    have h1:=(hrow k hk).2;have he:Zn9 S1 ls k=Zl2 (ZiN S1 ls[k]):=by
     unfold Zn9;rw [List.getD_eq_getElem?_getD,Ya hk];exact if_pos (hrow k hk).1.2.2.2
    show f k*80000+(Zn9 S1 ls k).size<=f (k+1)*80000;rw [he];exact h1) _ (Yc _)
  have hf:=fa ls.length (Yc _);refine ZkA h (t:=Zrn S1 ls) ?_ (hQ _ ?_ ?_)
  ·unfold Zpr;refine if_pos ⟨by omega,fun row hr=>?_⟩;obtain ⟨j,hj,rfl⟩:=YE hr;exact (hrow j hj).1
  ·rw [Zrn,Yh];unfold ZeA;omega
  ·intro c hc;obtain ⟨x,_,rfl⟩:=List.mem_map.1 hc;exact x.toNat_lt
end Go.Am
end
