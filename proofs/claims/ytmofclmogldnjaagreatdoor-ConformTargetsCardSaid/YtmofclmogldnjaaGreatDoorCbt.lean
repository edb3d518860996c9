/- Part. -/
import Derived.Test.YtmofclmogldnjaaGreatDoorCbs
set_option maxRecDepth 999999
set_option maxHeartbeats 0
set_option linter.all false
section
namespace Go.Am
open Fe
def ZrU: ∀(xs:List (List UInt8)),(Lib.join xs [32]).length<=(xs.map fun x=>x.length+1).sum
 | []=>by simp [Lib.join]
 | [x]=>by simp [Lib.join]
 | x::y::l=>by
   have:=ZrU (y::l);simp only [Lib.join,List.intercalate,List.intersperse,List.flatten_cons,YF,Yp,List.sum_cons,YO,qX] at this⊢;omega
def Zlb: ∀{rows:LP},ZaL rows-> ∃xs,strs xs=rows/\(∀x∈xs,Byt x)/\wt rows=(xs.map fun x=>x.length+1).sum
 | [],_=>⟨[],rfl,by simp,rfl⟩
 | r::rows,h=>by
   obtain ⟨s,rfl,hb⟩:=h r Yr;obtain ⟨xs,e,h1,h2⟩:=Zlb (rows:=rows) fun x hx=>h x (Yk _ hx);exact ⟨s::xs,by simp [strs] at*;exact e,by simpa [hb] using h1,by simp [wt,h2]⟩
def ZvS {a b:List LN} (h:strs a=strs b):a=b:=by
 induction a generalizing b with
 | nil=>cases b with
   | nil=>rfl
   | cons y b=>simp [strs] at h
 | cons x a ih=>cases b with
   | nil=>simp [strs] at h
   | cons y b=>simp [strs] at h;rw [h.1,ih (b:=b) (by simpa [strs] using h.2)]
def Decl.uniq {S1:Nat->Option Fn} {row:List P} {a b:List LN} (h1:Decl S1 row a) (h2:Decl S1 row b):a=b:=by
 obtain ⟨n,h1⟩:=h1;obtain ⟨m,h2⟩:=h2;have e1:=Zmt (jT n m) _ _ _ _ h1;have e2:=Zmt (kK n m) _ _ _ _ h2;rw [e1] at e2;injection e2 with e2;injection e2 with e2 _;injection e2 with e2 _;injection e2 with e2;injection e2 with e2;injection e2 with _ e2;exact ZvS e2
def ZtU {xs:List LN}:(Zl2 xs).size<=(xs.map fun x=>x.length+1).sum:=by
 have h:=ZrU ((xs.map Zf5).map (·.data.toList));have e:(Zl2 xs).size=(Lib.join ((xs.map Zf5).map (·.data.toList)) [32]).length:=by simp [Zl2,ByteArray.size]
 rw [e];refine Yy h (Nat.le_of_eq ?_);simp [Zf5,Function.comp_def]
def ZsN {xs:List LN}:xs.length<=(xs.map fun x=>x.length+1).sum:=by
 induction xs with
 | nil=>simp
 | cons x l ih=>simp;omega
def Zvd {S1:Nat->Option Fn} (H1:Has S1) (HP1:HasP S1) {m:Nat} {row:List P} (h:IsNd m row) (hm:m<=24000):ZrJ S1 row/\(Zl2 (ZiN S1 row)).size<=80000*m:=by
 have h0:=h;obtain ⟨op,n,k,m',a,s,s2,args,ts,ls,rfl⟩:=h.form;have hg:Gives S1 Zbk [.one (.tip 1 []),.agg [.p (.int .i64 op),.p (.str s),.p (.int .i64 n),.p (.int .i64 k),.p (.str s2),.p (.int .i64 m'),.p (.sl 4 args),.p (.sl 4 ts),.p (.sl 10 ls),.p (.int .i64 a)]] []
   fun rs os=> ∃rows',ZaL rows'/\wt rows'<=80000*m/\rs=[.one (.p (.sl 1 rows'))]/\os=[]:=
  ZpN H1 HP1 (by rw [Zag];omega) (fun r hr=>absurd hr Zs) h0 fun rows' h1 h2=>⟨rows',h1,by rw [Zag] at h2;omega,rfl,rfl⟩
 obtain ⟨fu,rs,os,hc,rows',h1,h2,rfl,rfl⟩:=hg;obtain ⟨xs,rfl,hb,hw⟩:=Zlb h1;have hd:Decl S1 [.int .i64 op,.str s,.int .i64 n,.int .i64 k,.str s2,.int .i64 m',.sl 4 args,.sl 4 ts,.sl 10 ls,.int .i64 a] xs:=⟨fu,hc⟩
 have he:ZiN S1 _=xs:=(Znq ⟨_,hd⟩).uniq hd;have hj:=ZtU (xs:=xs);have hl:=ZsN (xs:=xs);rw [ZrJ,he];exact ⟨⟨rfl,⟨_,hd⟩,by omega,by omega⟩,by omega⟩
def Ztt {D:Nat->ByteArray} {f:Nat->Nat} {len:Nat} (h: ∀k,k<len->f k+(D k).size<=f (k+1)): ∀k,k<=len->(Proofs.Tryz.text D k).length<=f k+k
 | 0,_=>by simp [Proofs.Tryz.text]
 | k+1,hk=>by
   have h1:=Ztt h k Zo;have h2:=h k Zo;have h3:(D k).data.toList.length=(D k).size:=jG;simp only [Proofs.Tryz.text,YF,YO,qX];omega
def ZvV {S1 S2:Nat->Option Fn} (H1:Has S1) (HP1:HasP S1) (h:S2 Znh=some (.prim (ZpA (Zpr S1)))):HasPr S2 where
 print op n' k m a s s2 args ts ls Q hl hQ:=by
  obtain ⟨f,f0,fa,fb⟩:=hl.parts;have hlen:=hl.len;have hrow: ∀j (hj:j<ls.length),ZrJ S1 ls[j]/\f j*80000+(Zl2 (ZiN S1 ls[j])).size<=f (j+1)*80000:=fun j hj=>by
   obtain ⟨mj,e,h⟩:=fb j hj;have h2:=fa (j+1) hj;obtain ⟨h3,h4⟩:=Zvd H1 HP1 h Zo;exact ⟨h3,by omega⟩
  have hs:(Proofs.Tryz.text (Zn9 S1 ls) ls.length).length<=f ls.length*80000+ls.length:=
   Ztt (f:=fun k=>f k*80000) (len:=ls.length) (fun k hk=>by
    have h1:=(hrow k hk).2;have he:Zn9 S1 ls k=Zl2 (ZiN S1 ls[k]):=by
     unfold Zn9;rw [List.getD_eq_getElem?_getD,Ya hk];exact if_pos (hrow k hk).1.2.2.2
    show f k*80000+(Zn9 S1 ls k).size<=f (k+1)*80000;rw [he];exact h1) _ (Yc _)
  have hf:=fa ls.length (Yc _);refine ZkA h (t:=Zrn S1 ls) ?_ (hQ _ ?_ ?_)
  ·unfold Zpr;refine if_pos ⟨by omega,fun row hr=>?_⟩;obtain ⟨j,hj,rfl⟩:=YE hr;exact (hrow j hj).1
  ·rw [Zrn,Yh];unfold ZeA;omega
  ·intro c hc;obtain ⟨x,_,rfl⟩:=List.mem_map.1 hc;exact x.toNat_lt
noncomputable def ZBk (S1:Nat->Option Fn) (n:Nat) (row:List P):Option (List LN):=match fast S1 n 197 [.one (.tip 1 []),.agg (row.map C.p)] [] with
 | some ([.one (.p (.sl 1 rows))],[])=>Zrq rows
 | _=>none
def Zxe {S1:Nat->Option Fn} {n:Nat} {row:List P} {xs:List LN} (h:ZBk S1 n row=some xs):Decl S1 row xs:=by
 unfold ZBk at h;split at h
 ·rename_i rows heq;obtain ⟨m,hm⟩:=Zcp heq;exact ⟨m,by rw [hm,ZnM h]⟩
 ·cases h
noncomputable def ZAo (S1:Nat->Option Fn) (n:Nat):LP->Option (LN)
 | []=>some []
 | row::l=>match ZBk S1 n row,ZAo S1 n l with
   | some xs,some t=>if row.length=10/\xs.length<=2147483648/\(Zl2 xs).size<=2147483648 then some (ZbJ (Zl2 xs)++10::t) else none
   | _,_=>none
def Zq0 (D:Nat->ByteArray): ∀k,Proofs.Tryz.text D (k+1)=(D 0).data.toList++10::Proofs.Tryz.text (fun i=>D (i+1)) k
 | 0=>by simp [Proofs.Tryz.text]
 | k+1=>by rw [Proofs.Tryz.text,Zq0 D k];simp [Proofs.Tryz.text]
def Zsv {S1:Nat->Option Fn} {n:Nat}: ∀{ls:LP} {t:LN},ZAo S1 n ls=some t->(∀row∈ls,ZrJ S1 row)/\Zrn S1 ls=t
 | [],t,h=>by
   injection h with h;subst h;exact ⟨by simp,rfl⟩
 | row::l,t,h=>by
   unfold ZAo at h;split at h
   · rename_i xs t' h1 h2;split at h
     · rename_i hc;injection h with h;subst h;obtain ⟨k1,k2⟩:=Zsv h2;have hd:=Zxe h1;have he:ZiN S1 row=xs:=(Znq ⟨_,hd⟩).uniq hd;have hok:ZrJ S1 row:=⟨hc.1,⟨_,hd⟩,by rw [he];exact hc.2.1,by rw [he];exact hc.2.2⟩
       refine ⟨fun r hr=>?_,?_⟩
       · rcases List.mem_cons.1 hr with rfl|hr
         · exact hok
         · exact k1 r hr
       · have h0:Zn9 S1 (row::l) 0=Zl2 xs:=by
           unfold Zn9;show (if (Zl2 (ZiN S1 row)).size<=2147483648 then Zl2 (ZiN S1 row) else _)=_;rw [he,if_pos hc.2.2]
         have hs:(fun i=>Zn9 S1 (row::l) (i+1))=Zn9 S1 l:=by funext i;rfl
         rw [Zrn,YO,Zq0,h0,hs,YC,Yp];rw [<-k2];rfl
     · cases h
   · cases h
noncomputable def Zuf (S1:Nat->Option Fn) (n:Nat) (args:List A):Option (LN):=match args with
 | [.agg [_,_,_,_,_,_,_,_,.p (.sl 10 ls),_]]=>if ls.length<=30000 then ZAo S1 n ls else none
 | _=>none
def Zt4 {S1:Nat->Option Fn} {n:Nat} {args:List A} {t:LN} (h:Zuf S1 n args=some t):Zpr S1 args=some t:=by
 unfold Zuf at h;split at h
 ·split at h
  ·rename_i hl;obtain ⟨h1,h2⟩:=Zsv h;unfold Zpr;rw [<-h2];exact if_pos ⟨hl,h1⟩
  ·cases h
 ·cases h
def ZuB [WI] {S1:Nat->Option Fn} {n:Nat} (hS: ∀n,Zcv Proofs.Tryz.prog (call S1 n)):Zf2 Proofs.Tryz.prog 115 (ZpA (Zuf S1 n)):=by
 intro args os rs os' hp;refine ZqO hS args os rs os' ?_;unfold ZpA at hp⊢;split at hp
 ·rename_i ho;rw [if_pos ho];rw [YG] at hp⊢;obtain ⟨t,ht,e⟩:=hp;exact ⟨t,Zt4 ht,e⟩
 ·cases hp
end Go.Am
end
