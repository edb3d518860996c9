/- Part. -/
import Derived.Test.YtmofclmogldnjaaGreatDoorCag
import Derived.Test.YtmofclmogldnjaaGreatDoorCaf
set_option maxRecDepth 999999
set_option maxHeartbeats 0
set_option linter.all false
def qU:=@Int.natCast_add
def jC:=@List.eq_nil_of_length_eq_zero
def jU:=@Int.natCast_one
def kO:=@List.set_eq_take_append_cons_drop
def xN:=@Nat.succ_le_of_lt
section
namespace Go.Am.Fe
open Go.Am.Tx
variable {S:Nat->Option Fn} {Q:List A->List LC->Prop}
attribute [simp] Tx.o Tx.og Tx.m Tx.mt Tx.r Tx.q Tx.i Tx.e Tx.v Tx.n Tx.s Tx.z Tx.b
abbrev pi (x:Int):A:= .one (.i x)
abbrev pu (x:Int):A:= .one (.p (.int .u8 x))
abbrev pb (x:Bool):A:= .one (.p (.bool x))
abbrev ps (x:LN):A:= .one (.s x)
def dO {p:Prop} (h:p:=by dsimp only;omega):p:=h
def dC {p:Prop} (h:p:=by dsimp only [cond];omega):p:=h
def n3 {p:Prop} (h:p:=by exact ⟨⟨rfl,fun _=>rfl⟩,⟨rfl,fun _=>rfl⟩,⟨rfl,fun _=>rfl⟩⟩):p:=h
abbrev SF:=Nat->Option Fn
abbrev QF:=List A->List LC->Prop
@[simp] def o9:Nat×D:=(9999,.objs [])
@[simp] def a00:A:= .agg [.i 0,.i 0]
class Tst (G:Prop) (X:outParam Bool):Prop where
 out:(X=true->G)->(X=false->G)->G
instance {X:Bool} {a b:SCode} {e:Env} {k:List Fr} {Q:Am.X->Env->Prop}:Tst (Cd S X a b e k Q) X:=⟨Zaf⟩
instance {X want:Bool} {o:SOp} {os:List SOp} {e:Env} {k:List Fr} {Q:Am.X->Env->Prop}:Tst (GdC S (.a (.one (.p (.bool X)))) want o os e k Q) X:=⟨Zap⟩
instance {F:ZaQ} {X want:Bool} {o:SOp} {os:List SOp} {e:Env} {k:List Fr} {Q:Am.X->Env->Prop}:Tst (Op1 S (Gd F (.a (.one (.p (.bool X)))) want o e) os k Q) X:=⟨Zam⟩
def Tcs {G:Prop} {X:Bool} [t:Tst G X] (ht:X=true->G) (hf:X=false->G):G:=t.out ht hf
def bz:(∀{p:Prop} [Decidable p],(decide p=true)=p)/\(∀{p:Prop} [Decidable p],(decide p=false)= ¬p)/\(∀{α:Type} [BEq α] [LawfulBEq α] {a b:α},(a !=b)=true↔a≠b)/\(∀{α:Type} (a b:α),(a≠b)= ¬(a=b))/\(∀b:Bool,((!b)=true)=(b=false))/\(∀b:Bool,((!b)=false)=(b=true))/\(∀{p:Prop} [Decidable p],¬¬p↔p):=
 ⟨by simp,by simp,bne_iff_ne,by simp,by simp,by simp,xL⟩
@[simp] def fR (i:Nat):Nat×D:=(i,.a (.one (.ref ⟨true,10000+i,0⟩)))
@[simp] def rN (o:Int) (s:LN) (n k:Int) (u:LN) (m:Int) (a t l:LP) (z:Int):List P:=[.i o,.str s,.i n,.i k,.str u,.i m,.sl 4 a,.sl 4 t,.sl 10 l,.i z]
@[simp] def rT (k:Int) (s:LN) (n:Int) (a:LP):List P:=[.i k,.str s,.i n,.sl 4 a]
@[simp] def aN (o:Int) (s:LN) (n k:Int) (u:LN) (m:Int) (a t l:LP) (z:Int):A:= .agg [.i o,.s s,.i n,.i k,.s u,.i m,.l 4 a,.l 4 t,.l 10 l,.i z]
@[simp] def aT (k:Int) (s:LN) (n:Int) (a:LP):A:= .agg [.i k,.s s,.i n,.l 4 a]
@[simp] def aN0:A:= .agg [.i 0,.s [],.i 0,.i 0,.s [],.i 0,.tip 4 [],.tip 4 [],.tip 10 [],.i 0]
@[simp] def aC0:A:= .agg [.s [],.i 0,.s [],.i 0,.tip 4 [],.tip 1 [],.tip 10 [],.tip 4 [],.tip 1 []]
@[simp] def aF0:A:= .agg [.s [],.tip 1 [],.tip 10 [],.tip 6 [],.i 0,.s [],.i 0,.tip 4 [],.i 0,.s [],.i 0,.tip 4 [],.i 0,.s [],.i 0,.i 0,.s [],.i 0,.tip 4 [],.tip 4 [],.tip 10 [],.i 0]
@[simp] def aM0:A:= .agg [.tip 17 [],.tip 3 [],.tip 9 [],.tip 22 []]
def ZbO {x:Int} (h1: -9223372036854775808<=x) (h2:x<=9223372036854775807):IntKind.i64.wrap x=x:=by
 unfold IntKind.wrap IntKind.bits IntKind.signed;simp;omega
def Byt (s:LN):Prop:= ∀c∈s,c<256
def by1 (c:Nat):List P:=[.int .u8 c]
@[simp] def Byt.nil:Byt []:=fun _ h=>by cases h
def Byt.get {s:LN} (h:Byt s) {i:Nat} (hi:i<s.length):s[i]<256:=h _ (Yl hi)
def Byt.app {s t:LN} (h:Byt s) (h':Byt t):Byt (s++t):=fun c hc=>by
 rcases List.mem_append.1 hc with hc|hc
 ·exact h c hc
 ·exact h' c hc
def Byt.one {c:Nat} (h:c<256):Byt [c]:=fun d hd=>by simp at hd;subst hd;exact h
def Byt.take {s:LN} (h:Byt s) (n:Nat):Byt (s.take n):=fun c hc=>h c (List.mem_of_mem_take hc)
def Byt.drop {s:LN} (h:Byt s) (n:Nat):Byt (s.drop n):=fun c hc=>h c (List.mem_of_mem_drop hc)
def Zmq {s:LN} (h:Byt s):ZhC (s.map by1)=some s:=by
 induction s with
 | nil=>rfl
 | cons c s ih=>
   have h1:(0:Int)<=c/\(c:Int)<256:=⟨by omega,by have:=h c Zs;omega⟩
   have h2:=ih fun d hd=>h d (by simp [hd]);simp only [Yp,by1,ZhC];rw [if_pos h1];rw [h2];simp
def Zt9 (H:Has S) (c:Int):Gives S Zkq [pu c] [] Q=Q [pb (decide (c=9)||decide (c=10)||decide (c=13)||decide (c=32))] []:=by
 refine Eval.gives (.of (.code H.Zyc rfl ?_));simp [Znu]
 repeat' (first|(refine Zam (fun h=>?_) (fun h=>?_)<;>simp [h]))
 all_goals simp [*]
end Go.Am.Fe
end
section
namespace Go.Am.Fe
variable {S:SF} {Q:QF}
attribute [local simp] ZbO if_pos if_neg decide_eq_true decide_eq_false
def Zbf (H:Has S) {src:LN} {i:Nat} (hi:i<=src.length) (hl:src.length<ZeA) (hQ: ∀j:Nat,i<=j->j<=src.length->Q [pi j] []):Gives S Zeu [ps src,pi i] [] Q:=by
 unfold ZeA at hl;refine .code H.Zt6 rfl ?_;simp [Zjg];refine Lp.rule (fun j:Nat=>[(0,.a (ps src)),(1,.a (pi j)),o9]) (fun j=>i<=j/\j<=src.length) (fun j=>src.length-j) (a₀:=i) Zs ⟨Yc _,hi⟩ ?_;rintro j ⟨h1,h2⟩;by_cases hlt:j<src.length
 ·simp(disch:=omega)[Zt9 H];refine Zaf (fun h=>?_) (fun h=>?_)
  ·simp(disch:=omega)[h];exact ⟨j+1,by simp,⟨by omega,by omega⟩,dO⟩
  ·simp(disch:=omega)[h];refine Zam (fun h47=>?_) (fun h47=>?_)
   ·simp(disch:=omega)[h47];exact hQ j h1 h2
   ·simp(disch:=omega)[h47];refine Zam (fun hend=>?_) (fun hend=>?_)
    ·simp(disch:=omega)[hend];exact hQ j h1 h2
    ·have hlt2:j+1<src.length:=by simp at hend;omega
     simp(disch:=omega)[hend];refine Zaf (fun h48=>?_) (fun h48=>?_)
     ·simp(disch:=omega)[h48];exact hQ j h1 h2
     ·simp(disch:=omega)[h48];refine Lp.rule (fun j:Nat=>[(0,.a (ps src)),(1,.a (pi j)),o9]) (fun k=>j<=k/\k<=src.length/\(k=j->j<src.length)) (fun k=>src.length-k) (a₀:=j) Zs ⟨Yc _,h2,fun _=>hlt⟩ ?_;rintro k ⟨k1,k2,k3⟩;by_cases hk:k<src.length
      ·simp(disch:=omega);refine Zaf (fun h10=>?_) (fun h10=>?_)
       ·simp(disch:=omega)[h10];exact ⟨k+1,by simp,⟨by omega,by omega,by omega⟩,dO⟩
       ·simp(disch:=omega)[h10];have:k≠j:=fun hh=>by subst hh;simp at h47 h10;omega
        exact ⟨k,by simp,⟨by omega,by omega⟩,dO⟩
      ·simp(disch:=omega);exact ⟨k,by simp,⟨by omega,by omega⟩,dO⟩
 ·simp(disch:=omega);exact hQ j h1 h2
def ZpZ (c:Int):Bool:=decide (48<=c) && decide (c<=57)
def ZjS (c:Int):Bool:=decide (97<=c) && decide (c<=122)||decide (65<=c) && decide (c<=90)||decide (c=95)
def ZfZ (H:Has S) (c:Int):Gives S Zge [pu c] [] Q=Q [pb (ZpZ c)] []:=by
 refine Eval.gives (.of (.code H.ZxL rfl ?_));simp [Znb];by_cases h1:48<=c<;>by_cases h2:c<=57<;>simp [h1,h2,ZpZ]
def Zda (H:Has S) (c:Int):Gives S Ze0 [pu c] [] Q=Q [pb (ZjS c)] []:=by
 refine Eval.gives (.of (.code H.ZvW rfl ?_));simp [Zlo];by_cases h1:97<=c<;>by_cases h2:c<=122<;>by_cases h3:65<=c<;>by_cases h4:c<=90<;>by_cases h5:c=95<;>simp [h1,h2,h3,h4,h5,ZjS]
def ZsM (H:Has S) {src:LN} {i:Nat} (hi:i<=src.length) (hl:src.length<ZeA) (hQ: ∀j:Nat,i<=j->j<=src.length->(∀h:i<src.length,ZpZ src[i]=true->i<j)->Q [pi j] []):Gives S Zhi [ps src,pi i] [] Q:=by
 unfold ZeA at hl;refine .code H.ZuO rfl ?_;simp [ZjM];refine Lp.rule (fun j:Nat=>[(0,.a (ps src)),(1,.a (pi j)),o9]) (fun j=>i<=j/\j<=src.length) (fun j=>src.length-j) (a₀:=i) Zs ⟨Yc _,hi⟩ ?_;rintro j ⟨h1,h2⟩;by_cases hlt:j<src.length
 ·simp(disch:=omega)[ZfZ H];cases ht:ZpZ src[j]
  ·simp(disch:=omega);refine hQ j h1 h2 fun h hd=>?_;rcases Yt i j with hh|hh
   ·exact hh
   ·have:j=i:=by omega
    subst this;rw [ht] at hd;cases hd
  ·simp(disch:=omega);exact ⟨j+1,by simp,⟨by omega,by omega⟩,dO⟩
 ·simp(disch:=omega);exact hQ j h1 h2 fun h=>by omega
def ZvY (H:Has S) {src:LN} {i:Nat} (hi:i<=src.length) (hl:src.length<ZeA) (hQ: ∀j:Nat,i<=j->j<=src.length->(∀h:i<src.length,ZjS src[i]=true->i<j)->Q [pi j] []):Gives S Zkl [ps src,pi i] [] Q:=by
 unfold ZeA at hl;refine .code H.Zzt rfl ?_;simp [Zm9];refine Lp.rule (fun j:Nat=>[(0,.a (ps src)),(1,.a (pi j)),o9]) (fun j=>i<=j/\j<=src.length) (fun j=>src.length-j) (a₀:=i) Zs ⟨Yc _,hi⟩ ?_;rintro j ⟨h1,h2⟩;by_cases hlt:j<src.length
 ·simp(disch:=omega)[Zda H,ZfZ H];cases ht:ZjS src[j]
  ·simp(disch:=omega)[Zda H,ZfZ H];cases hd:ZpZ src[j]
   ·simp(disch:=omega);refine hQ j h1 h2 fun h hd=>?_;rcases Yt i j with hh|hh
    ·exact hh
    ·have:j=i:=by omega
     subst this;rw [ht] at hd;cases hd
   ·simp(disch:=omega);exact ⟨j+1,by simp,⟨by omega,by omega⟩,dO⟩
  ·simp(disch:=omega);exact ⟨j+1,by simp,⟨by omega,by omega⟩,dO⟩
 ·simp(disch:=omega);exact hQ j h1 h2 fun h=>by omega
def Zqw (H:Has S) {s:LN} (hQ: ∀t,Q [pb t] []):Gives S Zkm [ps s] [] Q:=by
 refine .code H.ZzB rfl ?_;simp [Zno];refine Zam (fun h=>?_) (fun h=>?_)
 ·simp [h];exact hQ _
 ·simp [h];refine Zam (fun h=>?_) (fun h=>?_)
  ·simp [h,Zl4];exact hQ _
  ·simp [h];exact hQ _
def ZrF (H:Has S) {c:Int} (hQ: ∀t,Q [pb t] []):Gives S Zg8 [pu c] [] Q:=by
 refine .code H.Zur rfl ?_;simp [Zi8];by_cases h1:65<=c<;>by_cases h2:c<=90<;>simp [h1,h2]<;>exact hQ _
def Zmk (H:Has S) {l:List LN} {s:LN} (hl:l.length<ZeA) (hQ: ∀j:Int,(j= -1/\s∉l)∨(∃i:Nat,j=i/\l[i]? =some s)->Q [pi j] []):Gives S Zct [.one (.l 1 (l.map fun x=>[.str x])),ps s] [] Q:=by
 unfold ZeA at hl;refine .code H.ZDa rfl ?_;simp [ZsT];refine Lp.rule (fun i:Nat=>[(0,.a (.one (.l 1 (l.map fun x=>[.str x])))),(1,.a (ps s)),(5,.a (pi i)),o9]) (fun i=>i<=l.length/\s∉l.take i) (fun i=>l.length-i) (a₀:=0) Zs Zs ?_;rintro i ⟨hi,hf⟩;by_cases hlt:i<l.length
 ·simp(disch:=omega);by_cases he:l[i]=s
  ·simp(disch:=omega)[he];exact hQ i (.inr ⟨i,rfl,by rw [Ya hlt,he]⟩)
  ·simp(disch:=omega)[he];refine ⟨i+1,by simp,⟨hlt,?_⟩,dO⟩;rw [List.take_succ_eq_append_getElem hlt];simp only [Ys,List.mem_singleton,not_or];exact ⟨hf,fun h=>he h.symm⟩
 ·simp(disch:=omega);refine hQ _ (.inl ⟨rfl,?_⟩);rwa [Yg Zo] at hf
def ZCC:List LN:=[[33],[33,61],[37],[38],[38,38],[40],[41],[42],[43],[44],[45],[45,62],[46],[47],[58],[59],[60],[60,61],[61],[61,61],[62],[62,61],[91],[93],[123],[124,124],[125]]
def ZtY (H:Has S):Gives S Zkn [] [] Q=Q [.one (.l 1 (ZCC.map fun x=>[.str x]))] []:=by
 refine Eval.gives (.of (.code H.ZzG rfl ?_));simp [Zm4,ZCC]
def ZtD (H:Has S) {src:LN} {i:Nat} (hi:i<src.length) (hl:src.length<ZeA) (hQ: ∀j:Nat,i+j<=src.length->Q [pi j] []):Gives S Zif [ps src,pi i] [] Q:=by
 unfold ZeA at hl;refine .code H.ZxM rfl ?_;simp(disch:=omega)[ZmX,ZtY H];have h1:=hQ 1 Zo;have h0:=hQ 0 Zo;by_cases h2:i+2<=src.length
 ·have h2':=hQ 2 Zo;simp(disch:=omega);refine Zmk H Zd fun j hj=>?_;simp(disch:=omega);refine Zaf (fun h=>?_) (fun h=>?_)
  ·simp [h];exact h2'
  ·simp(disch:=omega)[h];refine Zmk H Zd fun j hj=>?_;simp(disch:=omega);refine Zaf (fun h=>?_) (fun h=>?_)
   ·simp [h];exact h1
   ·simp [h];exact h0
 ·simp(disch:=omega);refine Zmk H Zd fun j hj=>?_;simp(disch:=omega);refine Zaf (fun h=>?_) (fun h=>?_)
  ·simp [h];exact h1
  ·simp [h];exact h0
def Zss (H:Has S) {src:LN} {i:Nat} (hi:i<src.length) (hl:src.length<ZeA) (hQ: ∀t,Q [pb t] []):Gives S Zhm [ps src,pi i] [] Q:=by
 refine .code H.ZtX rfl ?_;simp(disch:=omega)[Zjr,ZfZ H,Zda H];refine Zam (fun h=>?_) (fun h=>?_)
 ·simp [h];exact hQ _
 ·simp(disch:=omega)[h,ZfZ H,Zda H];cases ZpZ src[i]
  ·simp(disch:=omega)[ZfZ H,Zda H];cases ZjS src[i]
   ·simp(disch:=omega);refine ZtD H hi hl fun j hj=>?_;simp;exact hQ _
   ·simp;exact hQ _
  ·simp;exact hQ _
def ZkB (H:Has S) (hQ: ∀l:List LN,l.length=32->Q [.one (.l 1 (l.map fun x=>[.str x]))] []):Gives S Zf9 [] [] Q:=by
 refine .code H.Zr1 rfl ?_;simp [ZhP];exact hQ [_,_,_,_,_,_,_,_,_,_,_,_,_,_,_,_,_,_,_,_,_,_,_,_,_,_,_,_,_,_,_,_] rfl
structure Tok where
 kind:Int
 text:LN
 at_:Int
 len:Int
def Tok.enc (t:Tok):List P:=[.i t.kind,.str t.text,.i t.at_,.i t.len]
def Zem {src:LN} {i j:Nat}:(List.drop i (List.take j src)).length<=src.length:=by
 simp;omega
def Zep {src:LN} (h:Byt src) {i j:Nat}:Byt (List.drop i (List.take j src)):=(h.take j).drop i
def Zsr (H:Has S) {src:LN} {i:Nat} (hi:i<src.length) (hl:src.length<ZeA) (hb:Byt src)
  (h1: ∀(k:Int) (t:LN) (n:Nat),0<n->i+n<=src.length->t.length<=src.length->Byt t->Q [.agg [.i k,.s t,.i i,.i n],a00] [])
  (h2: ∀c:Int,c≠0->Q [.agg [.i 0,.s [],.i 0,.i 0],.agg [.i c,.i i]] []):Gives S ZmT [ps src,pi i] [] Q:=by
 unfold ZeA at hl;refine .code H.ZBl rfl ?_;simp(disch:=omega)[ZpJ,ZfZ H,Zda H];have e10:=h2 10 Zd;have e13:=h2 13 Zd;have e14:=h2 14 Zd;cases hd:ZpZ src[i]
 ·simp(disch:=omega)[Zda H];cases hlt:ZjS src[i]
  ·simp(disch:=omega);refine ZtD H hi hl fun n hn=>?_;simp(disch:=omega);by_cases hn0:0<n
   ·simp(disch:=omega);exact h1 8 _ n hn0 hn (Zem) (Zep hb)
   ·simp(disch:=omega);exact e10
  ·simp(disch:=omega);refine ZvY H Zo hl fun j k1 k2 k3=>?_;have hij:=k3 hi hlt;simp(disch:=omega);have hsub:(j:Int)-i=((j-i:Nat):Int):=by omega
   refine Zaf (fun h=>?_) (fun h=>?_)
   ·simp [h];exact e14
   ·simp [h];refine ZrF H fun t=>?_;simp;cases t
    ·simp;refine ZkB H fun l hlen=>?_;simp;refine Zmk H (by rw [hlen];decide) fun q hq=>?_;simp;refine Zaf (fun h=>?_) (fun h=>?_)
     ·simp(disch:=omega)[h];rw [hsub];exact h1 9 _ (j-i) Zo Zo Zem (Zep hb)
     ·simp(disch:=omega)[h];rw [hsub];exact h1 1 _ (j-i) Zo Zo Zem (Zep hb)
    ·simp;refine ZkB H fun l hlen=>?_;simp;refine Zmk H (by rw [hlen];decide) fun q hq=>?_;simp;refine Zaf (fun h=>?_) (fun h=>?_)
     ·simp(disch:=omega)[h];rw [hsub];exact h1 9 _ (j-i) Zo Zo Zem (Zep hb)
     ·simp(disch:=omega)[h];rw [hsub];exact h1 2 _ (j-i) Zo Zo Zem (Zep hb)
 ·simp(disch:=omega);refine ZsM H Zo hl fun j k1 k2 k3=>?_;have hij:=k3 hi hd;have hsub:(j:Int)-i=((j-i:Nat):Int):=by omega
  simp(disch:=omega);refine Zam (fun h=>?_) (fun h=>?_)
  ·simp(disch:=omega)[h];refine Zam (fun h48=>?_) (fun h48=>?_)
   ·simp(disch:=omega)[h48];exact e13
   ·simp(disch:=omega)[h48];refine Zqw H fun t=>?_;simp(disch:=omega);cases t
    ·simp(disch:=omega);by_cases hj:j<src.length
     ·simp(disch:=omega)[Zda H];cases ZjS src[j]
      ·simp(disch:=omega);rw [hsub];exact h1 3 _ (j-i) Zo Zo Zem (Zep hb)
      ·simp(disch:=omega);exact e13
     ·simp(disch:=omega);rw [hsub];exact h1 3 _ (j-i) Zo Zo Zem (Zep hb)
    ·simp(disch:=omega);exact e13
  ·simp(disch:=omega)[h];refine Zqw H fun t=>?_;simp(disch:=omega);cases t
   ·simp(disch:=omega);by_cases hj:j<src.length
    ·simp(disch:=omega)[Zda H];cases ZjS src[j]
     ·simp(disch:=omega);rw [hsub];exact h1 3 _ (j-i) Zo Zo Zem (Zep hb)
     ·simp(disch:=omega);exact e13
    ·simp(disch:=omega);rw [hsub];exact h1 3 _ (j-i) Zo Zo Zem (Zep hb)
   ·simp(disch:=omega);exact e13
def Zm1 (H:Has S) {src:LN} {i:Nat} {quote inside:Int} (hi:i<=src.length) (hl:src.length<ZeA) (hb:Byt src)
  (h1: ∀(t:LN) (n:Nat) (more:Bool),i<n->n<=src.length->t.length<=src.length->Byt t->Q [.agg [.s t,.i n,.p (.bool more)],a00] [])
  (h2: ∀c a:Int,c≠0->Q [.agg [.s [],.i 0,.p (.bool false)],.agg [.i c,.i a]] []):
  Gives S Zkw [ps src,pi quote,pi i,pi inside] [] Q:=by
 unfold ZeA at hl;refine .code H.Zy6 rfl ?_;simp(disch:=omega)[ZnN];refine Lp.rule (fun (j:Nat×LN)=>[(0,.a (ps src)),(1,.a (pi quote)),(2,.a (pi j.1)),(3,.a (pi inside)),fR 8,fR 9,(10,.a (.one (.tip 1 (j.2.map by1)))),o9,(10008,.a (.agg [.s [],.i 0,.p (.bool false)])),(10009,.a (a00))])
  (fun j=>i<=j.1/\j.1<=src.length/\j.2.length<=j.1/\Byt j.2) (fun j=>src.length-j.1) (a₀:=(i,[])) Zs (by simp;exact hi) ?_
 rintro ⟨j,bs⟩ ⟨k1,k2,k3,k4⟩;dsimp only at k1 k2 k3 k4;by_cases hlt:j<src.length
 ·simp(disch:=omega);refine Zaf (fun h=>?_) (fun h=>?_)
  ·simp(disch:=omega)[h];refine Zaf (fun hq=>?_) (fun hq=>?_)
   ·simp(disch:=omega)[hq,Zmq k4];exact h1 bs (j+1) false Zo Zo Zo k4
   ·simp(disch:=omega)[hq];refine Zaf (fun hq2=>?_) (fun hq2=>?_)
    ·simp(disch:=omega)[hq2];exact ⟨(j+1,bs++[src[j]]),by simp [by1],⟨dO,dO,by simp;omega,k4.app (Byt.one (hb.get hlt))⟩,dO⟩
    ·simp(disch:=omega)[hq2];by_cases hlt2:j+1<src.length
     ·simp(disch:=omega);generalize hc:src[j+1]=c;have hc256:c<256:=by rw [<-hc];exact hb.get hlt2
      clear hc;by_cases a1:c=110
      ·subst a1;simp(disch:=omega);exact ⟨(j+2,bs++[10]),by simp [by1],⟨dO,dO,by simp;omega,k4.app (Byt.one Zd)⟩,dO⟩
      ·simp(disch:=omega);by_cases a2:c=116
       ·subst a2;simp(disch:=omega);exact ⟨(j+2,bs++[9]),by simp [by1],⟨dO,dO,by simp;omega,k4.app (Byt.one Zd)⟩,dO⟩
       ·simp(disch:=omega);by_cases a3:c=92
        ·subst a3;simp(disch:=omega);exact ⟨(j+2,bs++[92]),by simp [by1],⟨dO,dO,by simp;omega,k4.app (Byt.one Zd)⟩,dO⟩
        ·simp(disch:=omega);by_cases a4:c=34
         ·subst a4;simp(disch:=omega);exact ⟨(j+2,bs++[34]),by simp [by1],⟨dO,dO,by simp;omega,k4.app (Byt.one Zd)⟩,dO⟩
         ·simp(disch:=omega);by_cases a5:c=40
          ·subst a5;simp(disch:=omega);refine Zaf (fun hin=>?_) (fun hin=>?_)
           ·simp(disch:=omega)[hin];exact h2 15 _ Zd
           ·simp(disch:=omega)[hin,Zmq k4];exact h1 bs (j+2) true Zo Zo Zo k4
          ·simp(disch:=omega);exact h2 12 _ Zd
     ·simp(disch:=omega);exact h2 12 _ Zd
  ·simp(disch:=omega)[h];exact h2 11 _ Zd
 ·simp(disch:=omega);exact h2 11 _ Zd
end Go.Am.Fe
end
section
namespace Go.Am.Fe
variable {S:SF} {Q:QF}
attribute [local simp] ZbO if_pos if_neg decide_eq_true decide_eq_false Yi Yj
def ZaX (l:List Int):LP:=l.map fun x=>[.i x]
def ZmH (l:List Int):LC:=l.map fun x=> .i x
@[simp] def Zpp {l:List Int}:(ZaX l).length=l.length:=by simp [ZaX]
@[simp] def ZvP {l:List Int}:(ZmH l).length=l.length:=by simp [ZmH]
def Zti {l:List Int}:(ZaX l).flatten.map C.p=ZmH l:=by simp [ZaX,ZmH,Zro]
def Zto {l:List Int}:toPs (ZmH l)=some (l.map fun x=> .i x):=Zux
def Zth {l:List Int}:Zo0 1 l.length (l.map fun x=>P.int .i64 x)=ZaX l:=ZmQ
def ZdV {l:List Int} {x:Int}:ZaX l++[[.i x]]=ZaX (l++[x]):=by simp [ZaX]
def Zlv {l:List Int} {n:Nat}:(ZaX l).take n=ZaX (l.take n):=by simp [ZaX]
def Zov {l:List Int} {j:Nat} (h:j<l.length):((ZmH l).drop j).take 1=[.p (.i l[j])]:=by
 rw [ZgC (by simpa using h)];simp [ZmH]
def Zuo {l:List Int} {j:Nat} {x:Int} (h:j<l.length):(ZmH l).take j++ .i x::(ZmH l).drop (j+1)=ZmH (l.set j x):=by
 simp only [ZmH,<-List.map_take,<-List.map_drop];rw [kO,if_pos h];simp
def Zf8 {k κ:Nat} {e:Env} {l:List Int} (h:0<l.length):Zpk k 0 κ 1 e (.a (.one (.uniq 1 (ZaX l))))=(κ,.a (.agg (ZmH l)))::(k,.a (.one (.own ⟨true,κ,0⟩ 1 l.length)))::e:=by
 rw [Zq1 (by simpa using h) Zd,Zti,Zpp]
def Zgg {k κ n:Nat} {e:Env} {l:List Int} (h:n=l.length):Zqs k 0 κ 1 e (.a (.one (.own ⟨true,κ,0⟩ 1 n))) (.a (.agg (ZmH l)))=(k,.a (.one (.uniq 1 (ZaX l))))::(κ,.undef)::e:=by
 subst h;rw [Zqk Zs,Nat.mul_one,Yg Zs,Zto,Zn2,Zth]
@[simp] def Zxm {l:List Int}:List.map C.plain (ZmH l)=ZmH l:=by simp [ZmH]
def toks (l:List Tok):LP:=l.map Tok.enc
def ZAT (n:Nat) (t:Tok):Prop:=t.text.length<=n/\Byt t.text
@[simp] def ZwR {ts:List Tok}:(toks ts).length=ts.length:=by simp [toks]
structure TSt where
 ts:List Tok
 qs:List Int
 os:List Int
 i:Nat
def TSt.env (src:LN) (s:TSt):Env:=[(0,.a (ps src)),fR 3,(4,.a (.one (.tip 4 (toks s.ts)))),(5,.a (.one (.uniq 1 (ZaX s.qs)))),(6,.a (.one (.uniq 1 (ZaX s.os)))),(7,.a (pi s.i)),o9,(10003,.a (a00))]
structure TSt.ok (src:LN) (s:TSt):Prop where
 i:s.i<=src.length
 t:s.ts.length<=3000
 k: ∀t∈s.ts,ZAT src.length t
 e:s.qs.length=s.os.length
 q:s.qs.length<=s.ts.length
def TSt.ok.push {src:LN} {ts:List Tok} {qs os:List Int} {j:Nat} {t:Tok} (k2:ts.length<=3000) (hm: ¬ts.length=3000) (k3: ∀t∈ts,ZAT src.length t) (ht:t.text.length<=src.length) (hb:Byt t.text)
  (hj:j<=src.length) (e:qs.length=os.length) (hq:qs.length<=ts.length+1):TSt.ok src ⟨ts++[t],qs,os,j⟩:=by
 refine ⟨hj,by simp;omega,fun u hu=>?_,e,by simpa using hq⟩;rcases List.mem_append.mp hu with h|h
 ·exact k3 u h
 ·rw [List.mem_singleton.mp h];exact ⟨ht,hb⟩
def Ztp (H:Has S) {src:LN} (hl:src.length<ZeA) (hb:Byt src)
  (h1: ∀ts:List Tok,ts.length<=3000->(∀t∈ts,ZAT src.length t)->src.length<=8000->Q [.one (.l 4 (toks ts)),a00] [])
  (h2: ∀c a:Int,c≠0->Q [.one (.l 4 []),.agg [.i c,.i a]] []):Gives S Zij [ps src] [] Q:=by
 have hl':=hl;unfold ZeA at hl';refine .code H.ZwL rfl ?_;simp(disch:=omega)[ZkX];by_cases hbig:src.length>8000
 ·simp(disch:=omega);exact h2 2 0 Zd
 simp(disch:=omega);refine Zbf H (i:=0) Zo hl fun j _ hj=>?_;simp(disch:=omega);refine Lp.rule (TSt.env src) (TSt.ok src) (fun s=>src.length-s.i) (a₀:=⟨[],[],[],j⟩) (by simp [TSt.env,toks,ZaX]) ⟨hj,by simp,by simp,rfl,by simp⟩ ?_;rintro ⟨ts,qs,os,i⟩ ⟨k1,k2,k3,k4,k5⟩;dsimp only at k1 k2 k3 k4 k5;simp only [TSt.env];by_cases hlt:i<src.length
 ·simp(disch:=omega);refine Zss H hlt hl fun t=>?_;cases t
  ·simp(disch:=omega);exact h2 10 _ Zd
  simp(disch:=omega);have e0:(toks ts).length=ts.length:=by simp [toks]
  by_cases hmax:ts.length=3000
  ·simp(disch:=omega)[toks,hmax];exact h2 2 _ Zd
  by_cases hos:os.length=0
  ·have ho:os=[]:=jC hos;subst ho;have hq:qs=[]:=by cases qs<;>simp_all
   subst hq;simp(disch:=omega)[ZaX];refine Zaf (fun h=>?_) (fun h=>?_)
   ·simp(disch:=omega)[h];refine Zm1 H (xN hlt) hl hb (fun t n more hn1 hn2 ht hbt=>?_) (fun c a hc=>?_)
    ·simp(disch:=omega);refine Zaf (fun hm=>?_) (fun hm=>?_)
     ·subst hm;simp(disch:=omega);refine Zbf H Zo hl fun j hj1 hj2=>?_;simp(disch:=omega);exact ⟨⟨ts++[⟨5,t,i,n-i⟩],[i],[0],j⟩,by simp [TSt.env,toks,ZaX,Tok.enc],.push k2 hmax k3 ht hbt hj2 rfl Zs,dO⟩
     ·subst hm;simp(disch:=omega);refine Zbf H Zo hl fun j hj1 hj2=>?_;simp(disch:=omega);exact ⟨⟨ts++[⟨4,t,i,n-i⟩],[],[],j⟩,by simp [TSt.env,toks,ZaX,Tok.enc],.push k2 hmax k3 ht hbt hj2 rfl Zs,dO⟩
    ·simp(disch:=omega)[hc];exact h2 c a hc
   ·simp(disch:=omega)[h];refine Zsr H hlt hl hb (fun kk t n hn0 hn1 ht hbt=>?_) (fun c hc=>?_)
    ·simp(disch:=omega);rw [<-qU];refine Zbf H Zo hl fun j hj1 hj2=>?_;simp(disch:=omega);exact ⟨⟨ts++[⟨kk,t,i,n⟩],[],[],j⟩,by simp [TSt.env,toks,ZaX,Tok.enc],.push k2 hmax k3 ht hbt hj2 rfl Zs,dO⟩
    ·simp(disch:=omega)[hc];exact h2 c _ hc
  ·have hxo:=Zov (l:=os) (j:=os.length-1) Zo;have hxq:=Zov (l:=qs) (j:=os.length-1) Zo;have hqt:(qs.map fun x=>[P.int .i64 x]).take os.length=qs.map fun x=>[P.int .i64 x]:=Yg (by simp [k4]);have hot:(os.map fun x=>[P.int .i64 x]).take os.length=os.map fun x=>[P.int .i64 x]:=Yg Zs;have e1:os.length-1+1=os.length:=by omega
   have hput: ∀x:Int,(ZmH os).take (os.length-1)++ .i x::(ZmH os).drop os.length=ZmH (os.set (os.length-1) x):=fun x=>by
    have:=Zuo (l:=os) (j:=os.length-1) (x:=x) Zo;rwa [Nat.sub_add_cancel Zo] at this
   have hsh: ∀(x:Int) (e:Env),Zqs 6 0 17000 1 e (.a (.one (.own ⟨true,17000,0⟩ 1 os.length))) (.a (.agg (ZmH (os.set (os.length-1) x))))=(6,.a (.one (.uniq 1 (ZaX (os.set (os.length-1) x)))))::(17000,.undef)::e:=fun x e=>Zgg Zs;simp(disch:=omega)[Zf8,k4];refine Zam (fun h=>?_) (fun h=>?_)
   ·simp(disch:=omega)[h,hxo,Zgg];refine Zam (fun ho=>?_) (fun ho=>?_)
    ·simp(disch:=omega)[ho,hxq,Zf8,Zgg,k4];refine Zm1 H (xN hlt) hl hb (fun t n more hn1 hn2 ht hbt=>?_) (fun c a hc=>?_)
     ·simp(disch:=omega)[Zgg,Zlv];refine Zaf (fun hm=>?_) (fun hm=>?_)
      ·subst hm;simp(disch:=omega)[ZdV];refine Zbf H Zo hl fun j hj1 hj2=>?_;simp(disch:=omega);exact ⟨⟨ts++[⟨6,t,i,n-i⟩],qs.take (os.length-1)++[qs[os.length-1]],os.take (os.length-1)++[0],j⟩,by simp [TSt.env,toks,ZaX,Tok.enc,hqt,hot,e1],.push k2 hmax k3 ht hbt hj2 (by first|omega|(simp<;>omega)) (by first|omega|(simp<;>omega)),dO⟩
      ·subst hm;simp(disch:=omega);refine Zbf H Zo hl fun j hj1 hj2=>?_;simp(disch:=omega);exact ⟨⟨ts++[⟨7,t,i,n-i⟩],qs.take (os.length-1),os.take (os.length-1),j⟩,by simp [TSt.env,toks,ZaX,Tok.enc,hqt,hot,e1],.push k2 hmax k3 ht hbt hj2 (by first|omega|(simp<;>omega)) (by first|omega|(simp<;>omega)),dO⟩
     ·simp(disch:=omega)[hc];exact h2 c a hc
    ·simp(disch:=omega)[ho,Zf8];refine Zaf (fun hc=>?_) (fun hc=>?_)
     ·simp(disch:=omega)[hc];refine Zm1 H (xN hlt) hl hb (fun t n more hn1 hn2 ht hbt=>?_) (fun c a hc=>?_)
      ·simp(disch:=omega)[Zgg,Zlv];refine Zaf (fun hm=>?_) (fun hm=>?_)
       ·subst hm;simp(disch:=omega)[ZdV];refine Zbf H Zo hl fun j hj1 hj2=>?_;simp(disch:=omega);exact ⟨⟨ts++[⟨5,t,i,n-i⟩],qs++[(i:Int)],os++[0],j⟩,by simp [TSt.env,toks,ZaX,Tok.enc,hqt,hot,e1],.push k2 hmax k3 ht hbt hj2 (by first|omega|(simp<;>omega)) (by first|omega|(simp<;>omega)),dO⟩
       ·subst hm;simp(disch:=omega);refine Zbf H Zo hl fun j hj1 hj2=>?_;simp(disch:=omega);exact ⟨⟨ts++[⟨4,t,i,n-i⟩],qs,os,j⟩,by simp [TSt.env,toks,ZaX,Tok.enc,hqt,hot,e1],.push k2 hmax k3 ht hbt hj2 (by first|omega|(simp<;>omega)) (by first|omega|(simp<;>omega)),dO⟩
      ·simp(disch:=omega)[hc];exact h2 c a hc
     ·simp(disch:=omega)[hc];refine Zsr H hlt hl hb (fun kk t n hn0 hn1 ht hbt=>?_) (fun c hc=>?_)
      ·simp(disch:=omega);have fin: ∀(os2:List Int) (j:Nat),os2.length=os.length->i<j->j<=src.length->Rd [0,3,4,5,6,7,9999,10003] (TSt.env src) (TSt.ok src) (fun s=>src.length-s.i) (TSt.mk ts qs os i) [(0,.a (ps src)),fR 3,(4,.a (.one (.tip 4 (toks ts++[[.i kk,.str t,.i i,.i n]])))),(5,.a (.one (.uniq 1 (ZaX qs)))),(6,.a (.one (.uniq 1 (ZaX os2)))),(7,.a (pi j)),o9,(10003,.a (a00))]:=fun os2 j e h1 h2=>
        ⟨⟨ts++[⟨kk,t,i,n⟩],qs,os2,j⟩,by simp [TSt.env,toks,ZaX,Tok.enc],.push k2 hmax k3 ht hbt h2 (by rw [e,k4]) Zo,dO⟩
       refine Zam (fun hk=>?_) (fun hk=>?_)
       ·simp(disch:=omega)[hk];refine Zaf (fun h40=>?_) (fun h40=>?_)
        ·have e40:t=[40]:=by simpa using h40
         subst e40;simp(disch:=omega)[hk,Zf8,hxo,hput,hsh];rw [<-qU];refine Zbf H Zo hl fun j hj1 hj2=>?_;simp(disch:=omega);exact fin _ j Zs Zo hj2
        ·simp(disch:=omega)[h40,hk];refine Zaf (fun h41=>?_) (fun h41=>?_)
         ·simp(disch:=omega)[h41,Zf8,hxo,hput,hsh];rw [<-qU];refine Zbf H Zo hl fun j hj1 hj2=>?_;simp(disch:=omega);exact fin _ j Zs Zo hj2
         ·simp(disch:=omega)[h41];rw [<-qU];refine Zbf H Zo hl fun j hj1 hj2=>?_;simp(disch:=omega);exact fin _ j rfl Zo hj2
       ·simp(disch:=omega)[hk];rw [<-qU];refine Zbf H Zo hl fun j hj1 hj2=>?_;simp(disch:=omega);exact fin _ j rfl Zo hj2
      ·simp(disch:=omega)[hc];exact h2 c _ hc
   ·simp(disch:=omega)[h,Zgg];refine Zaf (fun hc=>?_) (fun hc=>?_)
    ·simp(disch:=omega)[hc];refine Zm1 H (xN hlt) hl hb (fun t n more hn1 hn2 ht hbt=>?_) (fun c a hc=>?_)
     ·simp(disch:=omega)[Zgg,Zlv];refine Zaf (fun hm=>?_) (fun hm=>?_)
      ·subst hm;simp(disch:=omega)[ZdV];refine Zbf H Zo hl fun j hj1 hj2=>?_;simp(disch:=omega);exact ⟨⟨ts++[⟨5,t,i,n-i⟩],qs++[(i:Int)],os++[0],j⟩,by simp [TSt.env,toks,ZaX,Tok.enc,hqt,hot,e1],.push k2 hmax k3 ht hbt hj2 (by first|omega|(simp<;>omega)) (by first|omega|(simp<;>omega)),dO⟩
      ·subst hm;simp(disch:=omega);refine Zbf H Zo hl fun j hj1 hj2=>?_;simp(disch:=omega);exact ⟨⟨ts++[⟨4,t,i,n-i⟩],qs,os,j⟩,by simp [TSt.env,toks,ZaX,Tok.enc,hqt,hot,e1],.push k2 hmax k3 ht hbt hj2 (by first|omega|(simp<;>omega)) (by first|omega|(simp<;>omega)),dO⟩
     ·simp(disch:=omega)[hc];exact h2 c a hc
    ·simp(disch:=omega)[hc];refine Zsr H hlt hl hb (fun kk t n hn0 hn1 ht hbt=>?_) (fun c hc=>?_)
     ·simp(disch:=omega);have fin: ∀(os2:List Int) (j:Nat),os2.length=os.length->i<j->j<=src.length->Rd [0,3,4,5,6,7,9999,10003] (TSt.env src) (TSt.ok src) (fun s=>src.length-s.i) (TSt.mk ts qs os i) [(0,.a (ps src)),fR 3,(4,.a (.one (.tip 4 (toks ts++[[.i kk,.str t,.i i,.i n]])))),(5,.a (.one (.uniq 1 (ZaX qs)))),(6,.a (.one (.uniq 1 (ZaX os2)))),(7,.a (pi j)),o9,(10003,.a (a00))]:=fun os2 j e h1 h2=>
       ⟨⟨ts++[⟨kk,t,i,n⟩],qs,os2,j⟩,by simp [TSt.env,toks,ZaX,Tok.enc],.push k2 hmax k3 ht hbt h2 (by rw [e,k4]) Zo,dO⟩
      refine Zam (fun hk=>?_) (fun hk=>?_)
      ·simp(disch:=omega)[hk];refine Zaf (fun h40=>?_) (fun h40=>?_)
       ·have e40:t=[40]:=by simpa using h40
        subst e40;simp(disch:=omega)[hk,Zf8,hxo,hput,hsh];rw [<-qU];refine Zbf H Zo hl fun j hj1 hj2=>?_;simp(disch:=omega);exact fin _ j Zs Zo hj2
       ·simp(disch:=omega)[h40,hk];refine Zaf (fun h41=>?_) (fun h41=>?_)
        ·simp(disch:=omega)[h41,Zf8,hxo,hput,hsh];rw [<-qU];refine Zbf H Zo hl fun j hj1 hj2=>?_;simp(disch:=omega);exact fin _ j Zs Zo hj2
        ·simp(disch:=omega)[h41];rw [<-qU];refine Zbf H Zo hl fun j hj1 hj2=>?_;simp(disch:=omega);exact fin _ j rfl Zo hj2
      ·simp(disch:=omega)[hk];rw [<-qU];refine Zbf H Zo hl fun j hj1 hj2=>?_;simp(disch:=omega);exact fin _ j rfl Zo hj2
     ·simp(disch:=omega)[hc];exact h2 c _ hc
 ·by_cases hq:0<qs.length
  ·have hx:(ZaX qs)[qs.length-1]? =some [.i qs[qs.length-1]]:=by simp [ZaX]
   simp(disch:=omega)[hq,hx];exact h2 11 _ Zd
  ·simp(disch:=omega)[hq];exact h1 ts k2 k3 Zo
end Go.Am.Fe
end
section
namespace Go.Am.Fe
variable {S:SF} {Q:QF}
attribute [local simp] ZbO if_pos if_neg decide_eq_true decide_eq_false Yi Yj
inductive Ty where
 | mk (k:Int) (s:LN) (n:Int) (args:List Ty)
inductive Nd where
 | mk (op:Int) (s:LN) (n:Int) (t:Ty) (ts:List Ty) (l:List Nd) (at_:Int)
def In64 (n:Int):Prop:= -9223372036854775808<=n/\n<=9223372036854775807
def In64.wrap (x:Int):In64 (IntKind.i64.wrap x):=by
 unfold In64 IntKind.wrap;simp [IntKind.signed,IntKind.bits];omega
def In64.zero:In64 0:=by unfold In64;decide
def Str (s:LN):Prop:=s.length<=8000/\Byt s
mutual
def Ty.enc:Ty->List P
 | .mk k s n args=>[.i k,.str s,.i n,.sl 4 (Ty.encs args)]
def Ty.encs:List Ty->LP
 | []=>[]
 | t::l=>t.enc::Ty.encs l
end
mutual
def Ty.sz:Ty->Nat
 | .mk _ _ _ args=>1+Ty.szs args
def Ty.szs:List Ty->Nat
 | []=>0
 | t::l=>t.sz+Ty.szs l
end
mutual
def Ty.good:Ty->Prop
 | .mk k s _ args=>Str s/\((k=5∨k=8∨k=11)->args≠[])/\Ty.goods args
def Ty.goods:List Ty->Prop
 | []=>True
 | t::l=>t.good/\Ty.goods l
end
mutual
def Nd.enc:Nd->List P
 | .mk op s n (.mk k s2 n2 args) ts l a=>[.i op,.str s,.i n,.i k,.str s2,.i n2,.sl 4 (Ty.encs args),.sl 4 (Ty.encs ts),.sl 10 (Nd.encs l),.i a]
def Nd.encs:List Nd->LP
 | []=>[]
 | t::l=>t.enc::Nd.encs l
end
mutual
def Nd.sz:Nd->Nat
 | .mk _ _ _ t ts l _=>1+t.sz+Ty.szs ts+Nd.szs l
def Nd.szs:List Nd->Nat
 | []=>0
 | t::l=>t.sz+Nd.szs l
end
mutual
def Nd.good:Nd->Prop
 | .mk op s n t ts l _=>Str s/\t.good/\Ty.goods ts/\Nd.goods l/\(op=15->l≠[])/\(op=12->n=2->ts≠[])/\((op=42∨op=50)->In64 n)
def Nd.goods:List Nd->Prop
 | []=>True
 | t::l=>t.good/\Nd.goods l
end
def Ty.encs_app: ∀{a b:List Ty},Ty.encs (a++b)=Ty.encs a++Ty.encs b
 | [],_=>by simp [Ty.encs]
 | x::a,b=>by simp [Ty.encs,Ty.encs_app (a:=a)]
def Ty.szs_app: ∀{a b:List Ty},Ty.szs (a++b)=Ty.szs a+Ty.szs b
 | [],_=>by simp [Ty.szs]
 | x::a,b=>by simp [Ty.szs,Ty.szs_app (a:=a)];omega
def Ty.goods_app: ∀{a b:List Ty},Ty.goods (a++b)=(Ty.goods a/\Ty.goods b)
 | [],_=>by simp [Ty.goods]
 | x::a,b=>by simp [Ty.goods,Ty.goods_app (a:=a),and_assoc]
def Nd.encs_app: ∀{a b:List Nd},Nd.encs (a++b)=Nd.encs a++Nd.encs b
 | [],_=>by simp [Nd.encs]
 | x::a,b=>by simp [Nd.encs,Nd.encs_app (a:=a)]
def Nd.szs_app: ∀{a b:List Nd},Nd.szs (a++b)=Nd.szs a+Nd.szs b
 | [],_=>by simp [Nd.szs]
 | x::a,b=>by simp [Nd.szs,Nd.szs_app (a:=a)];omega
def Nd.goods_app: ∀{a b:List Nd},Nd.goods (a++b)=(Nd.goods a/\Nd.goods b)
 | [],_=>by simp [Nd.goods]
 | x::a,b=>by simp [Nd.goods,Nd.goods_app (a:=a),and_assoc]
def Ty.encs_length: ∀{a:List Ty},(Ty.encs a).length=a.length
 | []=>rfl
 | x::a=>by simp [Ty.encs,Ty.encs_length (a:=a)]
def Nd.encs_length: ∀{a:List Nd},(Nd.encs a).length=a.length
 | []=>rfl
 | x::a=>by simp [Nd.encs,Nd.encs_length (a:=a)]
def Ty.len_le: ∀{a:List Ty},a.length<=Ty.szs a
 | []=>by simp [Ty.szs]
 | .mk _ _ _ _::a=>by have:=Ty.len_le (a:=a);simp [Ty.szs,Ty.sz];omega
def Nd.len_le: ∀{a:List Nd},a.length<=Nd.szs a
 | []=>by simp [Nd.szs]
 | .mk _ _ _ _ _ _ _::a=>by have:=Nd.len_le (a:=a);simp [Nd.szs,Nd.sz];omega
def IsTy (m:Nat) (r:List P):Prop:= ∃t:Ty,t.enc=r/\t.good/\t.sz<=m
def IsTys (m:Nat) (r:LP):Prop:= ∃l:List Ty,Ty.encs l=r/\Ty.goods l/\Ty.szs l<=m
def IsNd (m:Nat) (r:List P):Prop:= ∃t:Nd,t.enc=r/\t.good/\t.sz<=m
def IsNds (m:Nat) (r:LP):Prop:= ∃l:List Nd,Nd.encs l=r/\Nd.goods l/\Nd.szs l<=m
def IsTy.mk {m:Nat} {k n:Int} {s:LN} {args:LP} (hs:Str s) (ha:IsTys m args) (hk:(k=5∨k=8∨k=11)->args≠[]):IsTy (m+1) [.i k,.str s,.i n,.sl 4 args]:=by
 obtain ⟨l,rfl,h1,h2⟩:=ha;refine ⟨.mk k s n l,rfl,⟨hs,fun h e=>hk h (by rw [e];rfl),h1⟩,?_⟩;show 1+Ty.szs l<=m+1;omega
def IsTy.le {m m':Nat} {r:List P} (h:IsTy m r) (hm:m<=m'):IsTy m' r:=let ⟨t,h1,h2,h3⟩:=h;⟨t,h1,h2,Yy h3 hm⟩
def IsTys.le {m m':Nat} {r:LP} (h:IsTys m r) (hm:m<=m'):IsTys m' r:=let ⟨t,h1,h2,h3⟩:=h;⟨t,h1,h2,Yy h3 hm⟩
def IsNd.le {m m':Nat} {r:List P} (h:IsNd m r) (hm:m<=m'):IsNd m' r:=let ⟨t,h1,h2,h3⟩:=h;⟨t,h1,h2,Yy h3 hm⟩
def IsNds.le {m m':Nat} {r:LP} (h:IsNds m r) (hm:m<=m'):IsNds m' r:=let ⟨t,h1,h2,h3⟩:=h;⟨t,h1,h2,Yy h3 hm⟩
def IsTys.nil:IsTys 0 []:=⟨[],rfl,trivial,Yc _⟩
def IsNds.nil:IsNds 0 []:=⟨[],rfl,trivial,Yc _⟩
def IsTys.snoc {m m':Nat} {r:List P} {rs:LP} (h:IsTys m rs) (h':IsTy m' r):IsTys (m+m') (rs++[r]):=by
 obtain ⟨l,rfl,a,b⟩:=h;obtain ⟨t,rfl,c,d⟩:=h';exact ⟨l++[t],by simp [Ty.encs_app,Ty.encs],by simp [Ty.goods_app,Ty.goods,a,c],by simp [Ty.szs_app,Ty.szs];omega⟩
def IsNds.snoc {m m':Nat} {r:List P} {rs:LP} (h:IsNds m rs) (h':IsNd m' r):IsNds (m+m') (rs++[r]):=by
 obtain ⟨l,rfl,a,b⟩:=h;obtain ⟨t,rfl,c,d⟩:=h';exact ⟨l++[t],by simp [Nd.encs_app,Nd.encs],by simp [Nd.goods_app,Nd.goods,a,c],by simp [Nd.szs_app,Nd.szs];omega⟩
def IsTys.cons {m m':Nat} {r:List P} {rs:LP} (h':IsTy m r) (h:IsTys m' rs):IsTys (m+m') (r::rs):=by
 obtain ⟨l,rfl,a,b⟩:=h;obtain ⟨t,rfl,c,d⟩:=h';exact ⟨t::l,rfl,⟨c,a⟩,by simp [Ty.szs];omega⟩
def IsNds.cons {m m':Nat} {r:List P} {rs:LP} (h':IsNd m r) (h:IsNds m' rs):IsNds (m+m') (r::rs):=by
 obtain ⟨l,rfl,a,b⟩:=h;obtain ⟨t,rfl,c,d⟩:=h';exact ⟨t::l,rfl,⟨c,a⟩,by simp [Nd.szs];omega⟩
def IsTys.len {m:Nat} {rs:LP} (h:IsTys m rs):rs.length<=m:=by
 obtain ⟨l,rfl,a,b⟩:=h;rw [Ty.encs_length];exact Yy Ty.len_le b
def IsNds.len {m:Nat} {rs:LP} (h:IsNds m rs):rs.length<=m:=by
 obtain ⟨l,rfl,a,b⟩:=h;rw [Nd.encs_length];exact Yy Nd.len_le b
def IsNd.mk {m1 m2 m3:Nat} {op n k n2 a:Int} {s s2:LN} {args ts l:LP} (hs:Str s) (ht:IsTy m1 [.i k,.str s2,.i n2,.sl 4 args]) (hts:IsTys m2 ts) (hl:IsNds m3 l)
  (h1:op=15->l≠[]) (h2:op=12->n=2->ts≠[])
  (h3:(op=42∨op=50)->In64 n:=by first|(intro h;exact absurd h Zd)|(intro h;exact absurd h (by dsimp only;decide))|(intro h;exact absurd h Za)|(intro _;assumption)|(intro _;exact In64.wrap _)|assumption):IsNd (m1+m2+m3+1) [.i op,.str s,.i n,.i k,.str s2,.i n2,.sl 4 args,.sl 4 ts,.sl 10 l,.i a]:=by
 obtain ⟨t,e,c,d⟩:=ht;obtain ⟨l,rfl,a1,b1⟩:=hl;obtain ⟨ts,rfl,a2,b2⟩:=hts;obtain ⟨k',s',n',args'⟩:=t;simp only [Ty.enc,Yf,P.int.injEq,P.str.injEq,P.sl.injEq,true_and,and_true] at e;obtain ⟨rfl,rfl,rfl,rfl⟩:=e;refine ⟨.mk op s n (.mk k' s' n' args') ts l a,rfl,⟨hs,c,a2,a1,fun h e=>h1 h (by rw [e];rfl),fun h h' e=>h2 h h' (by rw [e];rfl),h3⟩,?_⟩;show 1+Ty.sz _+Ty.szs ts+Nd.szs l<=_;omega
def Str.nil:Str []:=⟨by decide,by simp [Byt]⟩
def Str.or {s s':LN} (hs:Str s) (h:s'=[]∨s'=s):Str s':=by
 rcases h with rfl|rfl
 ·exact Str.nil
 ·exact hs
@[reducible] def rd (l:List Tok) (en:Int) (i:Nat) (pl:Int):LC:=[.l 4 (toks l),.i en,.i i,.i pl]
@[reducible] def me:A:= .one (.ref ⟨false,0,0⟩)
structure Rl (l:List Tok):Prop where
 len:l.length<=3000
 str: ∀t∈l,Str t.text
variable {l:List Tok} {en pl:Int} {i:Nat}
def ZcF {l:List Tok} {j:Nat} (h:j<l.length):(toks l)[j]? =some l[j].enc:=by simp [toks,h]
def ZaD (H:Has S) (hL:Rl l) (hi:i<=l.length) (hQ: ∀a:Int,Q [pi a] [rd l en i pl]):Gives S Zal [me] [rd l en i pl] Q:=by
 have hlen:=hL.1;refine .code H.ZlY rfl ?_;by_cases hlt:i<l.length
 ·simp(disch:=omega)[ZcO,ZcF,Tok.enc];exact hQ _
 ·simp(disch:=omega)[ZcO];exact hQ _
def Zba (H:Has S) (hL:Rl l) (hi:i<=l.length) {k:Int} {s:LN} (hQ: ∀b:Bool,(b=true->i<l.length)->Q [pb b] [rd l en i pl]):Gives S Zar [me,pi k,ps s] [rd l en i pl] Q:=by
 have hlen:=hL.1;refine .code H.ZoT rfl ?_;by_cases hlt:i<l.length
 ·simp(disch:=omega)[ZdK,ZcF,Tok.enc];refine Zam (fun h=>?_) (fun h=>?_)
  ·simp(disch:=omega)[h,ZcF,Tok.enc];exact hQ _ (fun _=>hlt)
  ·simp(disch:=omega)[h];exact hQ _ Zs
 ·simp(disch:=omega)[ZdK];exact hQ _ Zs
def ZaR (H:Has S) (hL:Rl l) (hi:i<=l.length) {k:Int} (hQ: ∀b:Bool,(b=true->i<l.length)->Q [pb b] [rd l en i pl]):Gives S Zbp [me,pi k] [rd l en i pl] Q:=by
 have hlen:=hL.1;refine .code H.ZlS rfl ?_;by_cases hlt:i<l.length
 ·simp(disch:=omega)[ZcN,ZcF,Tok.enc];exact hQ _ (fun _=>hlt)
 ·simp(disch:=omega)[ZcN];exact hQ _ Zs
def Zsg (H:Has S) (hL:Rl l) (hi:i<=l.length) {k:Int} {s:LN} (h1: ∀j:Nat,j=i+1->j<=l.length->Q [pb true] [rd l en j pl]) (h2:Q [pb false] [rd l en i pl]):
  Gives S ZcH [me,pi k,ps s] [rd l en i pl] Q:=by
 have hlen:=hL.1;refine .code H.ZoI rfl ?_;simp(disch:=omega)[Zfp];refine Zba H hL hi fun b hb=>?_;cases b
 ·simp(disch:=omega);exact h2
 ·have:=hb rfl;simp(disch:=omega);exact h1 (i+1) rfl Zo
def ZaG (H:Has S) (hL:Rl l) (hi:i<=l.length) {s:LN} (h1: ∀j:Nat,j=i+1->j<=l.length->Q [pb true] [rd l en j pl]) (h2:Q [pb false] [rd l en i pl]):
  Gives S Zad [me,ps s] [rd l en i pl] Q:=by
 have hlen:=hL.1;refine .code H.ZnR rfl ?_;simp(disch:=omega)[Zfx];refine Zsg H hL hi (fun j hj hj2=>?_) ?_
 ·simp(disch:=omega);exact h1 j hj hj2
 ·simp(disch:=omega);exact h2
def ZbT (H:Has S) (hL:Rl l) (hi:i<=l.length) {s:LN} (h1: ∀j:Nat,j=i+1->j<=l.length->Q [pb true] [rd l en j pl]) (h2:Q [pb false] [rd l en i pl]):
  Gives S Zaj [me,ps s] [rd l en i pl] Q:=by
 have hlen:=hL.1;refine .code H.Zpo rfl ?_;simp(disch:=omega)[Zf0];refine Zsg H hL hi (fun j hj hj2=>?_) ?_
 ·simp(disch:=omega);exact h1 j hj hj2
 ·simp(disch:=omega);exact h2
def Za8 (H:Has S) (hL:Rl l) (hi:i<=l.length) {k:Int} (h1: ∀(j:Nat) (s:LN),j=i+1->j<=l.length->Str s->Q [ps s,pb true] [rd l en j pl]) (h2:Q [ps [],pb false] [rd l en i pl]):
  Gives S Zak [me,pi k] [rd l en i pl] Q:=by
 have hlen:=hL.1;refine .code H.Zn0 rfl ?_;simp(disch:=omega)[Zfm];refine ZaR H hL hi fun b hb=>?_;cases b
 ·simp(disch:=omega);exact h2
 ·have hlt:=hb rfl;simp(disch:=omega)[ZcF,Tok.enc];exact h1 (i+1) _ rfl Zo (hL.2 _ (Yl hlt))
def slc (s:Nat) (b:Bool) (rows:LP):C:=cond b (.tip s rows) (.p (.sl s rows))
@[simp] def ZC3 {s:Nat} {rows:LP}:slc s true rows= .tip s rows:=rfl
@[simp] def ZCY {s:Nat} {rows:LP}:slc s false rows= .p (.sl s rows):=rfl
@[simp] def ZzR {s:Nat} {b:Bool} {rows:LP}:(slc s b rows).plain= .p (.sl s rows):=by cases b<;>rfl
def OkTy (S:SF) (n:Nat):Prop:= ∀(l:List Tok) (en pl:Int) (i:Nat) (Q:QF),Rl l->i<=l.length->l.length<n+i->
 (∀(k:Int) (s:LN) (m:Int) (args:LP) (ok:Bool) (j:Nat),i<=j->j<=l.length->(ok=true->i<j/\IsTy (8*(j-i)) [.i k,.str s,.i m,.sl 4 args])->
  Q [aT k s m args,pb ok] [rd l en j pl])->Gives S ZaJ [me] [rd l en i pl] Q
def Zm5 (H:Has S) {n:Nat} (hT:OkTy S n) (hL:Rl l) (hi:i<=l.length) (hn:l.length<n+i)
  (hQ: ∀(ts:LP) (ok:Bool) (j:Nat),i<=j->j<=l.length->(ok=true->i<j/\IsTys (8*(j-i)) ts)->Q [.one (.tip 4 ts),pb ok] [rd l en j pl]):
  Gives S Zbw [me] [rd l en i pl] Q:=by
 have hlen:=hL.1;refine .code H.Zm7 rfl ?_;simp(disch:=omega)[ZeW];refine Lp.rule (fun (a:LP×Bool×Nat)=>[(0,.a me),(4,.a (.one (.tip 4 a.1))),(5,.a (pb a.2.1)),(9999,.objs [rd l en a.2.2 pl])])
  (fun a=>i<=a.2.2/\a.2.2<=l.length/\IsTys (8*(a.2.2-i)) a.1/\(a.2.1=false->i<a.2.2)) (fun a=>2*(l.length-a.2.2)+cond a.2.1 1 0) (a₀:=([],true,i)) Zs ⟨Yc _,hi,IsTys.nil.le Zo,by simp⟩ ?_
 rintro ⟨ts,b,j⟩ ⟨k1,k2,k3,k4⟩;dsimp only at k1 k2 k3 k4;have k5:=k3.len;cases b
 ·simp(disch:=omega);exact hQ ts true j k1 k2 fun _=>⟨k4 rfl,k3⟩
 ·simp(disch:=omega);refine hT l en pl j _ hL k2 Zo fun k s m args ok j2 a1 a2 a3=>?_;cases ok
  ·simp(disch:=omega);exact hQ ts false j2 Zo a2 Zs
  ·obtain ⟨a4,a5⟩:=a3 rfl;simp(disch:=omega);have k6:IsTys (8*(j2-i)) (ts++[[.i k,.str s,.i m,.sl 4 args]]):=(k3.snoc a5).le Zo;refine ZaG H hL a2 (fun j3 b1 b2=>?_) ?_
   ·simp(disch:=omega);exact ⟨(ts++[[.i k,.str s,.i m,.sl 4 args]],true,j3),by simp,⟨dO,b2,k6.le dO,by simp⟩,dC⟩
   ·simp(disch:=omega);exact ⟨(ts++[[.i k,.str s,.i m,.sl 4 args]],false,j2),by simp,⟨dO,a2,k6,fun _=>dO⟩,dC⟩
def Zsb (H:Has S) {n:Nat} (hT:OkTy S n) (hL:Rl l) (hi:i<=l.length) (hn:l.length<n+1+i)
  (hQ: ∀(k:Int) (s:LN) (m:Int) (args:LP) (ok:Bool) (j:Nat),i<=j->j<=l.length->(ok=true->i<j/\IsTy (8*(j-i)) [.i k,.str s,.i m,.sl 4 args])->
  Q [aT k s m args,pb ok] [rd l en j pl]):Gives S Zcd [me] [rd l en i pl] Q:=by
 have hlen:=hL.1;refine .code H.ZoV rfl ?_;simp(disch:=omega)[Zfj];refine Za8 H hL hi (fun j s hj hj2 hs=>?_) ?_
 ·simp(disch:=omega);refine ZaG H hL hj2 (fun j2 b1 b2=>?_) ?_
  ·simp(disch:=omega);refine Zm5 H hT hL b2 Zo fun ts ok j3 c1 c2 c3=>?_;cases ok
   ·simp(disch:=omega);exact hQ _ _ _ _ _ _ Zo c2 Zs
   ·obtain ⟨c4,c5⟩:=c3 rfl;simp(disch:=omega);refine ZaG H hL c2 (fun j4 d1 d2=>?_) ?_
    ·simp(disch:=omega);have key: ∀(k m:Int) (s':LN),(s'=[]∨s'=s)->((k=5∨k=8∨k=11)->ts.length=1)->Q [aT k s' m ts,pb true] [rd l en j4 pl]:=fun k m s' h1 h2=>
      hQ _ _ _ _ _ _ Zo d2 fun _=>⟨by omega,(IsTy.mk (hs.or h1) c5 (fun h e=>by have:=h2 h;rw [e] at this;exact absurd this Zd)).le Zo⟩
     by_cases e0:ts.length=0
     ·have e0':ts=[]:=jC e0;subst e0';simp(disch:=omega)
      repeat' (refine Zaf (fun h=>?_) (fun h=>?_)<;>simp(disch:=omega)[h])
      all_goals exact key _ _ _ Zs Zs
     ·have e0': ¬ts=[]:=fun e=>e0 (by rw [e];rfl);by_cases e1:ts.length=1
      ·simp(disch:=omega)[e0',e1]
       repeat' (refine Zaf (fun h=>?_) (fun h=>?_)<;>simp(disch:=omega)[h])
       all_goals exact key _ _ _ Zs (fun _=>e1)
      ·simp(disch:=omega)[e0',e1];exact key _ _ _ Zs Zs
    ·simp(disch:=omega);exact hQ _ _ _ _ _ _ Zo c2 Zs
  ·simp(disch:=omega);have key: ∀(k m:Int) (s':LN),(s'=[]∨s'=s)-> ¬(k=5∨k=8∨k=11)->Q [aT k s' m [],pb true] [rd l en j pl]:=fun k m s' h1 h2=>
      hQ _ _ _ _ _ _ Zo hj2 fun _=>⟨by omega,(IsTy.mk (hs.or h1) IsTys.nil (fun h e=>h2 h)).le Zo⟩
   repeat' (refine Zaf (fun h=>?_) (fun h=>?_)<;>simp(disch:=omega)[h])
   all_goals exact key _ _ _ Zs Zs
 ·simp(disch:=omega);exact hQ _ _ _ _ _ _ (Yc _) hi Zs
def Zr5 (H:Has S) {n:Nat} (hT:OkTy S n):OkTy S (n+1):=by
 intro l en pl i Q hL hi hn hQ;have hlen:=hL.1;have fail: ∀(k:Int) (s:LN) (m:Int) (args:LP) (j:Nat),i<=j->j<=l.length->Q [aT k s m args,pb false] [rd l en j pl]:=fun k s m args j h1 h2=>hQ k s m args false j h1 h2 Zs;have good: ∀(k:Int) (s:LN) (m:Int) (args:LP) (j:Nat),j<=l.length->i<j->IsTy (8*(j-i)) [.i k,.str s,.i m,.sl 4 args]->Q [aT k s m args,pb true] [rd l en j pl]:=fun k s m args j h2 h3 h4=>hQ k s m args true j Zo h2 fun _=>⟨h3,h4⟩
 refine .code H.Zpy rfl ?_;simp(disch:=omega)[Zgi];refine ZbT H hL hi (fun j hj hj2=>?_) ?_
 ·simp(disch:=omega);refine Za8 H hL hj2 (fun j2 s b1 b2 hs=>?_) ?_
  ·simp(disch:=omega);exact good _ _ _ _ _ b2 Zo ((IsTy.mk hs IsTys.nil Zd).le Zo)
  ·simp(disch:=omega);exact fail _ _ _ _ _ Zo hj2
 ·simp(disch:=omega);refine ZaG H hL hi (fun j hj hj2=>?_) ?_
  ·simp(disch:=omega);refine ZaG H hL hj2 (fun j2 b1 b2=>?_) ?_
   ·simp(disch:=omega);refine ZaG H hL b2 (fun j3 c1 c2=>?_) ?_
    ·simp(disch:=omega);refine hT l en pl j3 _ hL c2 Zo fun k s m args ok j4 d1 d2 d3=>?_;simp(disch:=omega);exact hQ _ _ _ _ _ _ Zo d2 fun h=>⟨by omega,(IsTy.mk Str.nil (IsTys.cons (d3 h).2 IsTys.nil) Zs).le (by have:=(d3 h).1;omega)⟩
    ·simp(disch:=omega);exact fail _ _ _ _ _ Zo b2
   ·simp(disch:=omega);refine Zm5 H hT hL hj2 Zo fun ts ok j3 c1 c2 c3=>?_;cases ok
    ·simp(disch:=omega);exact fail _ _ _ _ _ Zo c2
    ·obtain ⟨c4,c5⟩:=c3 rfl;have c6:=c5.len;simp(disch:=omega);refine ZaG H hL c2 (fun j4 d1 d2=>?_) ?_
     ·simp(disch:=omega);refine ZaG H hL d2 (fun j5 f1 f2=>?_) ?_
      ·simp(disch:=omega);refine hT l en pl j5 _ hL f2 Zo fun k s m args ok j6 g1 g2 g3=>?_;simp(disch:=omega);exact hQ _ _ _ _ _ _ Zo g2 fun h=>⟨by omega,(IsTy.mk Str.nil (IsTys.snoc c5 (g3 h).2) (fun h=>absurd h Zd)).le (by have:=(g3 h).1;omega)⟩
      ·simp(disch:=omega);exact fail _ _ _ _ _ Zo d2
     ·simp(disch:=omega);exact fail _ _ _ _ _ Zo c2
  ·simp(disch:=omega);refine Zsb H hT hL hi Zo fun k s m args ok j a1 a2 a3=>?_;simp(disch:=omega);refine Lp.rule (fun (a:Int×LN×Int×LP×Bool×Nat×Bool)=>[(0,.a me),fR 2,fR 12,(13,.a (pb a.2.2.2.2.1)),(9999,.objs [rd l en a.2.2.2.2.2.1 pl]),(10002,.a (.agg [.i 0,.s [],.i 0,.tip 4 []])),(10012,.a (.agg [.i a.1,.s a.2.1,.i a.2.2.1,slc 4 a.2.2.2.2.2.2 a.2.2.2.1]))])
    (fun a=>i<=a.2.2.2.2.2.1/\a.2.2.2.2.2.1<=l.length/\(a.2.2.2.2.1=true->i<a.2.2.2.2.2.1/\IsTy (8*(a.2.2.2.2.2.1-i)) [.i a.1,.str a.2.1,.i a.2.2.1,.sl 4 a.2.2.2.1])) (fun a=>2*(l.length-a.2.2.2.2.2.1)) (a₀:=(k,s,m,args,ok,j,false)) Zs ⟨a1,a2,a3⟩ ?_
   rintro ⟨k,s,m,args,ok,j,tb⟩ ⟨a1,a2,a3⟩;dsimp only at a1 a2 a3;cases ok
   ·simp(disch:=omega);exact fail _ _ _ _ _ a1 a2
   ·obtain ⟨a4,a5⟩:=a3 rfl;simp(disch:=omega);refine ZaG H hL a2 (fun j2 b1 b2=>?_) ?_
    ·simp(disch:=omega);refine Za8 H hL b2 (fun j3 s2 c1 c2 hs=>?_) ?_
     ·simp(disch:=omega);exact ⟨(8,s2,0,[[.i k,.str s,.i m,.sl 4 args]],true,j3,true),by simp,⟨dO,c2,fun _=>⟨dO,(IsTy.mk hs (IsTys.cons a5 IsTys.nil) Zs).le dO⟩⟩,dO⟩
     ·simp(disch:=omega);exact ⟨(8,[],0,[[.i k,.str s,.i m,.sl 4 args]],false,j2,true),by simp,⟨dO,b2,by simp⟩,dO⟩
    ·simp(disch:=omega);exact good _ _ _ _ _ a2 a4 a5
end Go.Am.Fe
end
section
namespace Go.Am.Fe
variable {S:SF} {Q:QF}
attribute [local simp] ZbO if_pos if_neg decide_eq_true decide_eq_false Yi Yj
variable {l:List Tok} {en pl:Int} {i:Nat}
def Zqx (H:Has S): ∀n,OkTy S n
 | 0=>fun l en pl i Q _ hi hn=>by omega
 | n+1=>Zr5 H (Zqx H n)
def Zb1 (H:Has S) (hL:Rl l) (hi:i<=l.length) (hQ: ∀(k:Int) (s:LN) (m:Int) (args:LP) (ok:Bool) (j:Nat),i<=j->j<=l.length->(ok=true->i<j/\IsTy (8*(j-i)) [.i k,.str s,.i m,.sl 4 args])->
  Q [aT k s m args,pb ok] [rd l en j pl]):Gives S ZaJ [me] [rd l en i pl] Q:=
 Zqx H (l.length+1) l en pl i Q hL hi Zo hQ
def Zsk (H:Has S) (hL:Rl l) (hi:i<=l.length)
 (hQ: ∀(ts:LP) (ok:Bool) (j:Nat),i<=j->j<=l.length->(ok=true->i<j/\IsTys (8*(j-i)) ts)->Q [.one (.tip 4 ts),pb ok] [rd l en j pl]):
 Gives S Zbw [me] [rd l en i pl] Q:=Zm5 H (Zqx H (l.length+1)) hL hi Zo hQ
def ZtT (H:Has S) (hL:Rl l) (hi:i<=l.length)
  (hQ: ∀(k:Int) (s:LN) (m:Int) (args:LP) (ok:Bool) (j:Nat),i<=j->j<=l.length->(ok=true->i<j/\IsTy (8*(j-i)) [.i k,.str s,.i m,.sl 4 args])->
  Q [aT k s m args,pb ok] [rd l en j pl]):Gives S Zcd [me] [rd l en i pl] Q:=
 Zsb H (Zqx H (l.length+1)) hL hi Zo hQ
def IsTy.zero:IsTy 1 [.i 0,.str [],.i 0,.sl 4 []]:=IsTy.mk Str.nil IsTys.nil Zd
def IsTy.unit:IsTy 1 [.i 4,.str [],.i 0,.sl 4 []]:=IsTy.mk Str.nil IsTys.nil Zd
def IsNd.leaf {op n a:Int} {s:LN} (hs:Str s) (h1:op≠15) (h2:op≠12) (h3:(op=42∨op=50)->In64 n:=by first|(intro h;exact absurd h Zd)|(intro h;exact absurd h (by dsimp only;decide))|(intro h;exact absurd h Za)|(intro _;assumption)|(intro _;exact In64.wrap _)|assumption):IsNd 2 [.i op,.str s,.i n,.i 0,.str [],.i 0,.sl 4 [],.sl 4 [],.sl 10 [],.i a]:=
 (IsNd.mk hs IsTy.zero IsTys.nil IsNds.nil (fun h=>absurd h h1) (fun h=>absurd h h2) h3).le Zd
def IsNd.over {op n a:Int} {s:LN} {m:Nat} {ls:LP} (hs:Str s) (hl:IsNds m ls) (h1:op≠15) (h2:op≠12) (h3:(op=42∨op=50)->In64 n:=by first|(intro h;exact absurd h Zd)|(intro h;exact absurd h (by dsimp only;decide))|(intro h;exact absurd h Za)|(intro _;assumption)|(intro _;exact In64.wrap _)|assumption):IsNd (m+2) [.i op,.str s,.i n,.i 0,.str [],.i 0,.sl 4 [],.sl 4 [],.sl 10 ls,.i a]:=
 (IsNd.mk hs IsTy.zero IsTys.nil hl (fun h=>absurd h h1) (fun h=>absurd h h2) h3).le Zo
def IsNd.typed {op n a k m:Int} {s s2:LN} {m1 m2:Nat} {args ls:LP} (hs:Str s) (ht:IsTy m1 [.i k,.str s2,.i m,.sl 4 args]) (hl:IsNds m2 ls) (h1:op≠15) (h2:op≠12) (h3:(op=42∨op=50)->In64 n:=by first|(intro h;exact absurd h Zd)|(intro h;exact absurd h (by dsimp only;decide))|(intro h;exact absurd h Za)|(intro _;assumption)|(intro _;exact In64.wrap _)|assumption):
  IsNd (m1+m2+1) [.i op,.str s,.i n,.i k,.str s2,.i m,.sl 4 args,.sl 4 [],.sl 10 ls,.i a]:=
 (IsNd.mk hs ht IsTys.nil hl (fun h=>absurd h h1) (fun h=>absurd h h2) h3).le Zo
def IsNd.req1 {a k m:Int} {s s2:LN} {m1:Nat} {args:LP} (hs:Str s) (ht:IsTy m1 [.i k,.str s2,.i m,.sl 4 args]):
  IsNd (m1+1) [.i 12,.str s,.i 1,.i k,.str s2,.i m,.sl 4 args,.sl 4 [],.sl 10 [],.i a]:=
 (IsNd.mk hs ht IsTys.nil IsNds.nil (fun h=>absurd h Zd) (fun _ h=>absurd h Zd)).le Zo
def IsNd.req2 {a k m:Int} {s2:LN} {m1 m2:Nat} {args:LP} {r:List P} (ht:IsTy m1 [.i k,.str s2,.i m,.sl 4 args]) (hr:IsTy m2 r):
  IsNd (m1+m2+1) [.i 12,.str [],.i 2,.i k,.str s2,.i m,.sl 4 args,.sl 4 [r],.sl 10 [],.i a]:=
 (IsNd.mk Str.nil ht (IsTys.cons hr IsTys.nil) IsNds.nil (fun h=>absurd h Zd) (fun _ _ h=>by simp at h)).le Zo
def ZoE (H:Has S) (hL:Rl l) (hi:i<=l.length) (hQ: ∀(ls:LP) (ok:Bool) (j:Nat),i<=j->j<=l.length->(ok=true->IsNds (8*(j-i)) ls)->Q [.one (.l 10 ls),pb ok] [rd l en j pl]):
  Gives S Zb8 [me] [rd l en i pl] Q:=by
 have hlen:=hL.1;refine .code H.Zmd rfl ?_;simp(disch:=omega)[Zd9];refine ZaG H hL hi (fun i2 hi1 hi2=>?_) ?_
 ·simp(disch:=omega);refine Lp.rule (fun (a:LP×Bool×Nat)=>[(0,.a me),(4,.a (.one (.tip 10 a.1))),(5,.a (pb a.2.1)),(9999,.objs [rd l en a.2.2 pl])])
   (fun a=>i2<=a.2.2/\a.2.2<=l.length/\IsNds (8*(a.2.2-i)) a.1) (fun a=>2*(l.length-a.2.2)+cond a.2.1 1 0) (a₀:=([],true,i2)) Zs ⟨Yc _,hi2,IsNds.nil.le Zo⟩ ?_
  rintro ⟨ls,b,j⟩ ⟨k1,k2,k3⟩;dsimp only at k1 k2 k3;have k5:=k3.len;cases b
  ·simp(disch:=omega);exact hQ ls true j Zo k2 fun _=>k3
  ·simp(disch:=omega);refine ZaD H hL k2 fun a=>?_;simp(disch:=omega);refine Za8 H hL k2 (fun j2 s b1 b2 hs=>?_) ?_
   ·simp(disch:=omega);have k6:IsNds (8*(j2-i)) (ls++[[.i 9,.str s,.i 0,.i 0,.str [],.i 0,.sl 4 [],.sl 4 [],.sl 10 [],.i a]]):=(k3.snoc (IsNd.leaf hs Zd Zd)).le Zo;refine ZaG H hL b2 (fun j3 c1 c2=>?_) ?_
    ·simp(disch:=omega);exact ⟨(_,true,j3),by simp,⟨dO,c2,k6.le dO⟩,dC⟩
    ·simp(disch:=omega);exact ⟨(_,false,j2),by simp,⟨dO,b2,k6⟩,dC⟩
   ·simp(disch:=omega);exact hQ ls false j Zo k2 Zs
 ·simp(disch:=omega);exact hQ [] true i (Yc _) hi fun _=>IsNds.nil.le Zo
def Zh0 (H:Has S) (hL:Rl l) (hi:i<=l.length) {m:Nat} {ls:LP} (hls:IsNds m ls) (hm:m<=1000000) (hQ: ∀(ls:LP) (ok:Bool) (j:Nat),i<=j->j<=l.length->(ok=true->IsNds (m+8*(j-i)) ls)->Q [.one (.tip 10 ls),pb ok] [rd l en j pl]):
  Gives S Zbn [me,.one (.tip 10 ls)] [rd l en i pl] Q:=by
 have hlen:=hL.1;have fail: ∀(ls:LP) (j:Nat),i<=j->j<=l.length->Q [.one (.tip 10 ls),pb false] [rd l en j pl]:=fun ls j h1 h2=>hQ ls false j h1 h2 Zs;have good: ∀(ls:LP) (j:Nat),i<=j->j<=l.length->IsNds (m+8*(j-i)) ls->Q [.one (.tip 10 ls),pb true] [rd l en j pl]:=fun ls j h1 h2 h3=>hQ ls true j h1 h2 fun _=>h3;refine .code H.Zj8 rfl ?_;simp(disch:=omega)[Zdn];refine ZaG H hL hi (fun i2 hi1 hi2=>?_) ?_
 ·simp(disch:=omega);refine Lp.rule (fun (a:LP×Bool×Nat)=>[(0,.a me),(1,.a (.one (.tip 10 a.1))),(6,.a (pb a.2.1)),(9999,.objs [rd l en a.2.2 pl])])
   (fun a=>i2<=a.2.2/\a.2.2<=l.length/\IsNds (m+8*(a.2.2-i)) a.1) (fun a=>2*(l.length-a.2.2)+cond a.2.1 1 0) (a₀:=(ls,true,i2)) Zs ⟨Yc _,by omega,hls.le Zo⟩ ?_
  rintro ⟨ls,b,j⟩ ⟨k1,k2,k3⟩;dsimp only at k1 k2 k3;have k5:=k3.len;cases b<;>simp(disch:=omega)
  all_goals
   repeat' (first
        | exact fail _ _ Zo Zo
        | (refine good _ _ Zo Zo ?_;exact IsNds.le Za Zo)
        | (refine ⟨(_,true,j),by simp<;>rfl,⟨dO,dO,?_⟩,dC⟩;dsimp only;first|exact IsNds.le (IsNds.snoc k3 (IsNd.over (by first|assumption|exact Str.nil) Za Zd Zd)) (by omega)|exact IsNds.le (IsNds.snoc k3 (IsNd.typed (by first|assumption|exact Str.nil) Za Za Zd Zd)) Zo)
        | (refine ⟨(_,false,j),by simp<;>rfl,⟨dO,dO,?_⟩,dC⟩;dsimp only;first|exact IsNds.le (IsNds.snoc k3 (IsNd.over (by first|assumption|exact Str.nil) Za Zd Zd)) (by omega)|exact IsNds.le (IsNds.snoc k3 (IsNd.typed (by first|assumption|exact Str.nil) Za Za Zd Zd)) Zo)
        | (refine ZoE H hL Zo (fun ls ok j h1 h2 h3=>?_);cases ok;rotate_left;have h4:=h3 rfl;all_goals simp(disch:=omega))
        | (refine ZaG H hL Zo (fun j h1 h2=>?_) ?_<;>simp(disch:=omega))
        | (refine ZbT H hL Zo (fun j h1 h2=>?_) ?_<;>simp(disch:=omega))
        | (refine Za8 H hL Zo (fun j s h1 h2 hs=>?_) ?_<;>simp(disch:=omega))
        | (refine ZaD H hL Zo (fun a=>?_);simp(disch:=omega))
        | (refine Zba H hL Zo (fun b hb=>?_);cases b<;>simp(disch:=omega))
        | (refine Zb1 H hL Zo (fun k s m args ok j h1 h2 h3=>?_);cases ok;rotate_left;obtain ⟨h4,h5⟩:=h3 rfl;all_goals simp(disch:=omega)))
 ·simp(disch:=omega);exact good _ _ (Yc _) hi (hls.le Zo)
def ZnD (H:Has S) (hL:Rl l) (hi:i<=l.length) {m:Nat} {ls:LP} (hls:IsNds m ls) (hm:m<=1000000) (hQ: ∀(ls:LP) (ok:Bool) (j:Nat),i<=j->j<=l.length->(ok=true->IsNds (m+8*(j-i)) ls)->Q [.one (.tip 10 ls),pb ok] [rd l en j pl]):
  Gives S Zcu [me,.one (.tip 10 ls)] [rd l en i pl] Q:=by
 have hlen:=hL.1;have fail: ∀(ls:LP) (j:Nat),i<=j->j<=l.length->Q [.one (.tip 10 ls),pb false] [rd l en j pl]:=fun ls j h1 h2=>hQ ls false j h1 h2 Zs;have good: ∀(ls:LP) (j:Nat),i<=j->j<=l.length->IsNds (m+8*(j-i)) ls->Q [.one (.tip 10 ls),pb true] [rd l en j pl]:=fun ls j h1 h2 h3=>hQ ls true j h1 h2 fun _=>h3;refine .code H.ZmN rfl ?_;simp(disch:=omega)[ZeM];refine ZbT H hL hi (fun i2 hi1 hi2=>?_) ?_
 ·simp(disch:=omega);refine Lp.rule (fun (a:LP×Bool×Nat)=>[(0,.a me),(1,.a (.one (.tip 10 a.1))),(6,.a (pb a.2.1)),(9999,.objs [rd l en a.2.2 pl])])
   (fun a=>i2<=a.2.2/\a.2.2<=l.length/\IsNds (m+8*(a.2.2-i)) a.1) (fun a=>2*(l.length-a.2.2)+cond a.2.1 1 0) (a₀:=(ls,true,i2)) Zs ⟨Yc _,by omega,hls.le Zo⟩ ?_
  rintro ⟨ls,b,j⟩ ⟨k1,k2,k3⟩;dsimp only at k1 k2 k3;have k5:=k3.len;cases b<;>simp(disch:=omega)
  all_goals
   repeat' (first
        | exact fail _ _ Zo Zo
        | (refine good _ _ Zo Zo ?_;exact IsNds.le Za Zo)
        | (refine ⟨(_,true,j),by simp<;>rfl,⟨dO,dO,?_⟩,dC⟩;dsimp only;first|exact IsNds.le (IsNds.snoc k3 (IsNd.req1 Za Za)) (by omega)|exact IsNds.le (IsNds.snoc k3 (IsNd.req2 Za Za)) Zo)
        | (refine ⟨(_,false,j),by simp<;>rfl,⟨dO,dO,?_⟩,dC⟩;dsimp only;first|exact IsNds.le (IsNds.snoc k3 (IsNd.req1 Za Za)) (by omega)|exact IsNds.le (IsNds.snoc k3 (IsNd.req2 Za Za)) Zo)
        | (refine ZaG H hL Zo (fun j h1 h2=>?_) ?_<;>simp(disch:=omega))
        | (refine ZbT H hL Zo (fun j h1 h2=>?_) ?_<;>simp(disch:=omega))
        | (refine Za8 H hL Zo (fun j s h1 h2 hs=>?_) ?_<;>simp(disch:=omega))
        | (refine ZaD H hL Zo (fun a=>?_);simp(disch:=omega))
        | (refine Zba H hL Zo (fun b hb=>?_);cases b<;>simp(disch:=omega))
        | (refine Zb1 H hL Zo (fun k s m args ok j h1 h2 h3=>?_);cases ok;rotate_left;obtain ⟨h4,h5⟩:=h3 rfl;all_goals simp(disch:=omega)))
 ·simp(disch:=omega);exact good _ _ (Yc _) hi (hls.le Zo)
def Zn1 (H:Has S) (hL:Rl l) (hi:i<=l.length) {m:Nat} {ls:LP} (hls:IsNds m ls) (hm:m<=1000000) (hQ: ∀(ls:LP) (ok:Bool) (j:Nat),i<=j->j<=l.length->(ok=true->IsNds (m+8*(j-i)) ls)->Q [.one (.tip 10 ls),pb ok] [rd l en j pl]):
  Gives S Zb9 [me,.one (.tip 10 ls)] [rd l en i pl] Q:=by
 have hlen:=hL.1;have fail: ∀(ls:LP) (j:Nat),i<=j->j<=l.length->Q [.one (.tip 10 ls),pb false] [rd l en j pl]:=fun ls j h1 h2=>hQ ls false j h1 h2 Zs;have good: ∀(ls:LP) (j:Nat),i<=j->j<=l.length->IsNds (m+8*(j-i)) ls->Q [.one (.tip 10 ls),pb true] [rd l en j pl]:=fun ls j h1 h2 h3=>hQ ls true j h1 h2 fun _=>h3;refine .code H.Zl3 rfl ?_;simp(disch:=omega)[Zed];refine ZaG H hL hi (fun i2 hi1 hi2=>?_) ?_
 ·simp(disch:=omega);exact good _ _ Zo hi2 (hls.le Zo)
 ·simp(disch:=omega);refine Lp.rule (fun (a:LP×Bool×Nat)=>[(0,.a me),(1,.a (.one (.tip 10 a.1))),(6,.a (pb a.2.1)),(9999,.objs [rd l en a.2.2 pl])])
   (fun a=>i<=a.2.2/\a.2.2<=l.length/\IsNds (m+8*(a.2.2-i)) a.1) (fun a=>2*(l.length-a.2.2)+cond a.2.1 1 0) (a₀:=(ls,true,i)) Zs ⟨Yc _,by omega,hls.le Zo⟩ ?_
  rintro ⟨ls,b,j⟩ ⟨k1,k2,k3⟩;dsimp only at k1 k2 k3;have k5:=k3.len;cases b<;>simp(disch:=omega)
  all_goals
   repeat' (first
        | exact fail _ _ Zo Zo
        | (refine good _ _ Zo Zo ?_;exact IsNds.le Za Zo)
        | (refine ⟨(_,true,j),by simp<;>rfl,⟨dO,dO,?_⟩,dC⟩;dsimp only;first|exact IsNds.le (IsNds.snoc k3 (IsNd.over (by first|assumption|exact Str.nil) IsNds.nil Zd Zd)) (by omega)|exact IsNds.le (IsNds.snoc k3 (IsNd.typed (by first|assumption|exact Str.nil) Za IsNds.nil Zd Zd)) Zo)
        | (refine ⟨(_,false,j),by simp<;>rfl,⟨dO,dO,?_⟩,dC⟩;dsimp only;first|exact IsNds.le (IsNds.snoc k3 (IsNd.over (by first|assumption|exact Str.nil) IsNds.nil Zd Zd)) (by omega)|exact IsNds.le (IsNds.snoc k3 (IsNd.typed (by first|assumption|exact Str.nil) Za IsNds.nil Zd Zd)) Zo)
        | (refine ZaG H hL Zo (fun j h1 h2=>?_) ?_<;>simp(disch:=omega))
        | (refine ZbT H hL Zo (fun j h1 h2=>?_) ?_<;>simp(disch:=omega))
        | (refine Za8 H hL Zo (fun j s h1 h2 hs=>?_) ?_<;>simp(disch:=omega))
        | (refine ZaD H hL Zo (fun a=>?_);simp(disch:=omega))
        | (refine Zba H hL Zo (fun b hb=>?_);cases b<;>simp(disch:=omega))
        | (refine Zb1 H hL Zo (fun k s m args ok j h1 h2 h3=>?_);cases ok;rotate_left;obtain ⟨h4,h5⟩:=h3 rfl;all_goals simp(disch:=omega)))
def NdPost (l:List Tok) (en:Int) (i:Nat) (Q:QF):Prop:= ∀(op n k m a pl':Int) (s s2:LN) (args ts ls:LP) (ok:Bool) (j:Nat),i<=j->j<=l.length->
 (ok=true->i<j/\IsNd (8*(j-i)-4) [.i op,.str s,.i n,.i k,.str s2,.i m,.sl 4 args,.sl 4 ts,.sl 10 ls,.i a])->
 Q [aN op s n k s2 m args ts ls a,pb ok] [rd l en j pl']
def NdPost.fail (h:NdPost l en i Q) (op n k m a pl':Int) (s s2:LN) (args ts ls:LP) (j:Nat) (h1:i<=j) (h2:j<=l.length):
 Q [aN op s n k s2 m args ts ls a,pb false] [rd l en j pl']:=h _ _ _ _ _ _ _ _ _ _ _ _ _ h1 h2 Zs
def NdPost.good (h:NdPost l en i Q) (op n k m a pl':Int) (s s2:LN) (args ts ls:LP) (j:Nat) (h2:j<=l.length) (h1:i<j) (h3:IsNd (8*(j-i)-4) [.i op,.str s,.i n,.i k,.str s2,.i m,.sl 4 args,.sl 4 ts,.sl 10 ls,.i a]):
 Q [aN op s n k s2 m args ts ls a,pb true] [rd l en j pl']:=h _ _ _ _ _ _ _ _ _ _ _ _ _ (Nat.le_of_lt h1) h2 fun _=>⟨h1,h3⟩
def ZaY (H:Has S) {s:LN} (hs:s.length<=8000) (hQ: ∀n:Int,In64 n->Q [pi n] []):Gives S Zet [ps s] [] Q:=by
 refine .code H.Zuw rfl ?_;simp(disch:=omega)[Zjc];refine Lp.rule (fun (a:Int×Nat)=>[(0,.a (ps s)),(3,.a (pi a.1)),(4,.a (pi a.2)),o9]) (fun a=>In64 a.1/\a.2<=s.length) (fun a=>s.length-a.2) (a₀:=(0,0)) Zs ⟨In64.zero,by simp⟩ ?_;rintro ⟨n,j⟩ ⟨k0,k1⟩;dsimp only at k0 k1;by_cases hlt:j<s.length
 ·simp(disch:=omega);exact ⟨(_,j+1),by simp<;>rfl,⟨In64.wrap _,dO⟩,dO⟩
 ·simp(disch:=omega);exact hQ _ k0
def Zr0 (H:Has S) (hL:Rl l) (hi:i<=l.length) {k:Int} (h: ∀(s:LN) (ok:Bool) (j:Nat),i<=j->j<=l.length->Str s->(ok=true->i<j)->Q [ps s,pb ok] [rd l en j pl]):Gives S Zak [me,pi k] [rd l en i pl] Q:=
 Za8 H hL hi (fun j s h1 h2 hs=>h s true j Zo h2 hs Zo) (h [] false i (Yc _) hi Str.nil Zs)
def Zv6 (H:Has S) (hL:Rl l) (hi:i<=l.length) (hQ:NdPost l en i Q):Gives S ZdN [me] [rd l en i pl] Q:=by
 have hlen:=hL.1;refine .code H.ZnV rfl ?_;simp(disch:=omega)[Zfz];refine ZaD H hL hi fun a=>?_;simp(disch:=omega);refine Zr0 H hL hi fun s ok j h1 h2 hs h3=>?_;simp(disch:=omega);refine Lp.rule (fun (b:Int×LN×LP×Bool×Nat)=>[(0,.a me),fR 2,(4,.a (pi a)),(6,.a (pb b.2.2.2.1)),fR 7,(9999,.objs [rd l en b.2.2.2.2 pl]),(10002,.a (aN0)),
   (10007,.a (.agg [.i b.1,.s b.2.1,.i 0,.i 0,.s [],.i 0,.tip 4 [],.tip 4 [],.tip 10 b.2.2.1,.i a]))])
  (fun b=>i<=b.2.2.2.2/\b.2.2.2.2<=l.length/\(b.2.2.2.1=true->i<b.2.2.2.2/\IsNd (8*(b.2.2.2.2-i)-4) [.i b.1,.str b.2.1,.i 0,.i 0,.str [],.i 0,.sl 4 [],.sl 4 [],.sl 10 b.2.2.1,.i a])) (fun b=>2*(l.length-b.2.2.2.2)) (a₀:=(54,s,[],ok,j)) Zs
  ⟨h1,h2,fun h=>⟨h3 h,(IsNd.leaf (op:=54) hs Zd Zd).le (by have:=h3 h;dsimp only;omega)⟩⟩ ?_
 rintro ⟨op,s,ls,ok,j⟩ ⟨k1,k2,k3⟩;dsimp only at k1 k2 k3;cases ok
 ·simp(disch:=omega);exact hQ.fail _ _ _ _ _ _ _ _ _ _ _ _ k1 k2
 ·obtain ⟨k4,k5⟩:=k3 rfl;simp(disch:=omega);refine ZaG H hL k2 (fun j2 b1 b2=>?_) ?_
  ·simp(disch:=omega);refine Zr0 H hL b2 fun s2 ok j3 c1 c2 hs2 c3=>?_;simp(disch:=omega);exact ⟨(55,s2,_,ok,j3),by simp<;>rfl,⟨dO,c2,fun h=>⟨dO,(IsNd.over (op:=55) hs2 (IsNds.cons k5 IsNds.nil) Zd Zd).le dO⟩⟩,dO⟩
  ·simp(disch:=omega);exact hQ.good _ _ _ _ _ _ _ _ _ _ _ _ k2 k4 k5
def lvs:LP:=[[.sl 1 [[.str [124,124]]]],[.sl 1 [[.str [38,38]]]],[.sl 1 [[.str [61,61]],[.str [33,61]],[.str [60]],[.str [60,61]],[.str [62]],[.str [62,61]]]],[.sl 1 [[.str [43]],[.str [45]]]],[.sl 1 [[.str [42]],[.str [47]],[.str [37]]]]]
def Zn3 (H:Has S):Gives S Zg9 [] [] Q=Q [.one (.l 1 lvs)] []:=Eval.gives (.of (by
 refine .code H.Zt8 rfl ?_;simp(disch:=omega)[ZjD,lvs]))
def IsNd.form {m:Nat} {r:List P} (h:IsNd m r): ∃(op n k m a:Int) (s s2:LN) (args ts ls:LP),r=[.i op,.str s,.i n,.i k,.str s2,.i m,.sl 4 args,.sl 4 ts,.sl 10 ls,.i a]:=by
 obtain ⟨⟨op,s,n,⟨k,s2,m,args⟩,ts,ls,a⟩,rfl,_⟩:=h;exact ⟨_,_,_,_,_,_,_,_,_,_,rfl⟩
def IsNd.inv {mm:Nat} {op n k m a:Int} {s s2:LN} {args ts ls:LP} (h:IsNd mm [.i op,.str s,.i n,.i k,.str s2,.i m,.sl 4 args,.sl 4 ts,.sl 10 ls,.i a]):
  ∃m1 m2 m3,m1+m2+m3+1<=mm/\Str s/\IsTy m1 [.i k,.str s2,.i m,.sl 4 args]/\IsTys m2 ts/\IsNds m3 ls/\(op=15->ls≠[])/\(op=12->n=2->ts≠[])/\((op=42∨op=50)->In64 n):=by
 obtain ⟨⟨op',s',n',⟨k',s2',m',args'⟩,ts',ls',a'⟩,e,⟨g1,g2,g3,g4,g5,g6,g7⟩,h3⟩:=h;simp only [Nd.enc,Yf,P.int.injEq,P.str.injEq,P.sl.injEq,true_and,and_true] at e;obtain ⟨rfl,rfl,rfl,rfl,rfl,rfl,rfl,rfl,rfl,rfl⟩:=e;refine ⟨_,_,_,?_,g1,⟨_,rfl,g2,Yc _⟩,⟨_,rfl,g3,Yc _⟩,⟨_,rfl,g4,Yc _⟩,fun h e=>g5 h ?_,fun h h' e=>g6 h h' ?_,g7⟩
 ·have:1+Ty.sz (.mk k' s2' m' args')+Ty.szs ts'+Nd.szs ls'<=mm:=h3;omega
 ·cases ls' with
  | nil=>rfl
  | cons x y=>simp [Nd.encs] at e
 ·cases ts' with
  | nil=>rfl
  | cons x y=>simp [Ty.encs] at e
def IsNds.uncons {m:Nat} {r:List P} {rs:LP} (h:IsNds m (r::rs)): ∃m1 m2,m1+m2<=m/\IsNd m1 r/\IsNds m2 rs:=by
 obtain ⟨l,e,g,hs⟩:=h;cases l with
 | nil=>simp [Nd.encs] at e
 | cons x l=>
   simp only [Nd.encs,Yf] at e;obtain ⟨rfl,rfl⟩:=e;exact ⟨_,_,hs,⟨_,rfl,g.1,Yc _⟩,⟨_,rfl,g.2,Yc _⟩⟩
def ZtM (H:Has S) {mm:Nat} {op n k m a:Int} {s s2:LN} {args ts ls:LP} (hn:IsNd mm [.i op,.str s,.i n,.i k,.str s2,.i m,.sl 4 args,.sl 4 ts,.sl 10 ls,.i a])
  (hQ: ∀b:Bool,Q [pb b] []):Gives S Zki [aN op s n k s2 m args ts ls a] [] Q:=by
 refine .code H.Zzk rfl ?_;simp(disch:=omega)[Zny];refine Lp.rule (fun (b:List P×Nat)=>[fR 1,o9,(10001,.a (.agg (b.1.map .p)))]) (fun b=>IsNd b.2 b.1) (fun b=>b.2) (a₀:=(_,mm)) (by simp<;>rfl) hn ?_;rintro ⟨r,mm⟩ h;dsimp only at h;obtain ⟨op,n,k,m,a,s,s2,args,ts,ls,rfl⟩:=h.form;obtain ⟨m1,m2,m3,g1,g2,g3,g4,g5,g6,g7⟩:=h.inv;by_cases ho:op=55
 · subst ho;by_cases hl:ls.length=1
   ·obtain ⟨x,rfl⟩:=List.length_eq_one_iff.mp hl;obtain ⟨n1,n2,b1,b2,b3⟩:=g5.uncons;obtain ⟨op,n,k,m,a,s,s2,args,ts,ls,rfl⟩:=b2.form;simp(disch:=omega);exact ⟨(_,n1),by simp<;>rfl,b2,dO⟩
   ·simp(disch:=omega)[hl];exact hQ _
 · simp(disch:=omega);exact hQ _
end Go.Am.Fe
end
section
namespace Go.Am.Fe
variable {S:SF} {Q:QF}
attribute [local simp] ZbO if_pos if_neg decide_eq_true decide_eq_false Yi Yj
variable {l:List Tok} {en pl:Int} {i:Nat}
def RdN {α:Type} (st:α->Env) (Pr:α->Prop) (μ:α->Nat) (a:α) (e:Env):Prop:= ∃a',e=st a'/\Pr a'/\μ a'<μ a
def ZgF {α:Type} {live:LN} {st:α->Env} {Pr:α->Prop} {μ:α->Nat} {a:α} {e:Env}:Rd live st Pr μ a e=RdN st Pr μ a (e.norm live):=rfl
def RdN.mk {α:Type} {st:α->Env} {Pr:α->Prop} {μ:α->Nat} {a:α} {e:Env} (a':α) (h:e=st a') (hp:Pr a') (hm:μ a'<μ a):RdN st Pr μ a e:=⟨a',h,hp,hm⟩
attribute [local simp] ZgF
structure NS where
 op:Int
 n:Int
 k:Int
 m:Int
 a:Int
 s:LN
 s2:LN
 c1:C
 c2:C
 c3:C
 args:LP
 ts:LP
 ls:LP
@[reducible] def NS.c (x:NS):LC:=[.i x.op,.s x.s,.i x.n,.i x.k,.s x.s2,.i x.m,x.c1,x.c2,x.c3,.i x.a]
@[reducible] def NS.r (x:NS):List P:=[.i x.op,.str x.s,.i x.n,.i x.k,.str x.s2,.i x.m,.sl 4 x.args,.sl 4 x.ts,.sl 10 x.ls,.i x.a]
structure NS.ok (x:NS):Prop where
 c1:x.c1.plain= .l 4 x.args/\ ∀κ,C.ment κ x.c1=false
 c2:x.c2.plain= .l 4 x.ts/\ ∀κ,C.ment κ x.c2=false
 c3:x.c3.plain= .l 10 x.ls/\ ∀κ,C.ment κ x.c3=false
def IsNds.snoc2 {m m1 m2:Nat} {r1 r2:List P} {rs:LP} (h:IsNds m rs) (h1:IsNd m1 r1) (h2:IsNd m2 r2):IsNds (m+m1+m2) (rs++[r1,r2]):=by
 have:=(h.snoc h1).snoc h2;rwa [Yu] at this
def Str.len {s:LN} (h:Str s):s.length<=8000:=h.1
def OkNdF (S:SF) (f n:Nat):Prop:= ∀(l:List Tok) (en pl:Int) (i:Nat) (Q:QF),Rl l->i<=l.length->l.length<n+i->NdPost l en i Q->Gives S f [me] [rd l en i pl] Q
def OkSts (S:SF) (n:Nat):Prop:= ∀(l:List Tok) (en pl:Int) (i:Nat) (Q:QF),Rl l->i<=l.length->l.length<n+i->
 (∀(ls:LP) (ok:Bool) (j:Nat) (pl':Int),i<=j->j<=l.length->(ok=true->i<j/\IsNds (8*(j-i-1)) ls)->Q [.one (.l 10 ls),pb ok] [rd l en j pl'])->Gives S Zbq [me] [rd l en i pl] Q
def OkNdF.mono {f n n':Nat} (h:OkNdF S f n) (hn:n'<=n):OkNdF S f n':=fun l en pl i Q hL hi h1 hQ=>h l en pl i Q hL hi Zo hQ
def Zps (H:Has S) {n:Nat} (hE:OkNdF S Zas n) (hL:Rl l) (hi:i<=l.length) (hn:l.length<n+1+i) {m:Nat} {ls:LP} (hls:IsNds m ls) (hm:m<=1000000)
  (hQ: ∀(ls:LP) (ok:Bool) (j:Nat) (pl':Int),i<=j->j<=l.length->(ok=true->i<j/\IsNds (m+8*(j-i-1)) ls)->Q [.one (.tip 10 ls),pb ok] [rd l en j pl']):Gives S Zbu [me,.one (.tip 10 ls)] [rd l en i pl] Q:=by
 have hlen:=hL.1;have fail: ∀(ls:LP) (j:Nat) (pl':Int),i<=j->j<=l.length->Q [.one (.tip 10 ls),pb false] [rd l en j pl']:=fun ls j pl' h1 h2=>hQ ls false j pl' h1 h2 Zs;have good: ∀(ls:LP) (j:Nat) (pl':Int),i<j->j<=l.length->IsNds (m+8*(j-i-1)) ls->Q [.one (.tip 10 ls),pb true] [rd l en j pl']:=fun ls j pl' h1 h2 h3=>hQ ls true j pl' Zo h2 fun _=>⟨h1,h3⟩
 refine .code H.Zog rfl ?_;simp(disch:=omega)[Zft];refine ZaG H hL hi (fun i2 hi1 hi2=>?_) ?_
 ·simp(disch:=omega);refine ZaG H hL hi2 (fun i3 hi3 hi4=>?_) ?_
  ·simp(disch:=omega);exact good _ _ _ Zo hi4 (hls.le Zo)
  ·simp(disch:=omega);refine Lp.rule (fun (a:LP×Bool×Nat×Int)=>[(0,.a me),(1,.a (.one (.tip 10 a.1))),(6,.a (pb a.2.1)),(9999,.objs [rd l en a.2.2.1 a.2.2.2])])
    (fun a=>i2<=a.2.2.1/\a.2.2.1<=l.length/\IsNds (m+8*(a.2.2.1-i-1)) a.1) (fun a=>2*(l.length-a.2.2.1)+cond a.2.1 1 0) (a₀:=(ls,true,i2,pl)) Zs ⟨Yc _,by omega,hls.le Zo⟩ ?_
   rintro ⟨ls,b,j,pl⟩ ⟨k1,k2,k3⟩;dsimp only at k1 k2 k3;have k5:=k3.len;cases b<;>simp(disch:=omega)
   all_goals
    repeat' (first
          | exact fail _ _ _ Zo Zo
          | (refine good _ _ _ Zo Zo ?_;exact IsNds.le Za Zo)
          | exact RdN.mk (_,_,j,_) rfl ⟨dO,dO,IsNds.le (IsNds.snoc k3 Za) dO⟩ dC
          | exact RdN.mk (_,_,j,_) rfl ⟨dO,dO,IsNds.le (IsNds.snoc k3 (IsNd.over (by first|assumption|exact Str.nil) (IsNds.cons Za IsNds.nil) Zd Zd)) dO⟩ dC
          | exact RdN.mk (_,_,j,_) rfl ⟨dO,dO,IsNds.le (IsNds.snoc k3 (IsNd.typed (by first|assumption|exact Str.nil) Za (IsNds.cons Za IsNds.nil) Zd Zd)) dO⟩ dC
          | (refine hE l en _ _ _ hL Zo Zo (fun op n k m a pl' s s2 args ts ls ok j h1 h2 h3=>?_);cases ok;rotate_left;obtain ⟨h4,h5⟩:=h3 rfl;all_goals simp(disch:=omega))
          | (refine Zv6 H hL Zo (fun op n k m a pl' s s2 args ts ls ok j h1 h2 h3=>?_);cases ok;rotate_left;obtain ⟨h4,h5⟩:=h3 rfl;all_goals simp(disch:=omega))
          | (refine Zaf (fun hc=>?_) (fun hc=>?_)<;>simp(disch:=omega)[hc])
          | (refine ZaG H hL Zo (fun j h1 h2=>?_) ?_<;>simp(disch:=omega))
          | (refine ZbT H hL Zo (fun j h1 h2=>?_) ?_<;>simp(disch:=omega))
          | (refine Za8 H hL Zo (fun j s h1 h2 hs=>?_) ?_<;>simp(disch:=omega))
          | (refine ZaD H hL Zo (fun a=>?_);simp(disch:=omega))
          | (refine Zba H hL Zo (fun b hb=>?_);cases b;rotate_left;have hb2:=hb rfl;all_goals simp(disch:=omega))
          | (refine ZaR H hL Zo (fun b hb=>?_);cases b;rotate_left;have hb2:=hb rfl;all_goals simp(disch:=omega))
          | (refine ZaY H (by first|(exact Str.len Za)|decide) (fun z hz=>?_);simp(disch:=omega))
          | (refine Zb1 H hL Zo (fun k s m args ok j h1 h2 h3=>?_);cases ok;rotate_left;obtain ⟨h4,h5⟩:=h3 rfl;all_goals simp(disch:=omega)))
 ·simp(disch:=omega);exact fail _ _ _ (Yc _) hi
def Zrj (H:Has S) {n:Nat} (hS:OkSts S n) (hL:Rl l) (hi:i<=l.length) (hn:l.length<n+1+i) (hQ:NdPost l en i Q):Gives S ZcC [me] [rd l en i pl] Q:=by
 have hlen:=hL.1;refine .code H.ZlA rfl ?_;simp(disch:=omega)[Zdw]
 repeat' (first
    | exact hQ.fail _ _ _ _ _ _ _ _ _ _ _ _ Zo Zo
    | (refine hQ.good _ _ _ _ _ _ _ _ _ _ _ _ Zo Zo ?_;first|exact IsNd.le (IsNd.typed Str.nil (by first|exact IsTy.unit|assumption) (IsNds.snoc Za (IsNd.over Str.nil Za Zd Zd)) Zd Zd) Zo)
    | (refine Zn1 H hL Zo IsNds.nil Zo (fun ls ok j h1 h2 h3=>?_);cases ok;rotate_left;have h4:=h3 rfl;have h5:=h4.len;all_goals simp(disch:=omega))
    | (refine hS l en _ _ _ hL Zo Zo (fun ls ok j pl' h1 h2 h3=>?_);cases ok;rotate_left;obtain ⟨h4,h5⟩:=h3 rfl;all_goals simp(disch:=omega))
    | (refine Zaf (fun hc=>?_) (fun hc=>?_)<;>simp(disch:=omega)[hc])
    | (refine ZaG H hL Zo (fun j h1 h2=>?_) ?_<;>simp(disch:=omega))
    | (refine ZbT H hL Zo (fun j h1 h2=>?_) ?_<;>simp(disch:=omega))
    | (refine Za8 H hL Zo (fun j s h1 h2 hs=>?_) ?_<;>simp(disch:=omega))
    | (refine ZaD H hL Zo (fun a=>?_);simp(disch:=omega))
    | (refine Zba H hL Zo (fun b hb=>?_);cases b;rotate_left;have hb2:=hb rfl;all_goals simp(disch:=omega))
    | (refine ZaR H hL Zo (fun b hb=>?_);cases b;rotate_left;have hb2:=hb rfl;all_goals simp(disch:=omega))
    | (refine ZaY H (by first|(exact Str.len Za)|decide) (fun z hz=>?_);simp(disch:=omega))
    | (refine Zb1 H hL Zo (fun k s m args ok j h1 h2 h3=>?_);cases ok;rotate_left;obtain ⟨h4,h5⟩:=h3 rfl;all_goals simp(disch:=omega)))
def Zxa (H:Has S) {n:Nat} (hE:OkNdF S Zas n) (hL:Rl l) (hi:i<=l.length) (hn:l.length<n+1+i) (hQ:NdPost l en i Q):Gives S ZdL [me] [rd l en i pl] Q:=by
 have hlen:=hL.1;refine .code H.ZoB rfl ?_;simp(disch:=omega)[Zfo];refine ZaD H hL hi fun a=>?_;simp(disch:=omega);refine ZtT H hL hi fun k s m args ok j h1 h2 h3=>?_;simp(disch:=omega);refine Lp.rule (fun (b:Int×LN×Int×C×LP×Bool×Nat)=>[(0,.a me),fR 2,fR 4,fR 5,(6,.a (pb b.2.2.2.2.2.1)),(9999,.objs [rd l en b.2.2.2.2.2.2 pl]),(10002,.a (aN0)),
   (10004,.a (.agg [.i 0,.s [],.i 0,.i 0,.s [],.i 0,.tip 4 [],.tip 4 [],.tip 10 [],.i a])),(10005,.a (.agg [.i b.1,.s b.2.1,.i b.2.2.1,b.2.2.2.1]))])
  (fun b=>b.2.2.2.1.plain= .l 4 b.2.2.2.2.1/\i<=b.2.2.2.2.2.2/\b.2.2.2.2.2.2<=l.length/\(b.2.2.2.2.2.1=true->i<b.2.2.2.2.2.2/\IsTy (8*(b.2.2.2.2.2.2-i)) [.i b.1,.str b.2.1,.i b.2.2.1,.sl 4 b.2.2.2.2.1]))
  (fun b=>l.length-b.2.2.2.2.2.2) (a₀:=(k,s,m,.l 4 args,args,ok,j)) Zs ⟨rfl,h1,h2,h3⟩ ?_
 rintro ⟨k,s,m,c,args,ok,j⟩ ⟨k0,k1,k2,k3⟩;dsimp only at k0 k1 k2 k3;cases ok
 ·simp(disch:=omega);exact hQ.fail _ _ _ _ _ _ _ _ _ _ _ _ Zo Zo
 ·obtain ⟨k4,k5⟩:=k3 rfl;simp(disch:=omega)[k0]
  repeat' (first
      | exact hQ.fail _ _ _ _ _ _ _ _ _ _ _ _ Zo Zo
      | (refine hQ.good _ _ _ _ _ _ _ _ _ _ _ _ Zo Zo ?_;first|exact IsNd.le (IsNd.typed (by first|assumption|exact Str.nil) k5 (by first|exact IsNds.nil|assumption) Zd Zd) Zo)
      | exact RdN.mk (_,_,_,_,_,_,_) rfl ⟨rfl,dO,dO,fun _=>⟨dO,IsTy.le (IsTy.mk Za (IsTys.cons k5 IsTys.nil) Zs) dO⟩⟩ dO
      | (refine Zps H hE hL Zo Zo IsNds.nil Zo (fun ls ok j pl' h1 h2 h3=>?_);cases ok;rotate_left;obtain ⟨h4,h5⟩:=h3 rfl;all_goals simp(disch:=omega)[k0])
      | (refine Zaf (fun hc=>?_) (fun hc=>?_)<;>simp(disch:=omega)[hc,k0])
      | (refine ZaG H hL Zo (fun j h1 h2=>?_) ?_<;>simp(disch:=omega)[k0])
      | (refine ZbT H hL Zo (fun j h1 h2=>?_) ?_<;>simp(disch:=omega)[k0])
      | (refine Za8 H hL Zo (fun j s h1 h2 hs=>?_) ?_<;>simp(disch:=omega)[k0])
      | (refine ZaD H hL Zo (fun a=>?_);simp(disch:=omega)[k0])
      | (refine Zba H hL Zo (fun b hb=>?_);cases b;rotate_left;have hb2:=hb rfl;all_goals simp(disch:=omega)[k0])
      | (refine ZaR H hL Zo (fun b hb=>?_);cases b;rotate_left;have hb2:=hb rfl;all_goals simp(disch:=omega)[k0])
      | (refine ZaY H (by first|(exact Str.len Za)|decide) (fun z hz=>?_);simp(disch:=omega)[k0])
      | (refine Zb1 H hL Zo (fun k s m args ok j h1 h2 h3=>?_);cases ok;rotate_left;obtain ⟨h4,h5⟩:=h3 rfl;all_goals simp(disch:=omega)[k0]))
def Zlk (H:Has S) {n:Nat} (hE:OkNdF S Zas n) (hL:Rl l) (hi:i<=l.length) (hlt:i<l.length) (hn:l.length<n+1+i) (hQ:NdPost l en i Q):Gives S Zby [me] [rd l en i pl] Q:=by
 have hlen:=hL.1;refine .code H.Zhv rfl ?_;simp(disch:=omega)[Zcg];refine ZaD H hL hi fun a=>?_;simp(disch:=omega);refine Lp.rule (fun (b:LP×Nat×Int)=>[(0,.a me),fR 2,(3,.a (pb false)),fR 4,(9999,.objs [rd l en b.2.1 b.2.2]),(10002,.a (aN0)),
   (10004,.a (.agg [.i 53,.s [],.i 0,.i 0,.s [],.i 0,.tip 4 [],.tip 4 [],.tip 10 b.1,.i a]))])
  (fun b=>i<=b.2.1/\b.2.1<l.length/\IsNds (8*(b.2.1-i)) b.1) (fun b=>l.length-b.2.1) (a₀:=([],i,pl)) Zs ⟨Yc _,hlt,IsNds.nil.le Zo⟩ ?_
 rintro ⟨ls,j,pl⟩ ⟨k1,k2,k3⟩;dsimp only at k1 k2 k3;have k5:=k3.len;have ht:Str l[j].text:=hL.2 _ (Yl k2);have k6: ∀at_:Int,IsNds (8*(j-i)+2) (ls++[[.i 52,.str l[j].text,.i 0,.i 0,.str [],.i 0,.sl 4 [],.sl 4 [],.sl 10 [],.i at_]]):=fun at_=>k3.snoc (IsNd.leaf ht Zd Zd);simp(disch:=omega)[ZcF,Tok.enc];rw [<-jU,<-qU];have hj:j+1<=l.length:=k2;have hij:i<j+1:=Nat.lt_succ_of_le k1;generalize hj1:j+1=j1 at hj hij
 repeat' (first
    | exact hQ.fail _ _ _ _ _ _ _ _ _ _ _ _ Zo Zo
    | (refine hQ.good _ _ _ _ _ _ _ _ _ _ _ _ Zo Zo ?_;first|exact IsNd.le (IsNd.over Str.nil (k6 _) Zd Zd) Zo)
    | exact RdN.mk (_,j,_) rfl ⟨dO,dO,IsNds.le (IsNds.snoc2 k3 (IsNd.leaf ht Zd Zd) Za) dO⟩ dO
    | (refine hE l en _ _ _ hL Zo Zo (fun op n k m a pl' s s2 args ts ls ok j h1 h2 h3=>?_);cases ok;rotate_left;obtain ⟨h4,h5⟩:=h3 rfl;all_goals simp(disch:=omega))
    | (refine Zaf (fun hc=>?_) (fun hc=>?_)<;>simp(disch:=omega)[hc])
    | (refine ZaG H hL Zo (fun j h1 h2=>?_) ?_<;>simp(disch:=omega))
    | (refine ZbT H hL Zo (fun j h1 h2=>?_) ?_<;>simp(disch:=omega))
    | (refine Za8 H hL Zo (fun j s h1 h2 hs=>?_) ?_<;>simp(disch:=omega))
    | (refine ZaD H hL Zo (fun a=>?_);simp(disch:=omega))
    | (refine Zba H hL Zo (fun b hb=>?_);cases b;rotate_left;have hb2:=hb rfl;all_goals simp(disch:=omega))
    | (refine ZaR H hL Zo (fun b hb=>?_);cases b;rotate_left;have hb2:=hb rfl;all_goals simp(disch:=omega))
    | (refine ZaY H (by first|(exact Str.len Za)|decide) (fun z hz=>?_);simp(disch:=omega))
    | (refine Zb1 H hL Zo (fun k s m args ok j h1 h2 h3=>?_);cases ok;rotate_left;obtain ⟨h4,h5⟩:=h3 rfl;all_goals simp(disch:=omega)))
end Go.Am.Fe
end
section
namespace Go.Am.Fe
variable {S:SF} {Q:QF}
attribute [local simp] ZbO if_pos if_neg decide_eq_true decide_eq_false Yi Yj ZgF
variable {l:List Tok} {en pl:Int} {i:Nat}
def ZvJ (H:Has S) {n:Nat} (hE:OkNdF S Zas n) (hS:OkSts S n) (hL:Rl l) (hi:i<=l.length) (hn:l.length<n+1+i) (hQ:NdPost l en i Q):Gives S ZdJ [me] [rd l en i pl] Q:=by
 have hlen:=hL.1;refine .code H.ZoN rfl ?_;simp(disch:=omega)[ZfA]
 repeat' (first
    | exact hQ.fail _ _ _ _ _ _ _ _ _ _ _ _ Zo Zo
    | (refine hQ.good _ _ _ _ _ _ _ _ _ _ _ _ Zo Zo ?_;first|exact IsNd.le (IsNd.leaf (by first|assumption|exact Str.nil) Zd Zd) (by omega)|exact IsNd.le (IsNd.over (by first|assumption|exact Str.nil) Za Zd Zd) (by omega)|exact IsNd.le Za Zo)
    | exact RdN.mk (_,_,j,_) rfl ⟨dO,dO,IsNds.le (IsNds.snoc k3 Za) dO⟩ dC
    | (refine Lp.rule (fun (b:LP×Bool×Nat×Int)=>[(0,.a me),fR 2,fR 4,(15,.a (pb b.2.1)),(9999,.objs [rd l en b.2.2.1 b.2.2.2]),(10002,.a (aN0)),(10004,.a (.agg [.i 67,.s [],.i 0,.i 0,.s [],.i 0,.tip 4 [],.tip 4 [],.tip 10 b.1,.i a]))]) (fun b=>i<b.2.2.1/\b.2.2.1<=l.length/\IsNds (8*(b.2.2.1-i-1)) b.1) (fun b=>2*(l.length-b.2.2.1)+cond b.2.1 1 0) (a₀:=([],true,j,pl)) Zs ⟨dO,dO,IsNds.nil.le Zo⟩ ?_;rintro ⟨ls,b,j,pl⟩ ⟨k1,k2,k3⟩;dsimp only at k1 k2 k3;have k5:=k3.len;cases b<;>simp(disch:=omega))
    | (refine hE l en _ _ _ hL Zo Zo (fun op n k m a pl' s s2 args ts ls ok j h1 h2 h3=>?_);cases ok;rotate_left;obtain ⟨h4,h5⟩:=h3 rfl;all_goals simp(disch:=omega))
    | (refine Zlk H hE hL Zo Zo Zo (fun op n k m a pl' s s2 args ts ls ok j h1 h2 h3=>?_);cases ok;rotate_left;obtain ⟨h4,h5⟩:=h3 rfl;all_goals simp(disch:=omega))
    | (refine Zrj H hS hL Zo Zo (fun op n k m a pl' s s2 args ts ls ok j h1 h2 h3=>?_);cases ok;rotate_left;obtain ⟨h4,h5⟩:=h3 rfl;all_goals simp(disch:=omega))
    | (refine Zxa H hE hL Zo Zo (fun op n k m a pl' s s2 args ts ls ok j h1 h2 h3=>?_);cases ok;rotate_left;obtain ⟨h4,h5⟩:=h3 rfl;all_goals simp(disch:=omega))
    | (refine Zps H hE hL Zo Zo IsNds.nil Zo (fun ls ok j pl' h1 h2 h3=>?_);cases ok;rotate_left;obtain ⟨h4,h5⟩:=h3 rfl;all_goals simp(disch:=omega))
    | (refine Zaf (fun hc=>?_) (fun hc=>?_)<;>simp(disch:=omega)[hc])
    | (refine ZaG H hL Zo (fun j h1 h2=>?_) ?_<;>simp(disch:=omega))
    | (refine ZbT H hL Zo (fun j h1 h2=>?_) ?_<;>simp(disch:=omega))
    | (refine Za8 H hL Zo (fun j s h1 h2 hs=>?_) ?_<;>simp(disch:=omega))
    | (refine ZaD H hL Zo (fun a=>?_);simp(disch:=omega))
    | (refine Zba H hL Zo (fun b hb=>?_);cases b;rotate_left;have hb2:=hb rfl;all_goals simp(disch:=omega))
    | (refine ZaR H hL Zo (fun b hb=>?_);cases b;rotate_left;have hb2:=hb rfl;all_goals simp(disch:=omega))
    | (refine ZaY H (by first|(exact Str.len Za)|decide) (fun z hz=>?_);simp(disch:=omega))
    | (refine Zb1 H hL Zo (fun k s m args ok j h1 h2 h3=>?_);cases ok;rotate_left;obtain ⟨h4,h5⟩:=h3 rfl;all_goals simp(disch:=omega)))
def Zrp (H:Has S) {n:Nat} (hE:OkNdF S Zas n) (hS:OkSts S n) (hL:Rl l) (hi:i<=l.length) (hn:l.length<n+1+i) (hQ:NdPost l en i Q):Gives S ZcE [me] [rd l en i pl] Q:=by
 have hlen:=hL.1;refine .code H.ZkH rfl ?_;simp(disch:=omega)[ZdF];refine ZvJ H hE hS hL Zo Zo (fun op n k m a pl s s2 args ts ls ok j h1 h2 h3=>?_);simp(disch:=omega);refine Lp.rule (fun (b:NS×Bool×Nat×Int)=>[(0,.a me),fR 2,fR 4,(5,.a (pb b.2.1)),(9999,.objs [rd l en b.2.2.1 b.2.2.2]),(10002,.a (aN0)),(10004,.a (.agg b.1.c))])
  (fun b=>b.1.ok/\i<=b.2.2.1/\b.2.2.1<=l.length/\(b.2.1=true->i<b.2.2.1/\IsNd (8*(b.2.2.1-i)-4) b.1.r)) (fun b=>2*(l.length-b.2.2.1)+cond b.2.1 1 0) (a₀:=(⟨op,n,k,m,a,s,s2,.l 4 args,.l 4 ts,.l 10 ls,args,ts,ls⟩,ok,j,pl)) Zs ⟨n3,h1,h2,h3⟩ ?_
 rintro ⟨⟨op,n,k,m,a,s,s2,c1,c2,c3,args,ts,ls⟩,ok,j,pl⟩ ⟨⟨⟨e1,f1⟩,⟨e2,f2⟩,⟨e3,f3⟩⟩,k1,k2,k3⟩;dsimp only [NS.r] at e1 e2 e3 k1 k2 k3;cases ok
 ·simp(disch:=omega)[NS.c,e1,e2,e3,f1,f2,f3];exact hQ.fail _ _ _ _ _ _ _ _ _ _ _ _ Zo Zo
 ·obtain ⟨k4,k5⟩:=k3 rfl;simp(disch:=omega)[NS.c,e1,e2,e3,f1,f2,f3]
  repeat' (first
      | exact hQ.fail _ _ _ _ _ _ _ _ _ _ _ _ Zo Zo
      | (refine hQ.good _ _ _ _ _ _ _ _ _ _ _ _ Zo Zo ?_;first|exact IsNd.le k5 Zo)
      | exact RdN.mk (⟨_,_,_,_,_,_,_,_,_,_,_,_,_⟩,_,j,_) rfl ⟨n3,dO,dO,fun _=>⟨dO,IsNd.le (IsNd.over (by first|assumption|exact Str.nil) (IsNds.cons k5 IsNds.nil) (by dsimp only;decide) (by dsimp only;decide)) dO⟩⟩ dC
      | exact RdN.mk (⟨_,_,_,_,_,_,_,_,_,_,_,_,_⟩,_,j,_) rfl ⟨n3,dO,dO,fun _=>⟨dO,IsNd.le (IsNd.over (by first|assumption|exact Str.nil) Za (by dsimp only;decide) (by dsimp only;decide)) dO⟩⟩ dC
      | exact RdN.mk (⟨_,_,_,_,_,_,_,_,_,_,_,_,_⟩,false,j,_) rfl ⟨n3,dO,dO,fun h=>Bool.noConfusion h⟩ dC
      | (refine Zps H hE hL Zo Zo (IsNds.cons k5 IsNds.nil) Zo (fun ls ok j pl' h1 h2 h3=>?_);cases ok;rotate_left;obtain ⟨h4,h5⟩:=h3 rfl;all_goals simp(disch:=omega)[e1,e2,e3,f1,f2,f3])
      | (refine Zaf (fun hc=>?_) (fun hc=>?_)<;>simp(disch:=omega)[hc,e1,e2,e3,f1,f2,f3])
      | (refine ZaG H hL Zo (fun j h1 h2=>?_) ?_<;>simp(disch:=omega)[e1,e2,e3,f1,f2,f3])
      | (refine ZbT H hL Zo (fun j h1 h2=>?_) ?_<;>simp(disch:=omega)[e1,e2,e3,f1,f2,f3])
      | (refine Za8 H hL Zo (fun j s h1 h2 hs=>?_) ?_<;>simp(disch:=omega)[e1,e2,e3,f1,f2,f3])
      | (refine ZaD H hL Zo (fun a=>?_);simp(disch:=omega)[e1,e2,e3,f1,f2,f3])
      | (refine Zba H hL Zo (fun b hb=>?_);cases b;rotate_left;have hb2:=hb rfl;all_goals simp(disch:=omega)[e1,e2,e3,f1,f2,f3])
      | (refine ZaR H hL Zo (fun b hb=>?_);cases b;rotate_left;have hb2:=hb rfl;all_goals simp(disch:=omega)[e1,e2,e3,f1,f2,f3])
      | (refine ZaY H (by first|(exact Str.len Za)|decide) (fun z hz=>?_);simp(disch:=omega)[e1,e2,e3,f1,f2,f3])
      | (refine Zb1 H hL Zo (fun k s m args ok j h1 h2 h3=>?_);cases ok;rotate_left;obtain ⟨h4,h5⟩:=h3 rfl;all_goals simp(disch:=omega)[e1,e2,e3,f1,f2,f3]))
def Zvf (H:Has S) {n:Nat} (hE:OkNdF S Zas n) (hS:OkSts S n) (hU:OkNdF S Za3 n) (hL:Rl l) (hi:i<=l.length) (hn:l.length<n+1+i) (hQ:NdPost l en i Q):Gives S Za3 [me] [rd l en i pl] Q:=by
 have hlen:=hL.1;refine .code H.Znn rfl ?_;simp(disch:=omega)[ZeE]
 repeat' (first
    | exact hQ.fail _ _ _ _ _ _ _ _ _ _ _ _ Zo Zo
    | (refine hQ.good _ _ _ _ _ _ _ _ _ _ _ _ Zo Zo ?_;first|exact IsNd.le Za (by omega)|exact IsNd.le (IsNd.over Str.nil (IsNds.cons Za IsNds.nil) Zd Zd) Zo)
    | (refine hU l en _ _ _ hL Zo Zo (fun op n k m a pl' s s2 args ts ls ok j h1 h2 h3=>?_);cases ok;rotate_left;obtain ⟨h4,h5⟩:=h3 rfl;all_goals simp(disch:=omega))
    | (refine Zrp H hE hS hL Zo Zo (fun op n k m a pl' s s2 args ts ls ok j h1 h2 h3=>?_);cases ok;rotate_left;obtain ⟨h4,h5⟩:=h3 rfl;all_goals simp(disch:=omega))
    | (refine Zaf (fun hc=>?_) (fun hc=>?_)<;>simp(disch:=omega)[hc])
    | (refine ZaG H hL Zo (fun j h1 h2=>?_) ?_<;>simp(disch:=omega))
    | (refine ZbT H hL Zo (fun j h1 h2=>?_) ?_<;>simp(disch:=omega))
    | (refine Za8 H hL Zo (fun j s h1 h2 hs=>?_) ?_<;>simp(disch:=omega))
    | (refine ZaD H hL Zo (fun a=>?_);simp(disch:=omega))
    | (refine Zba H hL Zo (fun b hb=>?_);cases b;rotate_left;have hb2:=hb rfl;all_goals simp(disch:=omega))
    | (refine ZaR H hL Zo (fun b hb=>?_);cases b;rotate_left;have hb2:=hb rfl;all_goals simp(disch:=omega))
    | (refine ZaY H (by first|(exact Str.len Za)|decide) (fun z hz=>?_);simp(disch:=omega))
    | (refine Zb1 H hL Zo (fun k s m args ok j h1 h2 h3=>?_);cases ok;rotate_left;obtain ⟨h4,h5⟩:=h3 rfl;all_goals simp(disch:=omega)))
def OkLv (S:SF) (n k:Nat):Prop:= ∀(l:List Tok) (en pl:Int) (i:Nat) (Q:QF),Rl l->i<=l.length->l.length<n+i->NdPost l en i Q->Gives S ZbZ [me,pi k] [rd l en i pl] Q
def Zrr (H:Has S) {n:Nat} (hU:OkNdF S Za3 n):OkLv S n 5:=by
 intro l en pl i Q hL hi hn hQ;refine .code H.Zir rfl ?_;simp(disch:=omega)[Zc7,Zn3 H,lvs]
 repeat' (first
    | exact hQ.fail _ _ _ _ _ _ _ _ _ _ _ _ Zo Zo
    | (refine hQ.good _ _ _ _ _ _ _ _ _ _ _ _ Zo Zo ?_;first|exact IsNd.le Za Zo)
    | (refine hU l en _ _ _ hL Zo Zo (fun op n k m a pl' s s2 args ts ls ok j h1 h2 h3=>?_);cases ok;rotate_left;obtain ⟨h4,h5⟩:=h3 rfl;all_goals simp(disch:=omega))
    | (refine Zaf (fun hc=>?_) (fun hc=>?_)<;>simp(disch:=omega)[hc])
    | (refine ZaG H hL Zo (fun j h1 h2=>?_) ?_<;>simp(disch:=omega))
    | (refine ZbT H hL Zo (fun j h1 h2=>?_) ?_<;>simp(disch:=omega))
    | (refine Za8 H hL Zo (fun j s h1 h2 hs=>?_) ?_<;>simp(disch:=omega))
    | (refine ZaD H hL Zo (fun a=>?_);simp(disch:=omega))
    | (refine Zba H hL Zo (fun b hb=>?_);cases b;rotate_left;have hb2:=hb rfl;all_goals simp(disch:=omega))
    | (refine ZaR H hL Zo (fun b hb=>?_);cases b;rotate_left;have hb2:=hb rfl;all_goals simp(disch:=omega))
    | (refine ZaY H (by first|(exact Str.len Za)|decide) (fun z hz=>?_);simp(disch:=omega))
    | (refine Zb1 H hL Zo (fun k s m args ok j h1 h2 h3=>?_);cases ok;rotate_left;obtain ⟨h4,h5⟩:=h3 rfl;all_goals simp(disch:=omega)))
theorem ZxI {k:Nat} (hk:k<5): ∃rows:LP,lvs[k]? =some [.sl 1 rows]/\rows.length<=6/\ ∀m,m<rows.length-> ∃s,rows[m]? =some [.str s]/\Str s:=by
 have key: ∀(ss:List LN),(∀s∈ss,Str s)-> ∀m,m<(ss.map fun s=>[P.str s]).length-> ∃s,(ss.map fun s=>[P.str s])[m]? =some [.str s]/\Str s:=fun ss h m hm=>by
  rw [Yh] at hm;exact ⟨ss[m],by simp [hm],h _ (Yl hm)⟩
 have st: ∀s:LN,s.length<=8000->(∀x∈s,x<256)->Str s:=fun s h1 h2=>⟨h1,h2⟩
 match k,hk with
 | 0,_=>exact ⟨_,rfl,by decide,key [[124,124]] (by simp [Str,Byt])⟩
 | 1,_=>exact ⟨_,rfl,by decide,key [[38,38]] (by simp [Str,Byt])⟩
 | 2,_=>exact ⟨_,rfl,by decide,key [[61,61],[33,61],[60],[60,61],[62],[62,61]] (by simp [Str,Byt])⟩
 | 3,_=>exact ⟨_,rfl,by decide,key [[43],[45]] (by simp [Str,Byt])⟩
 | 4,_=>exact ⟨_,rfl,by decide,key [[42],[47],[37]] (by simp [Str,Byt])⟩
def ZeV (H:Has S) {n kk:Nat} (hk:kk<5) (hN:OkLv S n (kk+1)):OkLv S n kk:=by
 intro l en pl i Q hL hi hn hQ;have hlen:=hL.1;obtain ⟨rows,r1,r2,r3⟩:=ZxI hk;have r4:lvs.length=5:=rfl;have r1:lvs[kk]'(by omega)=[.sl 1 rows]:=(List.getElem?_eq_some_iff.mp r1).2;refine .code H.Zir rfl ?_;simp(disch:=omega)[Zc7,Zn3 H,r4];rw [<-jU,<-qU];refine hN l en _ _ _ hL Zo Zo (fun op n k m a pl s s2 args ts ls ok j h1 h2 h3=>?_);simp(disch:=omega);refine Lp.rule (fun (b:NS×Bool×Int×Nat×Int)=>[(0,.a me),(1,.a (pi kk)),fR 4,(6,.a (.one (.l 1 lvs))),fR 7,(8,.a (pb b.2.1)),(9,.a (pi b.2.2.1)),(9999,.objs [rd l en b.2.2.2.1 b.2.2.2.2]),(10004,.a (aN0)),(10007,.a (.agg b.1.c))])
  (fun b=>b.1.ok/\i<=b.2.2.2.1/\b.2.2.2.1<=l.length/\(b.2.1=true->i<b.2.2.2.1/\IsNd (8*(b.2.2.2.1-i)-4) b.1.r)) (fun b=>2*(l.length-b.2.2.2.1)+cond b.2.1 1 0) (a₀:=(⟨op,n,k,m,a,s,s2,.l 4 args,.l 4 ts,.l 10 ls,args,ts,ls⟩,ok,0,j,pl)) Zs ⟨n3,h1,h2,h3⟩ ?_
 rintro ⟨⟨op,n,k,m,a,s,s2,c1,c2,c3,args,ts,ls⟩,ok,cnt,j,pl⟩ ⟨⟨⟨e1,f1⟩,⟨e2,f2⟩,⟨e3,f3⟩⟩,k1,k2,k3⟩;dsimp only [NS.r] at e1 e2 e3 k1 k2 k3;cases ok
 ·simp(disch:=omega)[NS.c,e1,e2,e3,f1,f2,f3];exact hQ.fail _ _ _ _ _ _ _ _ _ _ _ _ Zo Zo
 ·obtain ⟨k4,k5⟩:=k3 rfl;by_cases hkc:kk=2/\ ¬cnt=0
  ·obtain ⟨rfl,hc0⟩:=hkc;simp(disch:=omega)[NS.c,e1,e2,e3,f1,f2,f3,hc0]
   (refine hQ.good _ _ _ _ _ _ _ _ _ _ _ _ Zo Zo ?_;first|exact IsNd.le k5 Zo)
  ·have hgo: ¬((kk:Int)=2)∨cnt=0:=by omega
   rcases hgo with hgo|hgo
   ·simp(disch:=omega)[NS.c,e1,e2,e3,f1,f2,f3,hgo];refine Lp.rule (fun (b:LN×Nat)=>[(0,.a me),(1,.a (pi kk)),fR 4,(6,.a (.one (.l 1 lvs))),fR 7,(9,.a (pi cnt)),(10,.a (ps b.1)),(11,.a (pi b.2)),(9999,.objs [rd l en j pl]),(10004,.a (aN0)),
      (10007,.a (.agg [.i op,.s s,.i n,.i k,.s s2,.i m,c1,c2,c3,.i a]))]) (fun b=>Str b.1/\b.2<=rows.length) (fun b=>rows.length-b.2) (a₀:=([],0)) Zs ⟨Str.nil,Yd _⟩ ?_
    rintro ⟨o2,x⟩ ⟨o3,o4⟩;dsimp only at o3 o4;by_cases hx:x<rows.length
    ·obtain ⟨str,g1,g2⟩:=r3 x hx;have g1:rows[x]=[.str str]:=(List.getElem?_eq_some_iff.mp g1).2;simp(disch:=omega)[r1,g1];refine Zba H hL k2 fun b hb=>?_;cases b
     ·simp(disch:=omega)[e1,e2,e3,f1,f2,f3];exact RdN.mk (o2,x+1) Zs ⟨o3,hx⟩ dO
     ·simp(disch:=omega)[r1,g1,e1,e2,e3,f1,f2,f3];exact RdN.mk (str,x+1) Zs ⟨g2,hx⟩ dO
    ·simp(disch:=omega)[r1,e1,e2,e3,f1,f2,f3];refine Zaf (fun hc=>?_) (fun hc=>?_)
     ·simp(disch:=omega)[hc,e1,e2,e3,f1,f2,f3]
      (refine hQ.good _ _ _ _ _ _ _ _ _ _ _ _ Zo Zo ?_;first|exact IsNd.le k5 Zo)
     ·simp(disch:=omega)[hc,e1,e2,e3,f1,f2,f3];have fin: ∀(j2:Nat),j<=j2->j2<=l.length->True:=fun _ _ _=>trivial;refine ZaG H hL k2 (fun j2 b1 b2=>?_) ?_
      ·simp(disch:=omega)[e1,e2,e3,f1,f2,f3];rw [<-jU,<-qU];refine hN l en _ _ _ hL Zo Zo (fun op n k m a pl s s2 args ts ls ok j h1 h2 h3=>?_);cases ok
       ·simp(disch:=omega)[e1,e2,e3,f1,f2,f3];exact RdN.mk (⟨_,_,_,_,_,_,_,_,_,_,_,_,_⟩,false,_,j,_) rfl ⟨n3,dO,dO,fun h=>Bool.noConfusion h⟩ dC
       ·obtain ⟨h4,h5⟩:=h3 rfl;simp(disch:=omega)[e1,e2,e3,f1,f2,f3];exact RdN.mk (⟨_,_,_,_,_,_,_,_,_,_,_,_,_⟩,true,_,j,_) rfl ⟨n3,dO,dO,fun _=>⟨dO,IsNd.le (IsNd.over o3 (IsNds.cons k5 (IsNds.cons h5 IsNds.nil)) (by dsimp only;decide) (by dsimp only;decide)) dO⟩⟩ dC
      ·simp(disch:=omega)[e1,e2,e3,f1,f2,f3];rw [<-jU,<-qU];refine hN l en _ _ _ hL Zo Zo (fun op n k m a pl s s2 args ts ls ok j h1 h2 h3=>?_);cases ok
       ·simp(disch:=omega)[e1,e2,e3,f1,f2,f3];exact RdN.mk (⟨_,_,_,_,_,_,_,_,_,_,_,_,_⟩,false,_,j,_) rfl ⟨n3,dO,dO,fun h=>Bool.noConfusion h⟩ dC
       ·obtain ⟨h4,h5⟩:=h3 rfl;simp(disch:=omega)[e1,e2,e3,f1,f2,f3];exact RdN.mk (⟨_,_,_,_,_,_,_,_,_,_,_,_,_⟩,true,_,j,_) rfl ⟨n3,dO,dO,fun _=>⟨dO,IsNd.le (IsNd.over o3 (IsNds.cons k5 (IsNds.cons h5 IsNds.nil)) (by dsimp only;decide) (by dsimp only;decide)) dO⟩⟩ dC
   ·subst hgo;simp(disch:=omega)[NS.c,e1,e2,e3,f1,f2,f3];refine Zam (fun hc=>?_) (fun hc=>?_)
    ·simp(disch:=omega)[e1,e2,e3,f1,f2,f3,hc];refine Lp.rule (fun (b:LN×Nat)=>[(0,.a me),(1,.a (pi kk)),fR 4,(6,.a (.one (.l 1 lvs))),fR 7,(9,.a (pi 0)),(10,.a (ps b.1)),(11,.a (pi b.2)),(9999,.objs [rd l en j pl]),(10004,.a (aN0)),
       (10007,.a (.agg [.i op,.s s,.i n,.i k,.s s2,.i m,c1,c2,c3,.i a]))]) (fun b=>Str b.1/\b.2<=rows.length) (fun b=>rows.length-b.2) (a₀:=([],0)) Zs ⟨Str.nil,Yd _⟩ ?_
     rintro ⟨o2,x⟩ ⟨o3,o4⟩;dsimp only at o3 o4;by_cases hx:x<rows.length
     ·obtain ⟨str,g1,g2⟩:=r3 x hx;have g1:rows[x]=[.str str]:=(List.getElem?_eq_some_iff.mp g1).2;simp(disch:=omega)[r1,g1];refine Zba H hL k2 fun b hb=>?_;cases b
      ·simp(disch:=omega)[e1,e2,e3,f1,f2,f3];exact RdN.mk (o2,x+1) Zs ⟨o3,hx⟩ dO
      ·simp(disch:=omega)[r1,g1,e1,e2,e3,f1,f2,f3];exact RdN.mk (str,x+1) Zs ⟨g2,hx⟩ dO
     ·simp(disch:=omega)[r1,e1,e2,e3,f1,f2,f3];refine Zaf (fun hc=>?_) (fun hc=>?_)
      ·simp(disch:=omega)[hc,e1,e2,e3,f1,f2,f3]
       (refine hQ.good _ _ _ _ _ _ _ _ _ _ _ _ Zo Zo ?_;first|exact IsNd.le k5 Zo)
      ·simp(disch:=omega)[hc,e1,e2,e3,f1,f2,f3];have fin: ∀(j2:Nat),j<=j2->j2<=l.length->True:=fun _ _ _=>trivial;refine ZaG H hL k2 (fun j2 b1 b2=>?_) ?_
       ·simp(disch:=omega)[e1,e2,e3,f1,f2,f3];rw [<-jU,<-qU];refine hN l en _ _ _ hL Zo Zo (fun op n k m a pl s s2 args ts ls ok j h1 h2 h3=>?_);cases ok
        ·simp(disch:=omega)[e1,e2,e3,f1,f2,f3];exact RdN.mk (⟨_,_,_,_,_,_,_,_,_,_,_,_,_⟩,false,_,j,_) rfl ⟨n3,dO,dO,fun h=>Bool.noConfusion h⟩ dC
        ·obtain ⟨h4,h5⟩:=h3 rfl;simp(disch:=omega)[e1,e2,e3,f1,f2,f3];exact RdN.mk (⟨_,_,_,_,_,_,_,_,_,_,_,_,_⟩,true,_,j,_) rfl ⟨n3,dO,dO,fun _=>⟨dO,IsNd.le (IsNd.over o3 (IsNds.cons k5 (IsNds.cons h5 IsNds.nil)) (by dsimp only;decide) (by dsimp only;decide)) dO⟩⟩ dC
       ·simp(disch:=omega)[e1,e2,e3,f1,f2,f3];rw [<-jU,<-qU];refine hN l en _ _ _ hL Zo Zo (fun op n k m a pl s s2 args ts ls ok j h1 h2 h3=>?_);cases ok
        ·simp(disch:=omega)[e1,e2,e3,f1,f2,f3];exact RdN.mk (⟨_,_,_,_,_,_,_,_,_,_,_,_,_⟩,false,_,j,_) rfl ⟨n3,dO,dO,fun h=>Bool.noConfusion h⟩ dC
        ·obtain ⟨h4,h5⟩:=h3 rfl;simp(disch:=omega)[e1,e2,e3,f1,f2,f3];exact RdN.mk (⟨_,_,_,_,_,_,_,_,_,_,_,_,_⟩,true,_,j,_) rfl ⟨n3,dO,dO,fun _=>⟨dO,IsNd.le (IsNd.over o3 (IsNds.cons k5 (IsNds.cons h5 IsNds.nil)) (by dsimp only;decide) (by dsimp only;decide)) dO⟩⟩ dC
    ·simp(disch:=omega)[e1,e2,e3,f1,f2,f3,hc];refine Lp.rule (fun (b:LN×Nat)=>[(0,.a me),(1,.a (pi kk)),fR 4,(6,.a (.one (.l 1 lvs))),fR 7,(9,.a (pi 0)),(10,.a (ps b.1)),(11,.a (pi b.2)),(9999,.objs [rd l en j pl]),(10004,.a (aN0)),
       (10007,.a (.agg [.i op,.s s,.i n,.i k,.s s2,.i m,c1,c2,c3,.i a]))]) (fun b=>Str b.1/\b.2<=rows.length) (fun b=>rows.length-b.2) (a₀:=([],0)) Zs ⟨Str.nil,Yd _⟩ ?_
     rintro ⟨o2,x⟩ ⟨o3,o4⟩;dsimp only at o3 o4;by_cases hx:x<rows.length
     ·obtain ⟨str,g1,g2⟩:=r3 x hx;have g1:rows[x]=[.str str]:=(List.getElem?_eq_some_iff.mp g1).2;simp(disch:=omega)[r1,g1];refine Zba H hL k2 fun b hb=>?_;cases b
      ·simp(disch:=omega)[e1,e2,e3,f1,f2,f3];exact RdN.mk (o2,x+1) Zs ⟨o3,hx⟩ dO
      ·simp(disch:=omega)[r1,g1,e1,e2,e3,f1,f2,f3];exact RdN.mk (str,x+1) Zs ⟨g2,hx⟩ dO
     ·simp(disch:=omega)[r1,e1,e2,e3,f1,f2,f3];refine Zaf (fun hc=>?_) (fun hc=>?_)
      ·simp(disch:=omega)[hc,e1,e2,e3,f1,f2,f3]
       (refine hQ.good _ _ _ _ _ _ _ _ _ _ _ _ Zo Zo ?_;first|exact IsNd.le k5 Zo)
      ·simp(disch:=omega)[hc,e1,e2,e3,f1,f2,f3];have fin: ∀(j2:Nat),j<=j2->j2<=l.length->True:=fun _ _ _=>trivial;refine ZaG H hL k2 (fun j2 b1 b2=>?_) ?_
       ·simp(disch:=omega)[e1,e2,e3,f1,f2,f3];rw [<-jU,<-qU];refine hN l en _ _ _ hL Zo Zo (fun op n k m a pl s s2 args ts ls ok j h1 h2 h3=>?_);cases ok
        ·simp(disch:=omega)[e1,e2,e3,f1,f2,f3];exact RdN.mk (⟨_,_,_,_,_,_,_,_,_,_,_,_,_⟩,false,_,j,_) rfl ⟨n3,dO,dO,fun h=>Bool.noConfusion h⟩ dC
        ·obtain ⟨h4,h5⟩:=h3 rfl;simp(disch:=omega)[e1,e2,e3,f1,f2,f3];exact RdN.mk (⟨_,_,_,_,_,_,_,_,_,_,_,_,_⟩,true,_,j,_) rfl ⟨n3,dO,dO,fun _=>⟨dO,IsNd.le (IsNd.over o3 (IsNds.cons k5 (IsNds.cons h5 IsNds.nil)) (by dsimp only;decide) (by dsimp only;decide)) dO⟩⟩ dC
       ·simp(disch:=omega)[e1,e2,e3,f1,f2,f3];rw [<-jU,<-qU];refine hN l en _ _ _ hL Zo Zo (fun op n k m a pl s s2 args ts ls ok j h1 h2 h3=>?_);cases ok
        ·simp(disch:=omega)[e1,e2,e3,f1,f2,f3];exact RdN.mk (⟨_,_,_,_,_,_,_,_,_,_,_,_,_⟩,false,_,j,_) rfl ⟨n3,dO,dO,fun h=>Bool.noConfusion h⟩ dC
        ·obtain ⟨h4,h5⟩:=h3 rfl;simp(disch:=omega)[e1,e2,e3,f1,f2,f3];exact RdN.mk (⟨_,_,_,_,_,_,_,_,_,_,_,_,_⟩,true,_,j,_) rfl ⟨n3,dO,dO,fun _=>⟨dO,IsNd.le (IsNd.over o3 (IsNds.cons k5 (IsNds.cons h5 IsNds.nil)) (by dsimp only;decide) (by dsimp only;decide)) dO⟩⟩ dC
end Go.Am.Fe
end
section
namespace Go.Am.Fe
variable {S:SF} {Q:QF}
noncomputable def dq (p:Prop):Bool:= @decide p (Classical.propDecidable p)
def ZD3 {p:Prop}:dq p=true↔p:= @decide_eq_true_iff p (Classical.propDecidable p)
def ZEg {p:Prop}:dq p=false↔ ¬p:= @decide_eq_false_iff_not p (Classical.propDecidable p)
def ZDz {p:Prop} (h:p):dq p=true:=ZD3.2 h
def ZDy {p:Prop} (h: ¬p):dq p=false:=ZEg.2 h
def Ty.k:Ty->Int| .mk k _ _ _=>k
def Ty.s:Ty->LN| .mk _ s _ _=>s
def Ty.n:Ty->Int| .mk _ _ n _=>n
def Ty.a:Ty->List Ty| .mk _ _ _ a=>a
abbrev Ty.row (t:Ty):List P:=[.i t.k,.str t.s,.i t.n,.sl 4 (Ty.encs t.a)]
abbrev Ty.cs (t:Ty):LC:=[.i t.k,.s t.s,.i t.n,.l 4 (Ty.encs t.a)]
def Ty.enc_row (t:Ty):t.enc=t.row:=by cases t;rfl
def Ty.encs_rows: ∀(l:List Ty),Ty.encs l=l.map Ty.row
 | []=>rfl
 | t::l=>by rw [Ty.encs,Ty.encs_rows l,Ty.enc_row];rfl
end Go.Am.Fe
end
