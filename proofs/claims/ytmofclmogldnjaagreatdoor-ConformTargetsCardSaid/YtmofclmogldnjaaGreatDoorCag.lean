/- Part. -/
import Derived.Test.YtmofclmogldnjaaGreatDoorCae
set_option maxRecDepth 999999
set_option maxHeartbeats 0
set_option linter.all false
def qZ:=@List.drop_eq_getElem_cons
section
namespace Go.Am
variable {S:Nat->Option Fn} {e:Env} {k:List Fr} {Q:X->Env->Prop}
def LvO (r:Option (List A×List (List C))) (Q:List A->List (List C)->Prop):Prop:= ∃rs os,r=some (rs,os)/\Q rs os
@[simp] def ZC6 {rs:List A} {os:List (List C)} {Q:List A->List (List C)->Prop}:LvO (some (rs,os)) Q=Q rs os:=propext ⟨fun ⟨_,_,h,h2⟩=>by cases h;exact h2,fun h=>⟨_,_,rfl,h⟩⟩
def Fin (pl:List Bool) (res:List Res) (Q:List A->List (List C)->Prop):X->Env->Prop
 | .exit _,_=>False
 | _,e=>LvO (ZrS ⟨0,pl,res,.skip⟩ e) Q
@[simp] def Zzs {pl:List Bool} {res:List Res} {Q:List A->List (List C)->Prop}:Fin pl res Q .normal e=LvO (ZrS ⟨0,pl,res,.skip⟩ e) Q:=rfl
@[simp] def ZCo {pl:List Bool} {res:List Res} {Q:List A->List (List C)->Prop}:Fin pl res Q .ret e=LvO (ZrS ⟨0,pl,res,.skip⟩ e) Q:=rfl
def Gives.code {f:Nat} {F:SFunc} {args:List A} {os:List (List C)} {Q:List A->List (List C)->Prop} (hS:S f=some (.code F)) (hl:args.length=F.nargs)
  (h:Go S F.code (enter 0 args++[(OBJS,.objs os)]) [] (Fin F.pl F.res Q)):Gives S f args os Q:=by
 obtain ⟨n,x,e',h1,h2⟩:=h;have h3:LvO (ZrS F e') Q/\(x= .normal∨x= .ret):=by
  cases x with
  | exit id=>exact h2.elim
  | normal=>exact ⟨h2,.inl rfl⟩
  | ret=>exact ⟨h2,.inr rfl⟩
 obtain ⟨⟨rs,os',h4,h5⟩,h6⟩:=h3;refine ⟨n,rs,os',?_,h5⟩;unfold call Zja;rw [hS];simp only [hl,if_true,h1];rcases h6 with rfl|rfl<;>exact h4
def Gives.mono {f:Nat} {args:List A} {os:List (List C)} {Q Q':List A->List (List C)->Prop} (h:Gives S f args os Q) (hq: ∀rs os,Q rs os->Q' rs os):Gives S f args os Q':=let ⟨n,rs,os',h1,h2⟩:=h;⟨n,rs,os',h1,hq _ _ h2⟩
def Eval (S:Nat->Option Fn) (f:Nat) (args:List A) (os:List (List C)) (rs:List A) (os':List (List C)):Prop:= ∃n,call S n f args os=some (rs,os')
def Eval.of {f:Nat} {args rs:List A} {os os':List (List C)} (h:Gives S f args os fun r o=>r=rs/\o=os'):Eval S f args os rs os':=by
 obtain ⟨n,r,o,h1,rfl,rfl⟩:=h;exact ⟨n,h1⟩
def Eval.gives {f:Nat} {args rs:List A} {os os':List (List C)} {Q:List A->List (List C)->Prop} (h:Eval S f args os rs os'):Gives S f args os Q=Q rs os':=by
 obtain ⟨n,hn⟩:=h;refine propext ⟨fun ⟨m,r,o,h1,h2⟩=>?_,fun hq=>⟨n,rs,os',hn,hq⟩⟩;have a:=Zmt (jT n m) _ _ _ _ hn;have b:=Zmt (kK n m) _ _ _ _ h1;rw [a] at b;cases b;exact h2
@[simp] def ZzL {k:Nat}:enter k []=[]:=rfl
@[simp] def ZxY {k:Nat} {x:A} {xs:List A}:enter k (x::xs)=(k,.a x)::enter (k+1) xs:=rfl
@[simp] def ZCM:OBJS=9999:=rfl
def Zyj (pl:List Bool) (rs:Option (List A)) (d:D):Option (List A×List (List C)):=match rs,d with
 | some rs,.objs os=>if rs.all A.clean && os.all (fun cs=>cs.all C.clean) then some (Zks pl rs,os) else none
 | _,_=>none
@[simp] def ZzT {pl:List Bool} {rs:List A} {os:List (List C)}:Zyj pl (some rs) (.objs os)=if rs.all A.clean && os.all (fun cs=>cs.all C.clean) then some (Zks pl rs,os) else none:=rfl
@[simp] def ZCg {n:Nat} {pl:List Bool} {res:List Res} {c:SCode}:ZrS ⟨n,pl,res,c⟩ e=Zyj pl (ZpM e res) (e.get 9999):=rfl
@[simp] def ZzF {xs:List A}:Zks [] xs=xs:=by simp [Zks]
@[simp] def Zyk {bs:List Bool}:Zks bs []=[]:=by cases bs<;>rfl
@[simp] def ZCm {bs:List Bool} {x:A} {xs:List A}:Zks (true::bs) (x::xs)=x.plain::Zks bs xs:=rfl
@[simp] def ZBi {bs:List Bool} {x:A} {xs:List A}:Zks (false::bs) (x::xs)=x::Zks bs xs:=rfl
@[simp] def Zz7:ZpM e []=some []:=rfl
@[simp] def ZyQ {r:Res} {rs:List Res}:ZpM e (r::rs)=(r.get e).bind fun x=>(ZpM e rs).map (x:: ·):=by
 simp only [ZpM];cases r.get e<;>cases ZpM e rs<;>rfl
def resV:D->Option A
 | .a x=>some x
 | _=>none
@[simp] def ZDm {x:A}:resV (.a x)=some x:=rfl
@[simp] def ZCq {k:Nat}:(Res.tmp k).get e=resV (e.get k):=by
 simp only [Res.get];cases e.get k<;>rfl
def ZBj (κ:Nat) (n:Option Nat):D->D->Option A
 | .a (.one (.ref ⟨true,κ',0⟩)),.a (.agg cs)=>if κ'==κ then ZbK n cs 0 else none
 | _,_=>none
@[simp] def ZBx {κ:Nat} {n:Option Nat} {cs:List C}:ZBj κ n (.a (.one (.ref ⟨true,κ,0⟩))) (.a (.agg cs))=ZbK n cs 0:=by simp [ZBj]
@[simp] def ZBz {t κ:Nat} {n:Option Nat}:(Res.cell t κ n).get e=ZBj κ n (e.get t) (e.get κ):=by
 simp only [Res.get];rfl
@[simp] def A.clean_one {c:C}:A.clean (.one c)=c.clean:=by simp [A.clean]
@[simp] def A.clean_agg {cs:List C}:A.clean (.agg cs)=cs.all C.clean:=rfl
@[simp] def C.clean_p {x:P}:C.clean (.p x)=true:=rfl
@[simp] def C.clean_tip {s:Nat} {r:List (List P)}:C.clean (.tip s r)=true:=rfl
@[simp] def C.clean_view {r:List P} {o:Nat}:C.clean (.view r o)=true:=rfl
@[simp] def C.clean_ref {r:R}:C.clean (.ref r)= !r.own:=rfl
@[simp] def C.clean_clo {f:Nat} {x y:List R}:C.clean (.clo f x y)=(x.all (fun r=> !r.own) && y.all (fun r=> !r.own)):=rfl
@[simp] def C.clean_nilp:C.clean .nilp=true:=rfl
@[simp] def C.clean_uniq {s:Nat} {r:List (List P)}:C.clean (.uniq s r)=true:=rfl
@[simp] def C.clean_own {r:R} {s n:Nat}:C.clean (.own r s n)= !r.own:=rfl
@[simp] def C.clean_mptr {r:R}:C.clean (.mptr r)= !r.own:=rfl
@[simp] def C.clean_map {r:R} {es:List (P×P)}:C.clean (.map r es)= !r.own:=rfl
@[simp] def C.clean_hdr {n:Nat}:C.clean (.hdr n)=true:=rfl
@[simp] def C.clean_junk:C.clean .junk=true:=rfl
@[simp] def C.clean_comp:C.clean∘C.p=fun _=>true:=rfl
def Lp (S:Nat->Option Fn) (live:List Nat) (b:SCode) (e:Env) (k:List Fr) (Q:X->Env->Prop):Prop:=Ends S b e (after (ZqD S k Q) fun e'=>Ends S (.loop live b) e' (ZqD S k Q))
@[simp] def Go.loop {live:List Nat} {b:SCode}:Go S (.loop live b) e k Q=Lp S live b (e.norm live) k Q:=by
 refine propext ⟨fun ⟨n,x,e',h1,h2⟩=>?_,fun ⟨n,x,e',h1,h2⟩=>?_⟩
 · cases n with
   | zero=>simp [exec] at h1
   | succ n=>
     rw [exec] at h1;split at h1
     · rename_i e1 he;exact ⟨n,.normal,e1,he,n,x,e',h1,h2⟩
     · rename_i q hq;refine ⟨n,x,e',h1,?_⟩;cases x with
       | normal=>exact absurd h1 (fun hh=>hq _ hh)
       | _=>exact h2
 · cases x with
   | normal=>
     obtain ⟨m,x2,e2,h3,h4⟩:=h2;refine ⟨max n m+1,x2,e2,?_,h4⟩;rw [exec,Zi1 (jT n m) h1];exact Zi1 (kK n m) h3
   | exit id=>exact ⟨n+1,.exit id,e',by rw [exec,h1],h2⟩
   | ret=>exact ⟨n+1,.ret,e',by rw [exec,h1],h2⟩
def Rd {α:Type} (live:List Nat) (st:α->Env) (Pr:α->Prop) (μ:α->Nat) (a:α) (e:Env):Prop:= ∃a',e.norm live=st a'/\Pr a'/\μ a'<μ a
def Lp.rule {live:List Nat} {b:SCode} {α:Type} (st:α->Env) (Pr:α->Prop) (μ:α->Nat) {a₀:α} (h0:e=st a₀) (hp:Pr a₀)
   (hr: ∀a,Pr a->Go S b (st a) (.inv (Rd live st Pr μ a)::k) Q):Lp S live b e k Q:=by
 have key: ∀n a,μ a=n->Pr a->Lp S live b (st a) k Q:=by
   intro n
   induction n using Nat.strongRecOn with
   | _ n ih=>
     intro a hn hP;obtain ⟨m,x,e',h1,h2⟩:=hr a hP;refine ⟨m,x,e',h1,?_⟩;cases x with
     | normal=>
       obtain ⟨a',h3,h4,h5⟩:=h2;have:=ih (μ a') Zo a' rfl h4;show Go S (.loop live b) e' k Q;rw [Go.loop,h3];exact this
     | exit id=>exact h2
     | ret=>exact h2
 rw [h0];exact key _ _ rfl hp
@[simp] def ZAV:Env.norm e []=[]:=rfl
@[simp] def ZAB {j:Nat} {l:List Nat}:Env.norm e (j::l)=(j,e.get j)::Env.norm e l:=rfl
section
variable {ins:List Arg} {tk outs:List Nat} {g:Option (Nat×Bool)} {b:Bool} {os:List SOp}
@[simp] def ZCP:Ops S (⟨.mov,ins,tk,outs,g,b⟩::os) e k Q=Op1 S (ZaT Zch ⟨.mov,ins,tk,outs,g,b⟩ e) os k Q:=Ops.step rfl
@[simp] def ZCl:Ops S (⟨.pick,ins,tk,outs,g,b⟩::os) e k Q=Op1 S (ZaT Zch ⟨.pick,ins,tk,outs,g,b⟩ e) os k Q:=Ops.step rfl
@[simp] def Zz6 {κ:Nat} {z:List C}:Ops S (⟨(.alloc κ z),ins,tk,outs,g,b⟩::os) e k Q=Op1 S (ZaT Zch ⟨(.alloc κ z),ins,tk,outs,g,b⟩ e) os k Q:=Ops.step rfl
@[simp] def ZCL {κ:Nat}:Ops S (⟨(.box κ),ins,tk,outs,g,b⟩::os) e k Q=Op1 S (ZaT Zch ⟨(.box κ),ins,tk,outs,g,b⟩ e) os k Q:=Ops.step rfl
@[simp] def Zz2 {z:List C} {offs:List (Nat×Nat)}:Ops S (⟨(.build z offs),ins,tk,outs,g,b⟩::os) e k Q=Op1 S (ZaT Zch ⟨(.build z offs),ins,tk,outs,g,b⟩ e) os k Q:=Ops.step rfl
@[simp] def ZAG {n:Option Nat}:Ops S (⟨(.load n),ins,tk,outs,g,b⟩::os) e k Q=Op1 S (ZaT Zch ⟨(.load n),ins,tk,outs,g,b⟩ e) os k Q:=Ops.step rfl
@[simp] def ZAF {κ:Nat} {n:Option Nat}:Ops S (⟨(.loadB κ n),ins,tk,outs,g,b⟩::os) e k Q=Op1 S (ZaT Zch ⟨(.loadB κ n),ins,tk,outs,g,b⟩ e) os k Q:=Ops.step rfl
@[simp] def ZzC {κ:Nat} {n:Option Nat}:Ops S (⟨(.loadBT κ n),ins,tk,outs,g,b⟩::os) e k Q=Op1 S (ZaT Zch ⟨(.loadBT κ n),ins,tk,outs,g,b⟩ e) os k Q:=Ops.step rfl
@[simp] def ZAk {n:Option Nat}:Ops S (⟨(.loadO n),ins,tk,outs,g,b⟩::os) e k Q=Op1 S (ZaT Zch ⟨(.loadO n),ins,tk,outs,g,b⟩ e) os k Q:=Ops.step rfl
@[simp] def ZxS {κ:Nat} {n:Nat}:Ops S (⟨(.storeB κ n),ins,tk,outs,g,b⟩::os) e k Q=Op1 S (ZaT Zch ⟨(.storeB κ n),ins,tk,outs,g,b⟩ e) os k Q:=Ops.step rfl
@[simp] def Zxx {n:Nat}:Ops S (⟨(.storeO n),ins,tk,outs,g,b⟩::os) e k Q=Op1 S (ZaT Zch ⟨(.storeO n),ins,tk,outs,g,b⟩ e) os k Q:=Ops.step rfl
@[simp] def Zvp:Ops S (⟨.nilCheck,ins,tk,outs,g,b⟩::os) e k Q=Op1 S (ZaT Zch ⟨.nilCheck,ins,tk,outs,g,b⟩ e) os k Q:=Ops.step rfl
@[simp] def Zua {o:Nat}:Ops S (⟨(.fieldAddr o),ins,tk,outs,g,b⟩::os) e k Q=Op1 S (ZaT Zch ⟨(.fieldAddr o),ins,tk,outs,g,b⟩ e) os k Q:=Ops.step rfl
@[simp] def Zrt {n:Nat}:Ops S (⟨(.indexAddr n),ins,tk,outs,g,b⟩::os) e k Q=Op1 S (ZaT Zch ⟨(.indexAddr n),ins,tk,outs,g,b⟩ e) os k Q:=Ops.step rfl
@[simp] def Zy8:Ops S (⟨.indexS,ins,tk,outs,g,b⟩::os) e k Q=Op1 S (ZaT Zch ⟨.indexS,ins,tk,outs,g,b⟩ e) os k Q:=Ops.step rfl
@[simp] def ZCW {op:BinOp}:Ops S (⟨(.bin op),ins,tk,outs,g,b⟩::os) e k Q=Op1 S (ZaT Zch ⟨(.bin op),ins,tk,outs,g,b⟩ e) os k Q:=Ops.step rfl
@[simp] def ZBD {op:BinOp}:Ops S (⟨(.binB op),ins,tk,outs,g,b⟩::os) e k Q=Op1 S (ZaT Zch ⟨(.binB op),ins,tk,outs,g,b⟩ e) os k Q:=Ops.step rfl
@[simp] def ZCI:Ops S (⟨.not,ins,tk,outs,g,b⟩::os) e k Q=Op1 S (ZaT Zch ⟨.not,ins,tk,outs,g,b⟩ e) os k Q:=Ops.step rfl
@[simp] def ZCR:Ops S (⟨.neg,ins,tk,outs,g,b⟩::os) e k Q=Op1 S (ZaT Zch ⟨.neg,ins,tk,outs,g,b⟩ e) os k Q:=Ops.step rfl
@[simp] def ZBN {ik:IntKind}:Ops S (⟨(.conv ik),ins,tk,outs,g,b⟩::os) e k Q=Op1 S (ZaT Zch ⟨(.conv ik),ins,tk,outs,g,b⟩ e) os k Q:=Ops.step rfl
@[simp] def Zze:Ops S (⟨.convBS,ins,tk,outs,g,b⟩::os) e k Q=Op1 S (ZaT Zch ⟨.convBS,ins,tk,outs,g,b⟩ e) os k Q:=Ops.step rfl
@[simp] def ZiD {n:Nat}:Ops S (⟨(.buildSlice n),ins,tk,outs,g,b⟩::os) e k Q=Op1 S (ZaT Zch ⟨(.buildSlice n),ins,tk,outs,g,b⟩ e) os k Q:=Ops.step rfl
@[simp] def Zxy {n:Nat}:Ops S (⟨(.append n),ins,tk,outs,g,b⟩::os) e k Q=Op1 S (ZaT Zch ⟨(.append n),ins,tk,outs,g,b⟩ e) os k Q:=Ops.step rfl
@[simp] def ZCs:Ops S (⟨.len,ins,tk,outs,g,b⟩::os) e k Q=Op1 S (ZaT Zch ⟨.len,ins,tk,outs,g,b⟩ e) os k Q:=Ops.step rfl
@[simp] def ZCp:Ops S (⟨.lenS,ins,tk,outs,g,b⟩::os) e k Q=Op1 S (ZaT Zch ⟨.lenS,ins,tk,outs,g,b⟩ e) os k Q:=Ops.step rfl
@[simp] def ZA0:Ops S (⟨.min2,ins,tk,outs,g,b⟩::os) e k Q=Op1 S (ZaT Zch ⟨.min2,ins,tk,outs,g,b⟩ e) os k Q:=Ops.step rfl
@[simp] def ZCi:Ops S (⟨.max2,ins,tk,outs,g,b⟩::os) e k Q=Op1 S (ZaT Zch ⟨.max2,ins,tk,outs,g,b⟩ e) os k Q:=Ops.step rfl
@[simp] def ZAf {n:Nat} {lo:Bool} {hi:Bool} {mx:Bool}:Ops S (⟨(.slice n lo hi mx),ins,tk,outs,g,b⟩::os) e k Q=Op1 S (ZaT Zch ⟨(.slice n lo hi mx),ins,tk,outs,g,b⟩ e) os k Q:=Ops.step rfl
@[simp] def ZyR {lo:Bool} {hi:Bool}:Ops S (⟨(.sliceS lo hi),ins,tk,outs,g,b⟩::os) e k Q=Op1 S (ZaT Zch ⟨(.sliceS lo hi),ins,tk,outs,g,b⟩ e) os k Q:=Ops.step rfl
@[simp] def Zxn {n:Nat}:Ops S (⟨(.extract n),ins,tk,outs,g,b⟩::os) e k Q=Op1 S (ZaT Zch ⟨(.extract n),ins,tk,outs,g,b⟩ e) os k Q:=Ops.step rfl
@[simp] def Zun {n:Nat} {m:Nat}:Ops S (⟨(.makeFunc n m),ins,tk,outs,g,b⟩::os) e k Q=Op1 S (ZaT Zch ⟨(.makeFunc n m),ins,tk,outs,g,b⟩ e) os k Q:=Ops.step rfl
@[simp] def Zs0 {n:Nat}:Ops S (⟨(.makeSlice n),ins,tk,outs,g,b⟩::os) e k Q=Op1 S (ZaT Zch ⟨(.makeSlice n),ins,tk,outs,g,b⟩ e) os k Q:=Ops.step rfl
@[simp] def Zff {n:Nat} {z:List P}:Ops S (⟨(.makeSliceZ n z),ins,tk,outs,g,b⟩::os) e k Q=Op1 S (ZaT Zch ⟨(.makeSliceZ n z),ins,tk,outs,g,b⟩ e) os k Q:=Ops.step rfl
@[simp] def ZxK {n:Nat}:Ops S (⟨(.sliceU n),ins,tk,outs,g,b⟩::os) e k Q=Op1 S (ZaT Zch ⟨(.sliceU n),ins,tk,outs,g,b⟩ e) os k Q:=Ops.step rfl
@[simp] def Zxj {n:Nat}:Ops S (⟨(.appendU n),ins,tk,outs,g,b⟩::os) e k Q=Op1 S (ZaT Zch ⟨(.appendU n),ins,tk,outs,g,b⟩ e) os k Q:=Ops.step rfl
end
def Zam {F:ZaQ} {X want:Bool} {o:SOp} {os:List SOp} (ht:X=true->Op1 S (Gd F (.a (.one (.p (.bool X)))) want o e) os k Q) (hf:X=false->Op1 S (Gd F (.a (.one (.p (.bool X)))) want o e) os k Q):
  Op1 S (Gd F (.a (.one (.p (.bool X)))) want o e) os k Q:=by
 cases X
 ·exact hf rfl
 ·exact ht rfl
def Zaf {X:Bool} {a b:SCode} (ht:X=true->Cd S X a b e k Q) (hf:X=false->Cd S X a b e k Q):Cd S X a b e k Q:=by
 cases X
 ·exact hf rfl
 ·exact ht rfl
def GdC (S:Nat->Option Fn) (d:D) (want:Bool) (o:SOp) (os:List SOp) (e:Env) (k:List Fr) (Q:X->Env->Prop):Prop:=match d with
 | .a (.one (.p (.bool b)))=>if b==want then Ops S ({o with guard:=none}::os) e k Q else Ops S os (ZdW o e) k Q
 | .tup []=>Ops S os (ZdW o e) k Q
 | _=>False
def ZgQ {o:SOp} {os:List SOp} {j:Nat} {t:Bool} (hg:o.guard=some (j,t)):Ops S (o::os) e k Q=GdC S (e.get j) t o os e k Q:=by
 have hd: ∀F,doOp F {o with guard:=none} e=doOp F o e:=fun F=>rfl;unfold GdC;refine propext ⟨fun ⟨n,e',h1,h2⟩=>?_,fun h=>?_⟩
 ·simp only [Zdo] at h1;split at h1
  ·rename_i e1 he;simp only [ZaT,hg] at he;split at he
   ·rename_i b hb;rw [hb];simp only;split at he
    ·rename_i hbw;rw [if_pos hbw];refine ⟨n,e',?_,h2⟩;simp only [Zdo,ZaT,hd,he];exact h1
    ·rename_i hbw;rw [if_neg hbw];cases he;exact ⟨n,e',h1,h2⟩
   ·rename_i hb;rw [hb];cases he;exact ⟨n,e',h1,h2⟩
   ·cases he
  ·cases h1
 ·split at h
  ·rename_i b hb;split at h
   ·rename_i hbw;obtain ⟨n,e',h1,h2⟩:=h;refine ⟨n,e',?_,h2⟩;simp only [Zdo,ZaT,hd] at h1;simp only [Zdo,ZaT,hg,hb];rw [if_pos hbw];exact h1
   ·rename_i hbw;obtain ⟨n,e',h1,h2⟩:=h;refine ⟨n,e',?_,h2⟩;simp only [Zdo,ZaT,hg,hb];rw [if_neg hbw];exact h1
  ·rename_i hb;obtain ⟨n,e',h1,h2⟩:=h;refine ⟨n,e',?_,h2⟩;simp only [Zdo,ZaT,hg,hb];exact h1
  ·exact h.elim
@[simp] def Zz8 {f na j:Nat} {pass b t:Bool} {own tk outs:List Nat} {ins:List Arg} {os:List SOp}:
 Ops S (⟨.call f pass own na,ins,tk,outs,some (j,t),b⟩::os) e k Q=GdC S (e.get j) t ⟨.call f pass own na,ins,tk,outs,none,b⟩ os e k Q:=ZgQ rfl
@[simp] def ZC8 {o:SOp} {os:List SOp}:GdC S (.a (.one (.p (.bool true)))) true o os e k Q=Ops S ({o with guard:=none}::os) e k Q:=rfl
@[simp] def ZDn {o:SOp} {os:List SOp}:GdC S (.a (.one (.p (.bool false)))) false o os e k Q=Ops S ({o with guard:=none}::os) e k Q:=rfl
@[simp] def ZC0 {o:SOp} {os:List SOp}:GdC S (.a (.one (.p (.bool true)))) false o os e k Q=Ops S os (ZdW o e) k Q:=rfl
@[simp] def ZDl {o:SOp} {os:List SOp}:GdC S (.a (.one (.p (.bool false)))) true o os e k Q=Ops S os (ZdW o e) k Q:=rfl
@[simp] def ZCT {o:SOp} {os:List SOp} {t:Bool}:GdC S (.tup []) t o os e k Q=Ops S os (ZdW o e) k Q:=rfl
def Zap {X want:Bool} {o:SOp} {os:List SOp} (ht:X=true->GdC S (.a (.one (.p (.bool X)))) want o os e k Q) (hf:X=false->GdC S (.a (.one (.p (.bool X)))) want o os e k Q):
  GdC S (.a (.one (.p (.bool X)))) want o os e k Q:=by
 cases X
 ·exact hf rfl
 ·exact ht rfl
attribute [simp] Ops.call K.creates List.filterMap_cons List.filterMap_nil
@[simp] def ZAp:Env.kills [] e=e:=rfl
@[simp] def Zyp {κ:Nat} {ks:List Nat}:Env.kills (κ::ks) e=Env.kills ks (e.kill κ):=rfl
@[simp] def ZAZ {κ:Nat}:Env.kill κ []=[]:=rfl
@[simp] def ZAb {κ j:Nat} {d:D}:Env.kill κ ((j,d)::e)=(j,if j==κ||d.ment κ then .undef else d)::Env.kill κ e:=rfl
@[simp] def ZyX {κ:Nat}:D.ment κ .undef=false:=rfl
@[simp] def ZC4 {κ:Nat} {x:A}:D.ment κ (.a x)=x.ment κ:=rfl
@[simp] def ZA3 {κ:Nat} {xs:List A}:D.ment κ (.tup xs)=xs.any (A.ment κ):=rfl
@[simp] def ZAe {κ:Nat} {os:List (List C)}:D.ment κ (.objs os)=os.any (fun cs=>cs.any (C.ment κ)):=rfl
@[simp] def ZB6 {κ:Nat} {c:C}:A.ment κ (.one c)=c.ment κ:=by simp [A.ment]
@[simp] def ZBq {κ:Nat} {cs:List C}:A.ment κ (.agg cs)=cs.any (C.ment κ):=rfl
@[simp] def ZCr {κ:Nat} {x:P}:C.ment κ (.p x)=false:=rfl
@[simp] def ZzM {κ s:Nat} {r:List (List P)}:C.ment κ (.tip s r)=false:=rfl
@[simp] def ZxH {κ o:Nat} {r:List P}:C.ment κ (.view r o)=false:=rfl
@[simp] def ZAm {κ:Nat}:C.ment κ .nilp=false:=rfl
@[simp] def ZAv {κ s:Nat} {r:List (List P)}:C.ment κ (.uniq s r)=false:=rfl
@[simp] def ZBy {κ s n:Nat} {r:R}:C.ment κ (.own r s n)=(r.own && r.k==κ):=rfl
@[simp] def ZzZ {κ:Nat} {r:R}:C.ment κ (.mptr r)=(r.own && r.k==κ):=rfl
@[simp] def ZBL {κ:Nat} {r:R} {es:List (P×P)}:C.ment κ (.map r es)=(r.own && r.k==κ):=rfl
@[simp] def ZA5 {κ n:Nat}:C.ment κ (.hdr n)=false:=rfl
@[simp] def ZzN {κ:Nat}:C.ment κ .junk=false:=rfl
@[simp] def ZBO {κ:Nat} {r:R}:C.ment κ (.ref r)=(r.own && r.k==κ):=rfl
@[simp] def ZBf {κ f:Nat} {x y:List R}:C.ment κ (.clo f x y)=(x.any (fun r=>r.own && r.k==κ)||y.any (fun r=>r.own && r.k==κ)):=rfl
@[simp] def ZzV {κ:Nat}:C.ment κ∘C.p=fun _=>false:=rfl
def ZFf {κ:Nat} {c:C} (h:c.clean=true):c.ment κ=false:=by
 cases c with
 | ref r=>simp [C.clean,C.ment] at h⊢;simp [h]
 | clo f x y=>
   simp only [C.clean,Yb,YK] at h;simp only [C.ment,Bool.or_eq_false_iff,List.any_eq_false];exact ⟨fun r hr=>by have:=h.1 r hr;simp at this;simp [this],fun r hr=>by have:=h.2 r hr;simp at this;simp [this]⟩
 | own r s n=>simp [C.clean,C.ment] at h⊢;simp [h]
 | mptr r=>simp [C.clean,C.ment] at h⊢;simp [h]
 | map r es=>simp [C.clean,C.ment] at h⊢;simp [h]
 | _=>rfl
def ZFz {κ:Nat} {os:List (List C)} (h:os.all (fun cs=>cs.all C.clean)=true):D.ment κ (.objs os)=false:=by
 simp only [D.ment,List.any_eq_false];intro cs hcs;rw [Bool.not_eq_true,List.any_eq_false];intro c hc;have:=List.all_eq_true.1 (List.all_eq_true.1 h cs hcs) c hc;simp [ZFf this]
def ZCG (S:Nat->Option Fn) (r:Option (List D)) (outs:List Nat) (e:Env) (os:List SOp) (k:List Fr) (Q:X->Env->Prop):Prop:= ∃ds,r=some ds/\Op1 S (e.sets outs ds) os k Q
@[simp] def ZB0 {ds:List D} {outs:List Nat} {os:List SOp}:ZCG S (some ds) outs e os k Q=Op1 S (e.sets outs ds) os k Q:=propext ⟨fun ⟨_,h,h2⟩=>by cases h;exact h2,fun h=>⟨_,rfl,h⟩⟩
@[simp] def ZCv {pass:Bool} {own outs:List Nat} {n m:Nat} {os:List SOp} {rs:List A} {objs:List (List C)}:Back S pass own n m outs e os k Q rs objs=ZCG S (ZfY pass own n m rs objs) outs e os k Q:=rfl
@[simp] def ZBc {x:A}:resD [x]= .a x:=rfl
@[simp] def ZA9 {x y:A} {l:List A}:resD (x::y::l)= .tup (x::y::l):=rfl
@[simp] def ZAR:resD []= .tup []:=rfl
@[simp] def Zz0 {φ:R->Option R}:ZlP φ []=some []:=rfl
@[simp] def ZxC {φ:R->Option R} {x:A} {l:List A}:ZlP φ (x::l)=(x.mapR φ).bind fun y=>(ZlP φ l).map (y:: ·):=by
 simp only [ZlP];cases x.mapR φ<;>cases ZlP φ l<;>rfl
@[simp] def ZzK {φ:R->Option R}:Zl9 φ []=some []:=rfl
@[simp] def Zxw {φ:R->Option R} {x:C} {l:List C}:Zl9 φ (x::l)=(x.mapR φ).bind fun y=>(Zl9 φ l).map (y:: ·):=by
 simp only [Zl9];cases x.mapR φ<;>cases Zl9 φ l<;>rfl
@[simp] def ZAr {φ:R->Option R}:Zmc φ []=some []:=rfl
@[simp] def ZyL {φ:R->Option R} {x:List C} {l:List (List C)}:Zmc φ (x::l)=(Zl9 φ x).bind fun y=>(Zmc φ l).map (y:: ·):=by
 simp only [Zmc];cases Zl9 φ x<;>cases Zmc φ l<;>rfl
@[simp] def A.mapR_one {φ:R->Option R} {c:C}:(A.one c).mapR φ=(c.mapR φ).map .one:=rfl
@[simp] def A.mapR_agg {φ:R->Option R} {cs:List C}:(A.agg cs).mapR φ=(Zl9 φ cs).map .agg:=rfl
@[simp] def C.mapR_p {φ:R->Option R} {x:P}:(C.p x).mapR φ=some (.p x):=rfl
@[simp] def C.mapR_tip {φ:R->Option R} {s:Nat} {r:List (List P)}:(C.tip s r).mapR φ=some (.tip s r):=rfl
@[simp] def C.mapR_uniq {φ:R->Option R} {s:Nat} {r:List (List P)}:(C.uniq s r).mapR φ=some (.uniq s r):=rfl
@[simp] def C.mapR_hdr {φ:R->Option R} {n:Nat}:(C.hdr n).mapR φ=some (.hdr n):=rfl
@[simp] def C.mapR_junk {φ:R->Option R}:C.junk.mapR φ=some .junk:=rfl
@[simp] def C.mapR_nilp {φ:R->Option R}:C.nilp.mapR φ=some .nilp:=rfl
@[simp] def C.mapR_view {φ:R->Option R} {r:List P} {o:Nat}:(C.view r o).mapR φ=some (.view r o):=rfl
@[simp] def C.mapR_ref {φ:R->Option R} {r:R}:(C.ref r).mapR φ=(φ r).map .ref:=rfl
@[simp] def C.mapR_clo0 {φ:R->Option R} {f:Nat}:(C.clo f [] []).mapR φ=some (.clo f [] []):=rfl
@[simp] def A.lone_one {c:C}:(A.one c).lone= .one c.lone:=rfl
@[simp] def A.lone_agg {cs:List C}:(A.agg cs).lone= .agg (cs.map C.lone):=rfl
@[simp] def C.lone_p {x:P}:(C.p x).lone= .p x:=rfl
@[simp] def C.lone_tip {s:Nat} {r:List (List P)}:(C.tip s r).lone= .tip s r:=rfl
@[simp] def C.lone_ref {r:R}:(C.ref r).lone= .ref r:=rfl
@[simp] def C.lone_own {r:R} {s n:Nat}:(C.own r s n).lone= .own r s n:=rfl
@[simp] def C.lone_uniq {s:Nat} {r:List (List P)}:(C.uniq s r).lone= .hdr r.length:=rfl
@[simp] def C.lone_mptr {r:R}:(C.mptr r).lone= .mptr r:=rfl
@[simp] def C.lone_map {r:R} {es:List (P×P)}:(C.map r es).lone= .mptr r:=rfl
@[simp] def C.lone_hdr {n:Nat}:(C.hdr n).lone= .hdr n:=rfl
@[simp] def C.lone_junk:C.junk.lone= .junk:=rfl
@[simp] def C.lone_nilp:C.nilp.lone= .nilp:=rfl
@[simp] def C.lone_view {r:List P} {o:Nat}:(C.view r o).lone= .view r o:=rfl
@[simp] def C.lone_clo {f:Nat} {x y:List R}:(C.clo f x y).lone= .clo f x y:=rfl
@[simp] def C.lone_comp:C.lone∘C.p=C.p:=rfl
@[simp] def ZAN:asOf []=some []:=rfl
@[simp] def ZzW {x:A} {l:List D}:asOf (.a x::l)=(asOf l).map (x:: ·):=rfl
@[simp] def Zxl:Zdf []=some []:=rfl
@[simp] def ZvK {cs:List C} {l:List D}:Zdf (.a (.agg cs)::l)=(Zdf l).map (cs:: ·):=rfl
@[simp] def ZwQ {l:List D}:ZcK false l=some ([],l):=rfl
@[simp] def Zw0 {os:List (List C)} {l:List D}:ZcK true (.objs os::l)=some (os,l):=rfl
def Zzc (own:List Nat) (xs:Option (List A)) (n:Nat) (os:Option (List (List C))):Option (List A×List (List C)×Nat):=match xs,os with
 | some xs,some os=>some (xs,os,n)
 | _,_=>none
@[simp] def ZBU {own:List Nat} {xs:List A} {n:Nat} {os:List (List C)}:Zzc own (some xs) n (some os)=some (xs,os,n):=rfl
def ZAA (own:List Nat) (args:Option (List A)) (sp:Option (List (List C)×List D)):Option (List A×List (List C)×Nat):=match args,sp with
 | some args,some (os,bs)=>match Zdf bs with
   | some cs=>Zzc own (ZlP (R.down (some os.length) own) (args.map A.lone)) os.length (Zmc (R.down (some os.length) own) ((os++cs).map fun l=>l.map C.lone))
   | none=>none
 | _,_=>none
def Zwf (own:List Nat) (args:List A) (os:List (List C)) (cs:Option (List (List C))):Option (List A×List (List C)×Nat):=match cs with
 | some cs=>Zzc own (ZlP (R.down (some os.length) own) (args.map A.lone)) os.length (Zmc (R.down (some os.length) own) ((os++cs).map fun l=>l.map C.lone))
 | none=>none
@[simp] def ZBb {own:List Nat} {args:List A} {os:List (List C)} {bs:List D}:ZAA own (some args) (some (os,bs))=Zwf own args os (Zdf bs):=by
 simp only [ZAA,Zwf]
@[simp] def ZAx {own:List Nat} {args:List A} {os cs:List (List C)}:Zwf own args os (some cs)=Zzc own (ZlP (R.down (some os.length) own) (args.map A.lone)) os.length (Zmc (R.down (some os.length) own) ((os++cs).map fun l=>l.map C.lone)):=rfl
@[simp] def ZCw {pass:Bool} {own:List Nat} {na:Nat} {xs:List D}:prep pass own na xs=ZAA own (asOf (xs.take na)) (ZcK pass (xs.drop na)):=by
 simp only [prep,ZAA,Zzc];cases asOf (xs.take na) with
 | none=>rfl
 | some args=>cases ZcK pass (xs.drop na) with
   | none=>rfl
   | some p=>
     obtain ⟨os,bs⟩:=p;simp only [];cases Zdf bs with
     | none=>rfl
     | some cs=>
       simp only [];cases ZlP (R.down (some os.length) own) (args.map A.lone) with
       | none=>rfl
       | some ys=>
         simp only [];generalize Zmc (R.down (some os.length) own) ((os++cs).map fun l=>l.map C.lone)=z;cases z<;>rfl
def cb2 (pass:Bool) (n:Nat) (rs:Option (List A)) (os:Option (List (List C))):Option (List D):=match rs,os with
 | some rs',some os₂=>some (resD rs'::((if pass then [.objs (os₂.take n)] else [])++(os₂.drop n).map fun cs=> .a (.agg cs)))
 | _,_=>none
@[simp] def ZDq {pass:Bool} {n:Nat} {rs:List A} {os:List (List C)}:cb2 pass n (some rs) (some os)=some (resD rs::((if pass then [.objs (os.take n)] else [])++(os.drop n).map fun cs=> .a (.agg cs))):=rfl
@[simp] def Zwn {pass:Bool} {own:List Nat} {n m:Nat} {rs:List A} {os:List (List C)}:ZfY pass own n m rs os=if os.length=m then cb2 pass n (ZlP (R.up (some n) own) rs) (Zmc (R.up (some n) own) os) else none:=by
 simp only [ZfY,cb2];split
 ·cases ZlP (R.up (some n) own) rs<;>cases Zmc (R.up (some n) own) os<;>rfl
 ·rfl
@[simp] def ZCQ {n k o:Nat} {own:List Nat}:R.down (some n) own ⟨false,k,o⟩=if k<n then some ⟨false,k,o⟩ else none:=rfl
def dnV (n o:Nat):Option Nat->Option R
 | some i=>some ⟨false,n+i,o⟩
 | none=>none
@[simp] def ZA6 {n o i:Nat}:dnV n o (some i)=some ⟨false,n+i,o⟩:=rfl
@[simp] def ZCO {n k o:Nat} {own:List Nat}:R.down (some n) own ⟨true,k,o⟩=dnV n o (own.idxOf? k):=by
 simp only [R.down,dnV,Option.getD_some];cases own.idxOf? k<;>rfl
@[simp] def ZDu {n k o:Nat} {own:List Nat}:R.up (some n) own ⟨false,k,o⟩=if k<n then some ⟨false,k,o⟩ else (own[k-n]?).map fun κ=>⟨true,κ,o⟩:=rfl
@[simp] def ZCy {a b:Nat}:Nat.blt a b=decide (a<b):=by rw [Bool.eq_iff_iff];simp [Nat.blt_eq]
@[simp] def ZyO {a b:Nat}:Nat.ble a b=decide (a<=b):=by rw [Bool.eq_iff_iff];simp [Nat.ble_eq]
@[simp] def ZCn {k:Nat}:ZrT k=(decide (k<9998)||decide (10000<=k)):=by simp [ZrT,Zu0,BOX]
@[simp] def ZAd {k j κ s:Nat}:doGh (.thaw k j κ s) e=if ZrT k && decide (10000<=κ) && k !=κ then Zpk k j κ s (e.kill κ) ((e.kill κ).get k) else e:=by simp [doGh,BOX]
@[simp] def ZzI {k j κ s:Nat}:doGh (.shut k j κ s) e=if ZrT k && decide (10000<=κ) && k !=κ then Zqs k j κ s e (e.get k) (e.get κ) else e:=by simp [doGh,BOX]
@[simp] def ZBr {k j:Nat}:doGh (.pub k j) e=if ZrT k then pubG k j e (e.get k) else e:=rfl
def Zq1 {k κ s:Nat} {rows:List (List P)} (h:0<rows.length) (hs:0<s):Zpk k 0 κ s e (.a (.one (.uniq s rows)))=(κ,.a (.agg (rows.flatten.map .p)))::(k,.a (.one (.own ⟨true,κ,0⟩ s rows.length)))::e:=by
 cases rows with
 | nil=>simp at h
 | cons r rows=>simp [Zpk,A.setCell,Env.set,hs]
@[simp] def ZAs {k κ s:Nat}:Zpk k 0 κ s e (.a (.one (.uniq s [])))=e:=rfl
@[simp] def Zz9 {k κ s s':Nat} {rows:List (List P)}:Zpk k 0 κ s e (.a (.one (.tip s' rows)))=e:=rfl
@[simp] def ZCN {k κ s:Nat} {x:P}:Zpk k 0 κ s e (.a (.one (.p x)))=e:=rfl
def ZBs (k κ s n:Nat) (e:Env):Option (List P)->Env
 | some ps=>(k,.a (.one (.uniq s (Zo0 s n ps))))::(κ,.undef)::e
 | none=>e
@[simp] def Zn2 {k κ s n:Nat} {ps:List P}:ZBs k κ s n e (some ps)=(k,.a (.one (.uniq s (Zo0 s n ps))))::(κ,.undef)::e:=rfl
def Zqk {k κ s n:Nat} {cs:List C} (h:n*s<=cs.length):Zqs k 0 κ s e (.a (.one (.own ⟨true,κ,0⟩ s n))) (.a (.agg cs))=ZBs k κ s n e (toPs (cs.take (n*s))):=by
 simp only [Zqs,A.cells,Yi,beq_self_eq_true,Bool.true_and,ZyO,h,decide_true,if_true,ZBs,A.setCell,Env.set];cases toPs (cs.take (n*s))<;>rfl
@[simp] def Zyl {k κ s s':Nat} {rows:List (List P)} {d:D}:Zqs k 0 κ s e (.a (.one (.uniq s' rows))) d=e:=by
 cases d with
 | a x=>cases x<;>rfl
 | _=>rfl
@[simp] def ZAc {k s:Nat} {rows:List (List P)}:pubG k 0 e (.a (.one (.uniq s rows)))=(k,.a (.one (.tip s rows)))::e:=rfl
@[simp] def ZBp {k s:Nat} {rows:List (List P)}:pubG k 0 e (.a (.one (.tip s rows)))=e:=rfl
@[simp] def ZDj {k:Nat} {x:P}:pubG k 0 e (.a (.one (.p x)))=e:=rfl
def ZmQ {α:Type} {l:List α} {f:α->P}:Zo0 1 l.length (l.map f)=l.map fun x=>[f x]:=by
 induction l with
 | nil=>rfl
 | cons x l ih=>simp [Zo0,ih]
def ZgC {α:Type} {l:List α} {j:Nat} (h:j<l.length):(l.drop j).take 1=[l[j]]:=by
 rw [qZ h];rfl
def Zux {α:Type} {l:List α} {f:α->P}:toPs (l.map fun x=>C.p (f x))=some (l.map f):=by
 have:(l.map fun x=>C.p (f x))=(l.map f).map C.p:=by simp
 rw [this,Zv9]
def Zro {α β:Type} {l:List α} {f:α->β}:(l.map fun x=>[f x]).flatten=l.map f:=by
 induction l with
 | nil=>rfl
 | cons x l ih=>simp [ih]
end Go.Am
end
