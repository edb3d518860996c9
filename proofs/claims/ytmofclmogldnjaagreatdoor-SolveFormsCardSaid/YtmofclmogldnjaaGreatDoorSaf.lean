/- Part. -/
import Derived.Test.YtmofclmogldnjaaGreatDoorSae
set_option maxRecDepth 999999
set_option maxHeartbeats 0
set_option linter.all false
section
namespace Go.Am
variable {S:Nat->Option Fn} {e:Env} {k:List Fr} {Q:X->Env->Prop}
def LvO (r:Option (List A×List (List C))) (Q:List A->List (List C)->Prop):Prop:= ∃rs os,r=some (rs,os)/\Q rs os
@[simp] def ZAc {rs:List A} {os:List (List C)} {Q:List A->List (List C)->Prop}:LvO (some (rs,os)) Q=Q rs os:=propext ⟨fun ⟨_,_,h,h2⟩=>by cases h;exact h2,fun h=>⟨_,_,rfl,h⟩⟩
def Fin (pl:List Bool) (res:List Res) (Q:List A->List (List C)->Prop):X->Env->Prop
 | .exit _,_=>False
 | _,e=>LvO (Zpi ⟨0,pl,res,.skip⟩ e) Q
@[simp] def ZvT {pl:List Bool} {res:List Res} {Q:List A->List (List C)->Prop}:Fin pl res Q .normal e=LvO (Zpi ⟨0,pl,res,.skip⟩ e) Q:=rfl
@[simp] def Zzd {pl:List Bool} {res:List Res} {Q:List A->List (List C)->Prop}:Fin pl res Q .ret e=LvO (Zpi ⟨0,pl,res,.skip⟩ e) Q:=rfl
def Gives.code {f:Nat} {F:SFunc} {args:List A} {os:List (List C)} {Q:List A->List (List C)->Prop} (hS:S f=some (.code F)) (hl:args.length=F.nargs)
  (h:Go S F.code (enter 0 args++[(OBJS,.objs os)]) [] (Fin F.pl F.res Q)):Gives S f args os Q:=by
 obtain ⟨n,x,e',h1,h2⟩:=h
 have h3:LvO (Zpi F e') Q/\(x= .normal∨x= .ret):=by
  cases x with
  | exit id=>exact h2.elim
  | normal=>exact ⟨h2,.inl rfl⟩
  | ret=>exact ⟨h2,.inr rfl⟩
 obtain ⟨⟨rs,os',h4,h5⟩,h6⟩:=h3
 refine ⟨n,rs,os',?_,h5⟩
 unfold call Zcy
 rw [hS]
 simp only [hl,if_true,h1]
 rcases h6 with rfl|rfl<;>exact h4
def Gives.mono {f:Nat} {args:List A} {os:List (List C)} {Q Q':List A->List (List C)->Prop} (h:Gives S f args os Q) (hq: ∀rs os,Q rs os->Q' rs os):Gives S f args os Q':=let ⟨n,rs,os',h1,h2⟩:=h;⟨n,rs,os',h1,hq _ _ h2⟩
@[simp] def Zv8 {k:Nat}:enter k []=[]:=rfl
@[simp] def Zvt {k:Nat} {x:A} {xs:List A}:enter k (x::xs)=(k,.a x)::enter (k+1) xs:=rfl
@[simp] def Zzz:OBJS=9999:=rfl
def ZuO (pl:List Bool) (rs:Option (List A)) (d:D):Option (List A×List (List C)):=match rs,d with
 | some rs,.objs os=>if rs.all A.clean && os.all (fun cs=>cs.all C.clean) then some (ZfY pl rs,os) else none
 | _,_=>none
@[simp] def Zwu {pl:List Bool} {rs:List A} {os:List (List C)}:ZuO pl (some rs) (.objs os)=if rs.all A.clean && os.all (fun cs=>cs.all C.clean) then some (ZfY pl rs,os) else none:=rfl
@[simp] def Zx9 {n:Nat} {pl:List Bool} {res:List Res} {c:SCode}:Zpi ⟨n,pl,res,c⟩ e=ZuO pl (Zk4 e res) (e.get 9999):=rfl
@[simp] def ZwI {xs:List A}:ZfY [] xs=xs:=by simp [ZfY]
@[simp] def ZuP {bs:List Bool}:ZfY bs []=[]:=by cases bs<;>rfl
@[simp] def ZyZ {bs:List Bool} {x:A} {xs:List A}:ZfY (true::bs) (x::xs)=x.plain::ZfY bs xs:=rfl
@[simp] def ZxT {bs:List Bool} {x:A} {xs:List A}:ZfY (false::bs) (x::xs)=x::ZfY bs xs:=rfl
@[simp] def ZwB:Zk4 e []=some []:=rfl
@[simp] def Zup {r:Res} {rs:List Res}:Zk4 e (r::rs)=(r.get e).bind fun x=>(Zk4 e rs).map (x:: ·):=by
 simp only [Zk4];cases r.get e<;>cases Zk4 e rs<;>rfl
def resV:D->Option A
 | .a x=>some x
 | _=>none
@[simp] def ZzT {x:A}:resV (.a x)=some x:=rfl
@[simp] def Zy2 {k:Nat}:(Res.tmp k).get e=resV (e.get k):=by
 simp only [Res.get];cases e.get k<;>rfl
def ZAe (κ:Nat) (n:Option Nat):D->D->Option A
 | .a (.one (.ref ⟨true,κ',0⟩)),.a (.agg cs)=>if κ'==κ then ZaZ n cs 0 else none
 | _,_=>none
@[simp] def A.clean_one {c:C}:A.clean (.one c)=c.clean:=by simp [A.clean]
@[simp] def A.clean_agg {cs:List C}:A.clean (.agg cs)=cs.all C.clean:=rfl
@[simp] def C.clean_p {x:P}:C.clean (.p x)=true:=rfl
@[simp] def C.clean_tip {s:Nat} {r:List (List P)}:C.clean (.tip s r)=true:=rfl
@[simp] def C.clean_view {r:List P} {o:Nat}:C.clean (.view r o)=true:=rfl
@[simp] def C.clean_ref {r:R}:C.clean (.ref r)= !r.own:=rfl
@[simp] def C.clean_clo {f:Nat} {x y:List R}:C.clean (.clo f x y)=(x.all (fun r=> !r.own) && y.all (fun r=> !r.own)):=rfl
@[simp] def C.clean_nilp:C.clean .nilp=true:=rfl
@[simp] def C.clean_uniq {s:Nat} {r:List (List P)}:C.clean (.uniq s r)=true:=rfl
@[simp] def C.clean_own {r:R} {s n:Nat}:C.clean (.own r s n)= !r.own:=rfl
@[simp] def C.clean_mptr {r:R}:C.clean (.mptr r)= !r.own:=rfl
@[simp] def C.clean_map {r:R} {es:List (P×P)}:C.clean (.map r es)= !r.own:=rfl
@[simp] def C.clean_hdr {n:Nat}:C.clean (.hdr n)=true:=rfl
@[simp] def C.clean_junk:C.clean .junk=true:=rfl
@[simp] def C.clean_comp:C.clean∘C.p=fun _=>true:=rfl
def Lp (S:Nat->Option Fn) (live:List Nat) (b:SCode) (e:Env) (k:List Fr) (Q:X->Env->Prop):Prop:=Ends S b e (after (Zlr S k Q) fun e'=>Ends S (.loop live b) e' (Zlr S k Q))
@[simp] def Go.loop {live:List Nat} {b:SCode}:Go S (.loop live b) e k Q=Lp S live b (e.norm live) k Q:=by
 refine propext ⟨fun ⟨n,x,e',h1,h2⟩=>?_,fun ⟨n,x,e',h1,h2⟩=>?_⟩
 · cases n with
   | zero=>simp [exec] at h1
   | succ n=>
     rw [exec] at h1
     split at h1
     · rename_i e1 he;exact ⟨n,.normal,e1,he,n,x,e',h1,h2⟩
     · rename_i q hq
       refine ⟨n,x,e',h1,?_⟩
       cases x with
       | normal=>exact absurd h1 (fun hh=>hq _ hh)
       | _=>exact h2
 · cases x with
   | normal=>
     obtain ⟨m,x2,e2,h3,h4⟩:=h2
     refine ⟨max n m+1,x2,e2,?_,h4⟩
     rw [exec,Zhk (Nat.le_max_left n m) h1]
     exact Zhk (Nat.le_max_right n m) h3
   | exit id=>exact ⟨n+1,.exit id,e',by rw [exec,h1],h2⟩
   | ret=>exact ⟨n+1,.ret,e',by rw [exec,h1],h2⟩
def Rd {α:Type} (live:List Nat) (st:α->Env) (Pr:α->Prop) (μ:α->Nat) (a:α) (e:Env):Prop:= ∃a',e.norm live=st a'/\Pr a'/\μ a'<μ a
def Lp.rule {live:List Nat} {b:SCode} {α:Type} (st:α->Env) (Pr:α->Prop) (μ:α->Nat) {a₀:α} (h0:e=st a₀) (hp:Pr a₀)
   (hr: ∀a,Pr a->Go S b (st a) (.inv (Rd live st Pr μ a)::k) Q):Lp S live b e k Q:=by
 have key: ∀n a,μ a=n->Pr a->Lp S live b (st a) k Q:=by
   intro n
   induction n using Nat.strongRecOn with
   | _ n ih=>
     intro a hn hP
     obtain ⟨m,x,e',h1,h2⟩:=hr a hP
     refine ⟨m,x,e',h1,?_⟩
     cases x with
     | normal=>
       obtain ⟨a',h3,h4,h5⟩:=h2
       have:=ih (μ a') Zo a' rfl h4
       show Go S (.loop live b) e' k Q
       rw [Go.loop,h3];exact this
     | exit id=>exact h2
     | ret=>exact h2
 rw [h0];exact key _ _ rfl hp
@[simp] def Zxk:Env.norm e []=[]:=rfl
@[simp] def ZwJ {j:Nat} {l:List Nat}:Env.norm e (j::l)=(j,e.get j)::Env.norm e l:=rfl
section
variable {ins:List Arg} {tk outs:List Nat} {g:Option (Nat×Bool)} {b:Bool} {os:List SOp}
@[simp] def Zzk:Ops S (⟨.mov,ins,tk,outs,g,b⟩::os) e k Q=Op1 S (Zar Zbg ⟨.mov,ins,tk,outs,g,b⟩ e) os k Q:=Ops.step rfl
@[simp] def ZyN:Ops S (⟨.pick,ins,tk,outs,g,b⟩::os) e k Q=Op1 S (Zar Zbg ⟨.pick,ins,tk,outs,g,b⟩ e) os k Q:=Ops.step rfl
@[simp] def Zwt {κ:Nat} {z:List C}:Ops S (⟨(.alloc κ z),ins,tk,outs,g,b⟩::os) e k Q=Op1 S (Zar Zbg ⟨(.alloc κ z),ins,tk,outs,g,b⟩ e) os k Q:=Ops.step rfl
@[simp] def Zzh {κ:Nat}:Ops S (⟨(.box κ),ins,tk,outs,g,b⟩::os) e k Q=Op1 S (Zar Zbg ⟨(.box κ),ins,tk,outs,g,b⟩ e) os k Q:=Ops.step rfl
@[simp] def ZvZ {z:List C} {offs:List (Nat×Nat)}:Ops S (⟨(.build z offs),ins,tk,outs,g,b⟩::os) e k Q=Op1 S (Zar Zbg ⟨(.build z offs),ins,tk,outs,g,b⟩ e) os k Q:=Ops.step rfl
@[simp] def ZyY {n:Option Nat}:Ops S (⟨(.load n),ins,tk,outs,g,b⟩::os) e k Q=Op1 S (Zar Zbg ⟨(.load n),ins,tk,outs,g,b⟩ e) os k Q:=Ops.step rfl
@[simp] def Zv9 {κ:Nat} {n:Option Nat}:Ops S (⟨(.loadB κ n),ins,tk,outs,g,b⟩::os) e k Q=Op1 S (Zar Zbg ⟨(.loadB κ n),ins,tk,outs,g,b⟩ e) os k Q:=Ops.step rfl
@[simp] def Zu0 {κ:Nat} {n:Option Nat}:Ops S (⟨(.loadBT κ n),ins,tk,outs,g,b⟩::os) e k Q=Op1 S (Zar Zbg ⟨(.loadBT κ n),ins,tk,outs,g,b⟩ e) os k Q:=Ops.step rfl
@[simp] def Zv0 {n:Option Nat}:Ops S (⟨(.loadO n),ins,tk,outs,g,b⟩::os) e k Q=Op1 S (Zar Zbg ⟨(.loadO n),ins,tk,outs,g,b⟩ e) os k Q:=Ops.step rfl
@[simp] def ZtQ {n:Option Nat}:Ops S (⟨(.loadOT n),ins,tk,outs,g,b⟩::os) e k Q=Op1 S (Zar Zbg ⟨(.loadOT n),ins,tk,outs,g,b⟩ e) os k Q:=Ops.step rfl
@[simp] def Zve {κ:Nat} {n:Nat}:Ops S (⟨(.storeB κ n),ins,tk,outs,g,b⟩::os) e k Q=Op1 S (Zar Zbg ⟨(.storeB κ n),ins,tk,outs,g,b⟩ e) os k Q:=Ops.step rfl
@[simp] def Zuz {n:Nat}:Ops S (⟨(.storeO n),ins,tk,outs,g,b⟩::os) e k Q=Op1 S (Zar Zbg ⟨(.storeO n),ins,tk,outs,g,b⟩ e) os k Q:=Ops.step rfl
@[simp] def Zrh {o:Nat}:Ops S (⟨(.fieldAddr o),ins,tk,outs,g,b⟩::os) e k Q=Op1 S (Zar Zbg ⟨(.fieldAddr o),ins,tk,outs,g,b⟩ e) os k Q:=Ops.step rfl
@[simp] def Zrj {n:Nat}:Ops S (⟨(.indexAddr n),ins,tk,outs,g,b⟩::os) e k Q=Op1 S (Zar Zbg ⟨(.indexAddr n),ins,tk,outs,g,b⟩ e) os k Q:=Ops.step rfl
@[simp] def Zuj:Ops S (⟨.indexS,ins,tk,outs,g,b⟩::os) e k Q=Op1 S (Zar Zbg ⟨.indexS,ins,tk,outs,g,b⟩ e) os k Q:=Ops.step rfl
@[simp] def ZzC {op:BinOp}:Ops S (⟨(.bin op),ins,tk,outs,g,b⟩::os) e k Q=Op1 S (Zar Zbg ⟨(.bin op),ins,tk,outs,g,b⟩ e) os k Q:=Ops.step rfl
@[simp] def ZxK {op:BinOp}:Ops S (⟨(.binB op),ins,tk,outs,g,b⟩::os) e k Q=Op1 S (Zar Zbg ⟨(.binB op),ins,tk,outs,g,b⟩ e) os k Q:=Ops.step rfl
@[simp] def Zzv:Ops S (⟨.not,ins,tk,outs,g,b⟩::os) e k Q=Op1 S (Zar Zbg ⟨.not,ins,tk,outs,g,b⟩ e) os k Q:=Ops.step rfl
@[simp] def Zw4 {ik:IntKind}:Ops S (⟨(.conv ik),ins,tk,outs,g,b⟩::os) e k Q=Op1 S (Zar Zbg ⟨(.conv ik),ins,tk,outs,g,b⟩ e) os k Q:=Ops.step rfl
@[simp] def ZqC {n:Nat}:Ops S (⟨(.buildSlice n),ins,tk,outs,g,b⟩::os) e k Q=Op1 S (Zar Zbg ⟨(.buildSlice n),ins,tk,outs,g,b⟩ e) os k Q:=Ops.step rfl
@[simp] def ZtS {n:Nat}:Ops S (⟨(.append n),ins,tk,outs,g,b⟩::os) e k Q=Op1 S (Zar Zbg ⟨(.append n),ins,tk,outs,g,b⟩ e) os k Q:=Ops.step rfl
@[simp] def Zzy:Ops S (⟨.len,ins,tk,outs,g,b⟩::os) e k Q=Op1 S (Zar Zbg ⟨.len,ins,tk,outs,g,b⟩ e) os k Q:=Ops.step rfl
@[simp] def Zyt:Ops S (⟨.lenS,ins,tk,outs,g,b⟩::os) e k Q=Op1 S (Zar Zbg ⟨.lenS,ins,tk,outs,g,b⟩ e) os k Q:=Ops.step rfl
@[simp] def ZxO:Ops S (⟨.min2,ins,tk,outs,g,b⟩::os) e k Q=Op1 S (Zar Zbg ⟨.min2,ins,tk,outs,g,b⟩ e) os k Q:=Ops.step rfl
@[simp] def Ztx {n:Nat}:Ops S (⟨(.extract n),ins,tk,outs,g,b⟩::os) e k Q=Op1 S (Zar Zbg ⟨(.extract n),ins,tk,outs,g,b⟩ e) os k Q:=Ops.step rfl
@[simp] def ZrO {n:Nat} {m:Nat}:Ops S (⟨(.makeFunc n m),ins,tk,outs,g,b⟩::os) e k Q=Op1 S (Zar Zbg ⟨(.makeFunc n m),ins,tk,outs,g,b⟩ e) os k Q:=Ops.step rfl
@[simp] def ZpB {n:Nat} {z:List P}:Ops S (⟨(.makeSliceZ n z),ins,tk,outs,g,b⟩::os) e k Q=Op1 S (Zar Zbg ⟨(.makeSliceZ n z),ins,tk,outs,g,b⟩ e) os k Q:=Ops.step rfl
@[simp] def Ztt {n:Nat}:Ops S (⟨(.appendU n),ins,tk,outs,g,b⟩::os) e k Q=Op1 S (Zar Zbg ⟨(.appendU n),ins,tk,outs,g,b⟩ e) os k Q:=Ops.step rfl
end
def Za4 {F:Zae} {X want:Bool} {o:SOp} {os:List SOp} (ht:X=true->Op1 S (Gd F (.a (.one (.p (.bool X)))) want o e) os k Q) (hf:X=false->Op1 S (Gd F (.a (.one (.p (.bool X)))) want o e) os k Q):
  Op1 S (Gd F (.a (.one (.p (.bool X)))) want o e) os k Q:=by
 cases X
 ·exact hf rfl
 ·exact ht rfl
def Za6 {X:Bool} {a b:SCode} (ht:X=true->Cd S X a b e k Q) (hf:X=false->Cd S X a b e k Q):Cd S X a b e k Q:=by
 cases X
 ·exact hf rfl
 ·exact ht rfl
def GdC (S:Nat->Option Fn) (d:D) (want:Bool) (o:SOp) (os:List SOp) (e:Env) (k:List Fr) (Q:X->Env->Prop):Prop:=match d with
 | .a (.one (.p (.bool b)))=>if b==want then Ops S ({o with guard:=none}::os) e k Q else Ops S os (Zb7 o e) k Q
 | .tup []=>Ops S os (Zb7 o e) k Q
 | _=>False
def Zqv {o:SOp} {os:List SOp} {j:Nat} {t:Bool} (hg:o.guard=some (j,t)):Ops S (o::os) e k Q=GdC S (e.get j) t o os e k Q:=by
 have hd: ∀F,doOp F {o with guard:=none} e=doOp F o e:=fun F=>rfl
 unfold GdC
 refine propext ⟨fun ⟨n,e',h1,h2⟩=>?_,fun h=>?_⟩
 ·simp only [Zbq] at h1
  split at h1
  ·rename_i e1 he
   simp only [Zar,hg] at he
   split at he
   ·rename_i b hb
    rw [hb]
    simp only
    split at he
    ·rename_i hbw
     rw [if_pos hbw]
     refine ⟨n,e',?_,h2⟩
     simp only [Zbq,Zar,hd,he];exact h1
    ·rename_i hbw
     rw [if_neg hbw]
     cases he
     exact ⟨n,e',h1,h2⟩
   ·rename_i hb
    rw [hb]
    cases he
    exact ⟨n,e',h1,h2⟩
   ·cases he
  ·cases h1
 ·split at h
  ·rename_i b hb
   split at h
   ·rename_i hbw
    obtain ⟨n,e',h1,h2⟩:=h
    refine ⟨n,e',?_,h2⟩
    simp only [Zbq,Zar,hd] at h1
    simp only [Zbq,Zar,hg,hb]
    rw [if_pos hbw]
    exact h1
   ·rename_i hbw
    obtain ⟨n,e',h1,h2⟩:=h
    refine ⟨n,e',?_,h2⟩
    simp only [Zbq,Zar,hg,hb]
    rw [if_neg hbw]
    exact h1
  ·rename_i hb
   obtain ⟨n,e',h1,h2⟩:=h
   refine ⟨n,e',?_,h2⟩
   simp only [Zbq,Zar,hg,hb]
   exact h1
  ·exact h.elim
@[simp] def Zws {f na j:Nat} {pass b t:Bool} {own tk outs:List Nat} {ins:List Arg} {os:List SOp}:
 Ops S (⟨.call f pass own na,ins,tk,outs,some (j,t),b⟩::os) e k Q=GdC S (e.get j) t ⟨.call f pass own na,ins,tk,outs,none,b⟩ os e k Q:=Zqv rfl
@[simp] def Zz2 {o:SOp} {os:List SOp}:GdC S (.a (.one (.p (.bool true)))) true o os e k Q=Ops S ({o with guard:=none}::os) e k Q:=rfl
@[simp] def ZAb {o:SOp} {os:List SOp}:GdC S (.a (.one (.p (.bool false)))) false o os e k Q=Ops S ({o with guard:=none}::os) e k Q:=rfl
@[simp] def ZzR {o:SOp} {os:List SOp}:GdC S (.a (.one (.p (.bool true)))) false o os e k Q=Ops S os (Zb7 o e) k Q:=rfl
@[simp] def ZzZ {o:SOp} {os:List SOp}:GdC S (.a (.one (.p (.bool false)))) true o os e k Q=Ops S os (Zb7 o e) k Q:=rfl
@[simp] def Zzq {o:SOp} {os:List SOp} {t:Bool}:GdC S (.tup []) t o os e k Q=Ops S os (Zb7 o e) k Q:=rfl
attribute [simp] Ops.call Ops.callU K.creates List.flatMap_cons List.flatMap_nil
@[simp] def Zwz:Env.kills [] e=e:=rfl
@[simp] def ZvS {κ:Nat} {ks:List Nat}:Env.kills (κ::ks) e=Env.kills ks (e.kill κ):=rfl
@[simp] def ZyU {κ:Nat}:Env.kill κ []=[]:=rfl
@[simp] def Zww {κ j:Nat} {d:D}:Env.kill κ ((j,d)::e)=(j,if j==κ||d.ment κ then .undef else d)::Env.kill κ e:=rfl
@[simp] def ZuU {κ:Nat}:D.ment κ .undef=false:=rfl
@[simp] def ZzU {κ:Nat} {x:A}:D.ment κ (.a x)=x.ment κ:=rfl
@[simp] def ZxL {κ:Nat} {xs:List A}:D.ment κ (.tup xs)=xs.any (A.ment κ):=rfl
@[simp] def Zwb {κ:Nat} {os:List (List C)}:D.ment κ (.objs os)=os.any (fun cs=>cs.any (C.ment κ)):=rfl
@[simp] def ZyF {κ:Nat} {c:C}:A.ment κ (.one c)=c.ment κ:=by simp [A.ment]
@[simp] def Zyx {κ:Nat} {cs:List C}:A.ment κ (.agg cs)=cs.any (C.ment κ):=rfl
@[simp] def Zzf {κ:Nat} {x:P}:C.ment κ (.p x)=false:=rfl
@[simp] def Zwv {κ s:Nat} {r:List (List P)}:C.ment κ (.tip s r)=false:=rfl
@[simp] def ZuT {κ o:Nat} {r:List P}:C.ment κ (.view r o)=false:=rfl
@[simp] def ZwL {κ:Nat}:C.ment κ .nilp=false:=rfl
@[simp] def Zv1 {κ s:Nat} {r:List (List P)}:C.ment κ (.uniq s r)=false:=rfl
@[simp] def ZxI {κ s n:Nat} {r:R}:C.ment κ (.own r s n)=(r.own && r.k==κ):=rfl
@[simp] def Zwr {κ:Nat} {r:R}:C.ment κ (.mptr r)=(r.own && r.k==κ):=rfl
@[simp] def ZyB {κ:Nat} {r:R} {es:List (P×P)}:C.ment κ (.map r es)=(r.own && r.k==κ):=rfl
@[simp] def ZyO {κ n:Nat}:C.ment κ (.hdr n)=false:=rfl
@[simp] def ZwG {κ:Nat}:C.ment κ .junk=false:=rfl
@[simp] def Zym {κ:Nat} {r:R}:C.ment κ (.ref r)=(r.own && r.k==κ):=rfl
@[simp] def ZyA {κ f:Nat} {x y:List R}:C.ment κ (.clo f x y)=(x.any (fun r=>r.own && r.k==κ)||y.any (fun r=>r.own && r.k==κ)):=rfl
@[simp] def Zwm {κ:Nat}:C.ment κ∘C.p=fun _=>false:=rfl
def ZzB (S:Nat->Option Fn) (r:Option (List D)) (outs:List Nat) (e:Env) (os:List SOp) (k:List Fr) (Q:X->Env->Prop):Prop:= ∃ds,r=some ds/\Op1 S (e.sets outs ds) os k Q
@[simp] def Zxy {ds:List D} {outs:List Nat} {os:List SOp}:ZzB S (some ds) outs e os k Q=Op1 S (e.sets outs ds) os k Q:=propext ⟨fun ⟨_,h,h2⟩=>by cases h;exact h2,fun h=>⟨_,rfl,h⟩⟩
@[simp] def Zy9 {pass:Bool} {own outs:List Nat} {n m:Nat} {os:List SOp} {rs:List A} {objs:List (List C)}:Back S pass own n m outs e os k Q rs objs=ZzB S (ZbX pass own n m rs objs) outs e os k Q:=rfl
@[simp] def ZxX {x:A}:resD [x]= .a x:=rfl
@[simp] def Zxh {x y:A} {l:List A}:resD (x::y::l)= .tup (x::y::l):=rfl
@[simp] def ZyC:resD []= .tup []:=rfl
@[simp] def Zwx {φ:R->Option R}:Ze7 φ []=some []:=rfl
@[simp] def Zt0 {φ:R->Option R} {x:A} {l:List A}:Ze7 φ (x::l)=(x.mapR φ).bind fun y=>(Ze7 φ l).map (y:: ·):=by
 simp only [Ze7];cases x.mapR φ<;>cases Ze7 φ l<;>rfl
@[simp] def ZvX {φ:R->Option R}:Zgf φ []=some []:=rfl
@[simp] def ZtO {φ:R->Option R} {x:C} {l:List C}:Zgf φ (x::l)=(x.mapR φ).bind fun y=>(Zgf φ l).map (y:: ·):=by
 simp only [Zgf];cases x.mapR φ<;>cases Zgf φ l<;>rfl
@[simp] def ZvY {φ:R->Option R}:ZgR φ []=some []:=rfl
@[simp] def Zuo {φ:R->Option R} {x:List C} {l:List (List C)}:ZgR φ (x::l)=(Zgf φ x).bind fun y=>(ZgR φ l).map (y:: ·):=by
 simp only [ZgR];cases Zgf φ x<;>cases ZgR φ l<;>rfl
@[simp] def A.mapR_one {φ:R->Option R} {c:C}:(A.one c).mapR φ=(c.mapR φ).map .one:=rfl
@[simp] def A.mapR_agg {φ:R->Option R} {cs:List C}:(A.agg cs).mapR φ=(Zgf φ cs).map .agg:=rfl
@[simp] def C.mapR_p {φ:R->Option R} {x:P}:(C.p x).mapR φ=some (.p x):=rfl
@[simp] def C.mapR_tip {φ:R->Option R} {s:Nat} {r:List (List P)}:(C.tip s r).mapR φ=some (.tip s r):=rfl
@[simp] def C.mapR_uniq {φ:R->Option R} {s:Nat} {r:List (List P)}:(C.uniq s r).mapR φ=some (.uniq s r):=rfl
@[simp] def C.mapR_hdr {φ:R->Option R} {n:Nat}:(C.hdr n).mapR φ=some (.hdr n):=rfl
@[simp] def C.mapR_junk {φ:R->Option R}:C.junk.mapR φ=some .junk:=rfl
@[simp] def C.mapR_nilp {φ:R->Option R}:C.nilp.mapR φ=some .nilp:=rfl
@[simp] def C.mapR_view {φ:R->Option R} {r:List P} {o:Nat}:(C.view r o).mapR φ=some (.view r o):=rfl
@[simp] def C.mapR_ref {φ:R->Option R} {r:R}:(C.ref r).mapR φ=(φ r).map .ref:=rfl
@[simp] def C.mapR_clo0 {φ:R->Option R} {f:Nat}:(C.clo f [] []).mapR φ=some (.clo f [] []):=rfl
@[simp] def A.lone_one {c:C}:(A.one c).lone= .one c.lone:=rfl
@[simp] def A.lone_agg {cs:List C}:(A.agg cs).lone= .agg (cs.map C.lone):=rfl
@[simp] def C.lone_p {x:P}:(C.p x).lone= .p x:=rfl
@[simp] def C.lone_tip {s:Nat} {r:List (List P)}:(C.tip s r).lone= .tip s r:=rfl
@[simp] def C.lone_ref {r:R}:(C.ref r).lone= .ref r:=rfl
@[simp] def C.lone_own {r:R} {s n:Nat}:(C.own r s n).lone= .own r s n:=rfl
@[simp] def C.lone_uniq {s:Nat} {r:List (List P)}:(C.uniq s r).lone= .hdr r.length:=rfl
@[simp] def C.lone_mptr {r:R}:(C.mptr r).lone= .mptr r:=rfl
@[simp] def C.lone_map {r:R} {es:List (P×P)}:(C.map r es).lone= .mptr r:=rfl
@[simp] def C.lone_hdr {n:Nat}:(C.hdr n).lone= .hdr n:=rfl
@[simp] def C.lone_junk:C.junk.lone= .junk:=rfl
@[simp] def C.lone_nilp:C.nilp.lone= .nilp:=rfl
@[simp] def C.lone_view {r:List P} {o:Nat}:(C.view r o).lone= .view r o:=rfl
@[simp] def C.lone_clo {f:Nat} {x y:List R}:(C.clo f x y).lone= .clo f x y:=rfl
@[simp] def C.lone_comp:C.lone∘C.p=C.p:=rfl
@[simp] def A.part_one {c:C}:(A.one c).part= .one c.part:=rfl
@[simp] def A.part_agg {cs:List C}:(A.agg cs).part= .agg (cs.map C.part):=rfl
@[simp] def C.part_p {x:P}:(C.p x).part= .p x:=rfl
@[simp] def C.part_tip {s:Nat} {r:List (List P)}:(C.tip s r).part= .tip s r:=rfl
@[simp] def C.part_ref {r:R}:(C.ref r).part= .ref r:=rfl
@[simp] def C.part_own {r:R} {s n:Nat}:(C.own r s n).part= .own r s n:=rfl
@[simp] def C.part_uniq {s:Nat} {r:List (List P)}:(C.uniq s r).part= .uniq s r:=rfl
@[simp] def C.part_mptr {r:R}:(C.mptr r).part= .mptr r:=rfl
@[simp] def C.part_map {r:R} {es:List (P×P)}:(C.map r es).part= .mptr r:=rfl
@[simp] def C.part_hdr {n:Nat}:(C.hdr n).part= .hdr n:=rfl
@[simp] def C.part_junk:C.junk.part= .junk:=rfl
@[simp] def C.part_nilp:C.nilp.part= .nilp:=rfl
@[simp] def C.part_view {r:List P} {o:Nat}:(C.view r o).part= .view r o:=rfl
@[simp] def C.part_clo {f:Nat} {x y:List R}:(C.clo f x y).part= .clo f x y:=rfl
@[simp] def C.part_comp:C.part∘C.p=C.p:=rfl
@[simp] def Zw1:asOf []=some []:=rfl
@[simp] def Zwo {x:A} {l:List D}:asOf (.a x::l)=(asOf l).map (x:: ·):=rfl
@[simp] def Zty:Zbd []=some []:=rfl
@[simp] def ZrC {cs:List C} {l:List D}:Zbd (.a (.agg cs)::l)=(Zbd l).map (cs:: ·):=rfl
@[simp] def Zr2 {l:List D}:ZaW false l=some ([],l):=rfl
@[simp] def ZrE {os:List (List C)} {l:List D}:ZaW true (.objs os::l)=some (os,l):=rfl
def Zvy (own:List Nat) (xs:Option (List A)) (n:Nat) (os:Option (List (List C))):Option (List A×List (List C)×Nat):=match xs,os with
 | some xs,some os=>some (xs,os,n)
 | _,_=>none
@[simp] def ZyX {own:List Nat} {xs:List A} {n:Nat} {os:List (List C)}:Zvy own (some xs) n (some os)=some (xs,os,n):=rfl
def Zsp (own:List Nat) (args:Option (List A)) (sp:Option (List (List C)×List D)):Option (List A×List (List C)×Nat):=match args,sp with
 | some args,some (os,bs)=>match Zbd bs with
   | some cs=>Zvy own (Ze7 (R.down (some os.length) own) (args.map A.part)) os.length (ZgR (R.down (some os.length) own) ((os++cs).map fun l=>l.map C.part))
   | none=>none
 | _,_=>none
def ZrT (own:List Nat) (args:List A) (os:List (List C)) (cs:Option (List (List C))):Option (List A×List (List C)×Nat):=match cs with
 | some cs=>Zvy own (Ze7 (R.down (some os.length) own) (args.map A.part)) os.length (ZgR (R.down (some os.length) own) ((os++cs).map fun l=>l.map C.part))
 | none=>none
@[simp] def Zyy {own:List Nat} {args:List A} {os:List (List C)} {bs:List D}:Zsp own (some args) (some (os,bs))=ZrT own args os (Zbd bs):=by
 simp only [Zsp,ZrT]
@[simp] def Zwi {own:List Nat} {args:List A} {os cs:List (List C)}:ZrT own args os (some cs)=Zvy own (Ze7 (R.down (some os.length) own) (args.map A.part)) os.length (ZgR (R.down (some os.length) own) ((os++cs).map fun l=>l.map C.part)):=rfl
@[simp] def Zvr {pass:Bool} {own:List Nat} {na:Nat} {xs:List D}:prep pass own na xs=Zsp own (asOf (xs.take na)) (ZaW pass (xs.drop na)):=by
 simp only [prep,Zsp,Zvy]
 cases asOf (xs.take na) with
 | none=>rfl
 | some args=>cases ZaW pass (xs.drop na) with
   | none=>rfl
   | some p=>
     obtain ⟨os,bs⟩:=p
     simp only []
     cases Zbd bs with
     | none=>rfl
     | some cs=>
       simp only []
       cases Ze7 (R.down (some os.length) own) (args.map A.part) with
       | none=>rfl
       | some ys=>
         simp only []
         generalize ZgR (R.down (some os.length) own) ((os++cs).map fun l=>l.map C.part)=z
         cases z<;>rfl
def cb2 (pass:Bool) (n:Nat) (rs:Option (List A)) (os:Option (List (List C))):Option (List D):=match rs,os with
 | some rs',some os₂=>some (resD rs'::((if pass then [.objs (os₂.take n)] else [])++(os₂.drop n).map fun cs=> .a (.agg cs)))
 | _,_=>none
@[simp] def ZzD {pass:Bool} {n:Nat} {rs:List A} {os:List (List C)}:cb2 pass n (some rs) (some os)=some (resD rs::((if pass then [.objs (os.take n)] else [])++(os.drop n).map fun cs=> .a (.agg cs))):=rfl
@[simp] def Ztz {pass:Bool} {own:List Nat} {n m:Nat} {rs:List A} {os:List (List C)}:ZbX pass own n m rs os=if os.length=m then cb2 pass n (Ze7 (R.up (some n) own) rs) (ZgR (R.up (some n) own) os) else none:=by
 simp only [ZbX,cb2];split
 ·cases Ze7 (R.up (some n) own) rs<;>cases ZgR (R.up (some n) own) os<;>rfl
 ·rfl
@[simp] def Zy0 {n k o:Nat} {own:List Nat}:R.down (some n) own ⟨false,k,o⟩=if k<n then some ⟨false,k,o⟩ else none:=rfl
def dnV (n o:Nat):Option Nat->Option R
 | some i=>some ⟨false,n+i,o⟩
 | none=>none
@[simp] def Zw9 {n o i:Nat}:dnV n o (some i)=some ⟨false,n+i,o⟩:=rfl
@[simp] def Zzb {n k o:Nat} {own:List Nat}:R.down (some n) own ⟨true,k,o⟩=dnV n o (own.idxOf? k):=by
 simp only [R.down,dnV,Option.getD_some];cases own.idxOf? k<;>rfl
@[simp] def ZAd {n k o:Nat} {own:List Nat}:R.up (some n) own ⟨false,k,o⟩=if k<n then some ⟨false,k,o⟩ else (own[k-n]?).map fun κ=>⟨true,κ,o⟩:=rfl
@[simp] def Zza {a b:Nat}:Nat.blt a b=decide (a<b):=by rw [Bool.eq_iff_iff];simp [Nat.blt_eq]
@[simp] def Zvz {a b:Nat}:Nat.ble a b=decide (a<=b):=by rw [Bool.eq_iff_iff];simp [Nat.ble_eq]
@[simp] def ZwW {k:Nat}:Znd k=(decide (k<9998)||decide (10000<=k)):=by simp [Znd,Zql,BOX]
@[simp] def ZwH {k j κ s:Nat}:doGh (.thaw k j κ s) e=if Znd k && decide (10000<=κ) && k !=κ then Zqi k j κ s (e.kill κ) ((e.kill κ).get k) else e:=by simp [doGh,BOX]
@[simp] def ZwA {k j κ s:Nat}:doGh (.shut k j κ s) e=if Znd k && decide (10000<=κ) && k !=κ then Zq7 k j κ s e (e.get k) (e.get κ) else e:=by simp [doGh,BOX]
@[simp] def Zxm {k j:Nat}:doGh (.pub k j) e=if Znd k then pubG k j e (e.get k) else e:=rfl
def Zqg {k κ s:Nat} {rows:List (List P)} (h:0<rows.length) (hs:0<s):Zqi k 0 κ s e (.a (.one (.uniq s rows)))=(κ,.a (.agg (rows.flatten.map .p)))::(k,.a (.one (.own ⟨true,κ,0⟩ s rows.length)))::e:=by
 cases rows with
 | nil=>simp at h
 | cons r rows=>simp [Zqi,A.setCell,Env.set,hs]
@[simp] def Zv4 {k κ s:Nat}:Zqi k 0 κ s e (.a (.one (.uniq s [])))=e:=rfl
@[simp] def Zwd {k κ s s':Nat} {rows:List (List P)}:Zqi k 0 κ s e (.a (.one (.tip s' rows)))=e:=rfl
@[simp] def Zzj {k κ s:Nat} {x:P}:Zqi k 0 κ s e (.a (.one (.p x)))=e:=rfl
def ZxE (k κ s n:Nat) (e:Env):Option (List P)->Env
 | some ps=>(k,.a (.one (.uniq s (Znf s n ps))))::(κ,.undef)::e
 | none=>e
@[simp] def Zn4 {k κ s n:Nat} {ps:List P}:ZxE k κ s n e (some ps)=(k,.a (.one (.uniq s (Znf s n ps))))::(κ,.undef)::e:=rfl
def ZpN {k κ s n:Nat} {cs:List C} (h:n*s<=cs.length):Zq7 k 0 κ s e (.a (.one (.own ⟨true,κ,0⟩ s n))) (.a (.agg cs))=ZxE k κ s n e (toPs (cs.take (n*s))):=by
 simp only [Zq7,A.cells,Yi,beq_self_eq_true,Bool.true_and,Zvz,h,decide_true,if_true,ZxE,A.setCell,Env.set]
 cases toPs (cs.take (n*s))<;>rfl
@[simp] def Zv6 {k s:Nat} {rows:List (List P)}:pubG k 0 e (.a (.one (.uniq s rows)))=(k,.a (.one (.tip s rows)))::e:=rfl
@[simp] def ZxR {k s:Nat} {rows:List (List P)}:pubG k 0 e (.a (.one (.tip s rows)))=e:=rfl
@[simp] def ZzM {k:Nat} {x:P}:pubG k 0 e (.a (.one (.p x)))=e:=rfl
end Go.Am
end
