/- Part. -/
import Derived.Test.YtnnimjficnjbdaaGreatDoorOad
set_option maxRecDepth 999999
set_option maxHeartbeats 0
set_option linter.all false
section
namespace Go.Am
variable {S:Nat->Option Fn} {e:Env} {k:List Fr} {Q:X->Env->Prop}
def LvO (r:Option (List A×List (List C))) (Q:List A->List (List C)->Prop):Prop:= ∃rs os,r=some (rs,os)/\Q rs os
@[simp] theorem ZC6 {rs:List A} {os:List (List C)} {Q:List A->List (List C)->Prop}:LvO (some (rs,os)) Q=Q rs os:=propext ⟨fun ⟨_,_,h,h2⟩=>by cases h;exact h2,fun h=>⟨_,_,rfl,h⟩⟩
def Fin (pl:List Bool) (res:List Res) (Q:List A->List (List C)->Prop):X->Env->Prop
 | .exit _,_=>False
 | _,e=>LvO (ZrS ⟨0,pl,res,.skip⟩ e) Q
@[simp] theorem Zzs {pl:List Bool} {res:List Res} {Q:List A->List (List C)->Prop}:Fin pl res Q .normal e=LvO (ZrS ⟨0,pl,res,.skip⟩ e) Q:=rfl
@[simp] theorem ZCo {pl:List Bool} {res:List Res} {Q:List A->List (List C)->Prop}:Fin pl res Q .ret e=LvO (ZrS ⟨0,pl,res,.skip⟩ e) Q:=rfl
theorem Gives.code {f:Nat} {F:SFunc} {args:List A} {os:List (List C)} {Q:List A->List (List C)->Prop} (hS:S f=some (.code F)) (hl:args.length=F.nargs)
  (h:Go S F.code (enter 0 args++[(OBJS,.objs os)]) [] (Fin F.pl F.res Q)):Gives S f args os Q:=by
 obtain ⟨n,x,e',h1,h2⟩:=h
 have h3:LvO (ZrS F e') Q/\(x= .normal∨x= .ret):=by
  cases x with
  | exit id=>exact h2.elim
  | normal=>exact ⟨h2,.inl rfl⟩
  | ret=>exact ⟨h2,.inr rfl⟩
 obtain ⟨⟨rs,os',h4,h5⟩,h6⟩:=h3
 refine ⟨n,rs,os',?_,h5⟩
 unfold call Zja
 rw [hS]
 simp only [hl,if_true,h1]
 rcases h6 with rfl|rfl<;>exact h4
theorem Gives.mono {f:Nat} {args:List A} {os:List (List C)} {Q Q':List A->List (List C)->Prop} (h:Gives S f args os Q) (hq: ∀rs os,Q rs os->Q' rs os):Gives S f args os Q':=let ⟨n,rs,os',h1,h2⟩:=h;⟨n,rs,os',h1,hq _ _ h2⟩
@[simp] theorem ZzL {k:Nat}:enter k []=[]:=rfl
@[simp] theorem ZxY {k:Nat} {x:A} {xs:List A}:enter k (x::xs)=(k,.a x)::enter (k+1) xs:=rfl
@[simp] theorem ZCM:OBJS=9999:=rfl
def Zyj (pl:List Bool) (rs:Option (List A)) (d:D):Option (List A×List (List C)):=match rs,d with
 | some rs,.objs os=>if rs.all A.clean && os.all (fun cs=>cs.all C.clean) then some (Zks pl rs,os) else none
 | _,_=>none
@[simp] theorem ZzT {pl:List Bool} {rs:List A} {os:List (List C)}:Zyj pl (some rs) (.objs os)=if rs.all A.clean && os.all (fun cs=>cs.all C.clean) then some (Zks pl rs,os) else none:=rfl
@[simp] theorem ZCg {n:Nat} {pl:List Bool} {res:List Res} {c:SCode}:ZrS ⟨n,pl,res,c⟩ e=Zyj pl (ZpM e res) (e.get 9999):=rfl
@[simp] theorem ZzF {xs:List A}:Zks [] xs=xs:=by simp [Zks]
@[simp] theorem Zyk {bs:List Bool}:Zks bs []=[]:=by cases bs<;>rfl
@[simp] theorem ZCm {bs:List Bool} {x:A} {xs:List A}:Zks (true::bs) (x::xs)=x.plain::Zks bs xs:=rfl
@[simp] theorem ZBi {bs:List Bool} {x:A} {xs:List A}:Zks (false::bs) (x::xs)=x::Zks bs xs:=rfl
@[simp] theorem Zz7:ZpM e []=some []:=rfl
@[simp] theorem ZyQ {r:Res} {rs:List Res}:ZpM e (r::rs)=(r.get e).bind fun x=>(ZpM e rs).map (x:: ·):=by
 simp only [ZpM];cases r.get e<;>cases ZpM e rs<;>rfl
def resV:D->Option A
 | .a x=>some x
 | _=>none
@[simp] theorem ZDm {x:A}:resV (.a x)=some x:=rfl
@[simp] theorem ZCq {k:Nat}:(Res.tmp k).get e=resV (e.get k):=by
 simp only [Res.get];cases e.get k<;>rfl
def ZBj (κ:Nat) (n:Option Nat):D->D->Option A
 | .a (.one (.ref ⟨true,κ',0⟩)),.a (.agg cs)=>if κ'==κ then ZbK n cs 0 else none
 | _,_=>none
@[simp] theorem A.clean_one {c:C}:A.clean (.one c)=c.clean:=by simp [A.clean]
@[simp] theorem A.clean_agg {cs:List C}:A.clean (.agg cs)=cs.all C.clean:=rfl
@[simp] theorem C.clean_p {x:P}:C.clean (.p x)=true:=rfl
@[simp] theorem C.clean_tip {s:Nat} {r:List (List P)}:C.clean (.tip s r)=true:=rfl
@[simp] theorem C.clean_view {r:List P} {o:Nat}:C.clean (.view r o)=true:=rfl
@[simp] theorem C.clean_ref {r:R}:C.clean (.ref r)= !r.own:=rfl
@[simp] theorem C.clean_clo {f:Nat} {x y:List R}:C.clean (.clo f x y)=(x.all (fun r=> !r.own) && y.all (fun r=> !r.own)):=rfl
@[simp] theorem C.clean_nilp:C.clean .nilp=true:=rfl
@[simp] theorem C.clean_bytes {e:Nat} {t:List Nat}:C.clean (.bytes e t)=true:=rfl
@[simp] theorem C.clean_mapc {es:List (MV×MV)}:C.clean (.mapc es)=true:=rfl
@[simp] theorem C.clean_mapl {es:List (Int×MV)}:C.clean (.mapl es)=true:=rfl
@[simp] theorem C.clean_uniq {s:Nat} {r:List (List P)}:C.clean (.uniq s r)=true:=rfl
@[simp] theorem C.clean_own {r:R} {s n:Nat}:C.clean (.own r s n)= !r.own:=rfl
@[simp] theorem C.clean_mptr {r:R}:C.clean (.mptr r)= !r.own:=rfl
@[simp] theorem C.clean_closs {f:Nat} {r:R}:C.clean (.closs f r)= !r.own:=rfl
@[simp] theorem C.clean_map {r:R} {es:List (P×P)}:C.clean (.map r es)= !r.own:=rfl
@[simp] theorem C.clean_hdr {n:Nat}:C.clean (.hdr n)=true:=rfl
@[simp] theorem C.clean_junk:C.clean .junk=true:=rfl
@[simp] theorem C.clean_comp:C.clean∘C.p=fun _=>true:=rfl
def Lp (S:Nat->Option Fn) (live:List Nat) (b:SCode) (e:Env) (k:List Fr) (Q:X->Env->Prop):Prop:=Ends S b e (after (ZqD S k Q) fun e'=>Ends S (.loop live b) e' (ZqD S k Q))
@[simp] theorem Go.loop {live:List Nat} {b:SCode}:Go S (.loop live b) e k Q=Lp S live b (e.norm live) k Q:=by
 refine propext ⟨fun ⟨n,x,e',h1,h2⟩=>?_,fun ⟨n,x,e',h1,h2⟩=>?_⟩
 · cases n with
   | zero=>simp [exec] at h1
   | succ n=>
     rw [exec] at h1
     split at h1
     · rename_i e1 he;exact ⟨n,.normal,e1,he,n,x,e',h1,h2⟩
     · rename_i q hq
       refine ⟨n,x,e',h1,?_⟩
       cases x with
       | normal=>exact absurd h1 (fun hh=>hq _ hh)
       | _=>exact h2
 · cases x with
   | normal=>
     obtain ⟨m,x2,e2,h3,h4⟩:=h2
     refine ⟨max n m+1,x2,e2,?_,h4⟩
     rw [exec,Zi1 (Nat.le_max_left n m) h1]
     exact Zi1 (Nat.le_max_right n m) h3
   | exit id=>exact ⟨n+1,.exit id,e',by rw [exec,h1],h2⟩
   | ret=>exact ⟨n+1,.ret,e',by rw [exec,h1],h2⟩
def Rd {α:Type} (live:List Nat) (st:α->Env) (Pr:α->Prop) (μ:α->Nat) (a:α) (e:Env):Prop:= ∃a',e.norm live=st a'/\Pr a'/\μ a'<μ a
theorem Lp.rule {live:List Nat} {b:SCode} {α:Type} (st:α->Env) (Pr:α->Prop) (μ:α->Nat) {a₀:α} (h0:e=st a₀) (hp:Pr a₀)
   (hr: ∀a,Pr a->Go S b (st a) (.inv (Rd live st Pr μ a)::k) Q):Lp S live b e k Q:=by
 have key: ∀n a,μ a=n->Pr a->Lp S live b (st a) k Q:=by
   intro n
   induction n using Nat.strongRecOn with
   | _ n ih=>
     intro a hn hP
     obtain ⟨m,x,e',h1,h2⟩:=hr a hP
     refine ⟨m,x,e',h1,?_⟩
     cases x with
     | normal=>
       obtain ⟨a',h3,h4,h5⟩:=h2
       have:=ih (μ a') Zo a' rfl h4
       show Go S (.loop live b) e' k Q
       rw [Go.loop,h3];exact this
     | exit id=>exact h2
     | ret=>exact h2
 rw [h0];exact key _ _ rfl hp
@[simp] theorem ZAV:Env.norm e []=[]:=rfl
@[simp] theorem ZAB {j:Nat} {l:List Nat}:Env.norm e (j::l)=(j,e.get j)::Env.norm e l:=rfl
section
variable {ins:List Arg} {tk outs:List Nat} {g:Option (Nat×Bool)} {b:Bool} {os:List SOp}
@[simp] theorem ZCP:Ops S (⟨.mov,ins,tk,outs,g,b⟩::os) e k Q=Op1 S (ZaT Zch ⟨.mov,ins,tk,outs,g,b⟩ e) os k Q:=Ops.step rfl
@[simp] theorem ZCl:Ops S (⟨.pick,ins,tk,outs,g,b⟩::os) e k Q=Op1 S (ZaT Zch ⟨.pick,ins,tk,outs,g,b⟩ e) os k Q:=Ops.step rfl
@[simp] theorem ZCL {κ:Nat}:Ops S (⟨(.box κ),ins,tk,outs,g,b⟩::os) e k Q=Op1 S (ZaT Zch ⟨(.box κ),ins,tk,outs,g,b⟩ e) os k Q:=Ops.step rfl
@[simp] theorem ZAG {n:Option Nat}:Ops S (⟨(.load n),ins,tk,outs,g,b⟩::os) e k Q=Op1 S (ZaT Zch ⟨(.load n),ins,tk,outs,g,b⟩ e) os k Q:=Ops.step rfl
@[simp] theorem ZAF {κ:Nat} {n:Option Nat}:Ops S (⟨(.loadB κ n),ins,tk,outs,g,b⟩::os) e k Q=Op1 S (ZaT Zch ⟨(.loadB κ n),ins,tk,outs,g,b⟩ e) os k Q:=Ops.step rfl
@[simp] theorem ZxS {κ:Nat} {n:Nat}:Ops S (⟨(.storeB κ n),ins,tk,outs,g,b⟩::os) e k Q=Op1 S (ZaT Zch ⟨(.storeB κ n),ins,tk,outs,g,b⟩ e) os k Q:=Ops.step rfl
@[simp] theorem Zua {o:Nat}:Ops S (⟨(.fieldAddr o),ins,tk,outs,g,b⟩::os) e k Q=Op1 S (ZaT Zch ⟨(.fieldAddr o),ins,tk,outs,g,b⟩ e) os k Q:=Ops.step rfl
@[simp] theorem Zrt {n:Nat}:Ops S (⟨(.indexAddr n),ins,tk,outs,g,b⟩::os) e k Q=Op1 S (ZaT Zch ⟨(.indexAddr n),ins,tk,outs,g,b⟩ e) os k Q:=Ops.step rfl
@[simp] theorem ZCW {op:BinOp}:Ops S (⟨(.bin op),ins,tk,outs,g,b⟩::os) e k Q=Op1 S (ZaT Zch ⟨(.bin op),ins,tk,outs,g,b⟩ e) os k Q:=Ops.step rfl
@[simp] theorem ZBD {op:BinOp}:Ops S (⟨(.binB op),ins,tk,outs,g,b⟩::os) e k Q=Op1 S (ZaT Zch ⟨(.binB op),ins,tk,outs,g,b⟩ e) os k Q:=Ops.step rfl
@[simp] theorem ZCI:Ops S (⟨.not,ins,tk,outs,g,b⟩::os) e k Q=Op1 S (ZaT Zch ⟨.not,ins,tk,outs,g,b⟩ e) os k Q:=Ops.step rfl
@[simp] theorem ZiD {n:Nat}:Ops S (⟨(.buildSlice n),ins,tk,outs,g,b⟩::os) e k Q=Op1 S (ZaT Zch ⟨(.buildSlice n),ins,tk,outs,g,b⟩ e) os k Q:=Ops.step rfl
@[simp] theorem Zxy {n:Nat}:Ops S (⟨(.append n),ins,tk,outs,g,b⟩::os) e k Q=Op1 S (ZaT Zch ⟨(.append n),ins,tk,outs,g,b⟩ e) os k Q:=Ops.step rfl
@[simp] theorem ZCs:Ops S (⟨.len,ins,tk,outs,g,b⟩::os) e k Q=Op1 S (ZaT Zch ⟨.len,ins,tk,outs,g,b⟩ e) os k Q:=Ops.step rfl
@[simp] theorem ZCp:Ops S (⟨.lenS,ins,tk,outs,g,b⟩::os) e k Q=Op1 S (ZaT Zch ⟨.lenS,ins,tk,outs,g,b⟩ e) os k Q:=Ops.step rfl
@[simp] theorem ZA0:Ops S (⟨.min2,ins,tk,outs,g,b⟩::os) e k Q=Op1 S (ZaT Zch ⟨.min2,ins,tk,outs,g,b⟩ e) os k Q:=Ops.step rfl
@[simp] theorem ZAf {n:Nat} {lo:Bool} {hi:Bool} {mx:Bool}:Ops S (⟨(.slice n lo hi mx),ins,tk,outs,g,b⟩::os) e k Q=Op1 S (ZaT Zch ⟨(.slice n lo hi mx),ins,tk,outs,g,b⟩ e) os k Q:=Ops.step rfl
@[simp] theorem Zxn {n:Nat}:Ops S (⟨(.extract n),ins,tk,outs,g,b⟩::os) e k Q=Op1 S (ZaT Zch ⟨(.extract n),ins,tk,outs,g,b⟩ e) os k Q:=Ops.step rfl
end
def GdC (S:Nat->Option Fn) (d:D) (want:Bool) (o:SOp) (os:List SOp) (e:Env) (k:List Fr) (Q:X->Env->Prop):Prop:=match d with
 | .a (.one (.p (.bool b)))=>if b==want then Ops S ({o with guard:=none}::os) e k Q else Ops S os (ZdW o e) k Q
 | .tup []=>Ops S os (ZdW o e) k Q
 | _=>False
theorem ZgQ {o:SOp} {os:List SOp} {j:Nat} {t:Bool} (hg:o.guard=some (j,t)):Ops S (o::os) e k Q=GdC S (e.get j) t o os e k Q:=by
 have hd: ∀F,doOp F {o with guard:=none} e=doOp F o e:=fun F=>rfl
 unfold GdC
 refine propext ⟨fun ⟨n,e',h1,h2⟩=>?_,fun h=>?_⟩
 ·simp only [Zdo] at h1
  split at h1
  ·rename_i e1 he
   simp only [ZaT,hg] at he
   split at he
   ·rename_i b hb
    rw [hb]
    simp only
    split at he
    ·rename_i hbw
     rw [if_pos hbw]
     refine ⟨n,e',?_,h2⟩
     simp only [Zdo,ZaT,hd,he];exact h1
    ·rename_i hbw
     rw [if_neg hbw]
     cases he
     exact ⟨n,e',h1,h2⟩
   ·rename_i hb
    rw [hb]
    cases he
    exact ⟨n,e',h1,h2⟩
   ·cases he
  ·cases h1
 ·split at h
  ·rename_i b hb
   split at h
   ·rename_i hbw
    obtain ⟨n,e',h1,h2⟩:=h
    refine ⟨n,e',?_,h2⟩
    simp only [Zdo,ZaT,hd] at h1
    simp only [Zdo,ZaT,hg,hb]
    rw [if_pos hbw]
    exact h1
   ·rename_i hbw
    obtain ⟨n,e',h1,h2⟩:=h
    refine ⟨n,e',?_,h2⟩
    simp only [Zdo,ZaT,hg,hb]
    rw [if_neg hbw]
    exact h1
  ·rename_i hb
   obtain ⟨n,e',h1,h2⟩:=h
   refine ⟨n,e',?_,h2⟩
   simp only [Zdo,ZaT,hg,hb]
   exact h1
  ·exact h.elim
@[simp] theorem Zz8 {f na j:Nat} {pass b t:Bool} {own tk outs:List Nat} {ins:List Arg} {os:List SOp}:
 Ops S (⟨.call f pass own na,ins,tk,outs,some (j,t),b⟩::os) e k Q=GdC S (e.get j) t ⟨.call f pass own na,ins,tk,outs,none,b⟩ os e k Q:=ZgQ rfl
@[simp] theorem ZC8 {o:SOp} {os:List SOp}:GdC S (.a (.one (.p (.bool true)))) true o os e k Q=Ops S ({o with guard:=none}::os) e k Q:=rfl
@[simp] theorem ZDn {o:SOp} {os:List SOp}:GdC S (.a (.one (.p (.bool false)))) false o os e k Q=Ops S ({o with guard:=none}::os) e k Q:=rfl
@[simp] theorem ZC0 {o:SOp} {os:List SOp}:GdC S (.a (.one (.p (.bool true)))) false o os e k Q=Ops S os (ZdW o e) k Q:=rfl
@[simp] theorem ZDl {o:SOp} {os:List SOp}:GdC S (.a (.one (.p (.bool false)))) true o os e k Q=Ops S os (ZdW o e) k Q:=rfl
@[simp] theorem ZCT {o:SOp} {os:List SOp} {t:Bool}:GdC S (.tup []) t o os e k Q=Ops S os (ZdW o e) k Q:=rfl
attribute [simp] Ops.call Ops.callU K.creates List.flatMap_cons List.flatMap_nil
@[simp] theorem ZAp:Env.kills [] e=e:=rfl
@[simp] theorem Zyp {κ:Nat} {ks:List Nat}:Env.kills (κ::ks) e=Env.kills ks (e.kill κ):=rfl
@[simp] theorem ZAZ {κ:Nat}:Env.kill κ []=[]:=rfl
@[simp] theorem ZAb {κ j:Nat} {d:D}:Env.kill κ ((j,d)::e)=(j,if j==κ||d.ment κ then .undef else d)::Env.kill κ e:=rfl
@[simp] theorem ZyX {κ:Nat}:D.ment κ .undef=false:=rfl
@[simp] theorem ZC4 {κ:Nat} {x:A}:D.ment κ (.a x)=x.ment κ:=rfl
@[simp] theorem ZA3 {κ:Nat} {xs:List A}:D.ment κ (.tup xs)=xs.any (A.ment κ):=rfl
@[simp] theorem ZAe {κ:Nat} {os:List (List C)}:D.ment κ (.objs os)=os.any (fun cs=>cs.any (C.ment κ)):=rfl
@[simp] theorem ZB6 {κ:Nat} {c:C}:A.ment κ (.one c)=c.ment κ:=by simp [A.ment]
@[simp] theorem ZBq {κ:Nat} {cs:List C}:A.ment κ (.agg cs)=cs.any (C.ment κ):=rfl
@[simp] theorem ZCr {κ:Nat} {x:P}:C.ment κ (.p x)=false:=rfl
@[simp] theorem ZzM {κ s:Nat} {r:List (List P)}:C.ment κ (.tip s r)=false:=rfl
@[simp] theorem ZxH {κ o:Nat} {r:List P}:C.ment κ (.view r o)=false:=rfl
@[simp] theorem ZAm {κ:Nat}:C.ment κ .nilp=false:=rfl
@[simp] theorem ZPS {κ e:Nat} {t:List Nat}:C.ment κ (.bytes e t)=false:=rfl
@[simp] theorem ZQm {κ:Nat} {es:List (MV×MV)}:C.ment κ (.mapc es)=false:=rfl
@[simp] theorem ZQf {κ:Nat} {es:List (Int×MV)}:C.ment κ (.mapl es)=false:=rfl
@[simp] theorem ZAv {κ s:Nat} {r:List (List P)}:C.ment κ (.uniq s r)=false:=rfl
@[simp] theorem ZBy {κ s n:Nat} {r:R}:C.ment κ (.own r s n)=(r.own && r.k==κ):=rfl
@[simp] theorem ZzZ {κ:Nat} {r:R}:C.ment κ (.mptr r)=(r.own && r.k==κ):=rfl
@[simp] theorem ZPQ {κ f:Nat} {r:R}:C.ment κ (.closs f r)=(r.own && r.k==κ):=rfl
@[simp] theorem ZBL {κ:Nat} {r:R} {es:List (P×P)}:C.ment κ (.map r es)=(r.own && r.k==κ):=rfl
@[simp] theorem ZA5 {κ n:Nat}:C.ment κ (.hdr n)=false:=rfl
@[simp] theorem ZzN {κ:Nat}:C.ment κ .junk=false:=rfl
@[simp] theorem ZBO {κ:Nat} {r:R}:C.ment κ (.ref r)=(r.own && r.k==κ):=rfl
@[simp] theorem ZBf {κ f:Nat} {x y:List R}:C.ment κ (.clo f x y)=(x.any (fun r=>r.own && r.k==κ)||y.any (fun r=>r.own && r.k==κ)):=rfl
@[simp] theorem ZzV {κ:Nat}:C.ment κ∘C.p=fun _=>false:=rfl
def ZCG (S:Nat->Option Fn) (r:Option (List D)) (outs:List Nat) (e:Env) (os:List SOp) (k:List Fr) (Q:X->Env->Prop):Prop:= ∃ds,r=some ds/\Op1 S (e.sets outs ds) os k Q
@[simp] theorem ZB0 {ds:List D} {outs:List Nat} {os:List SOp}:ZCG S (some ds) outs e os k Q=Op1 S (e.sets outs ds) os k Q:=propext ⟨fun ⟨_,h,h2⟩=>by cases h;exact h2,fun h=>⟨_,rfl,h⟩⟩
@[simp] theorem ZCv {pass:Bool} {own outs:List Nat} {n m:Nat} {os:List SOp} {rs:List A} {objs:List (List C)}:Back S pass own n m outs e os k Q rs objs=ZCG S (ZfY pass own n m rs objs) outs e os k Q:=rfl
@[simp] theorem ZBc {x:A}:resD [x]= .a x:=rfl
@[simp] theorem ZA9 {x y:A} {l:List A}:resD (x::y::l)= .tup (x::y::l):=rfl
@[simp] theorem ZAR:resD []= .tup []:=rfl
@[simp] theorem Zz0 {φ:R->Option R}:ZlP φ []=some []:=rfl
@[simp] theorem ZxC {φ:R->Option R} {x:A} {l:List A}:ZlP φ (x::l)=(x.mapR φ).bind fun y=>(ZlP φ l).map (y:: ·):=by
 simp only [ZlP];cases x.mapR φ<;>cases ZlP φ l<;>rfl
@[simp] theorem ZzK {φ:R->Option R}:Zl9 φ []=some []:=rfl
@[simp] theorem Zxw {φ:R->Option R} {x:C} {l:List C}:Zl9 φ (x::l)=(x.mapR φ).bind fun y=>(Zl9 φ l).map (y:: ·):=by
 simp only [Zl9];cases x.mapR φ<;>cases Zl9 φ l<;>rfl
@[simp] theorem ZAr {φ:R->Option R}:Zmc φ []=some []:=rfl
@[simp] theorem A.mapR_one {φ:R->Option R} {c:C}:(A.one c).mapR φ=(c.mapR φ).map .one:=rfl
@[simp] theorem A.mapR_agg {φ:R->Option R} {cs:List C}:(A.agg cs).mapR φ=(Zl9 φ cs).map .agg:=rfl
@[simp] theorem C.mapR_p {φ:R->Option R} {x:P}:(C.p x).mapR φ=some (.p x):=rfl
@[simp] theorem C.mapR_tip {φ:R->Option R} {s:Nat} {r:List (List P)}:(C.tip s r).mapR φ=some (.tip s r):=rfl
@[simp] theorem C.mapR_bytes {φ:R->Option R} {e:Nat} {t:List Nat}:(C.bytes e t).mapR φ=some (.bytes e t):=rfl
@[simp] theorem C.mapR_mapc {φ:R->Option R} {es:List (MV×MV)}:(C.mapc es).mapR φ=some (.mapc es):=rfl
@[simp] theorem C.mapR_mapl {φ:R->Option R} {es:List (Int×MV)}:(C.mapl es).mapR φ=some (.mapl es):=rfl
@[simp] theorem C.mapR_uniq {φ:R->Option R} {s:Nat} {r:List (List P)}:(C.uniq s r).mapR φ=some (.uniq s r):=rfl
@[simp] theorem C.mapR_hdr {φ:R->Option R} {n:Nat}:(C.hdr n).mapR φ=some (.hdr n):=rfl
@[simp] theorem C.mapR_junk {φ:R->Option R}:C.junk.mapR φ=some .junk:=rfl
@[simp] theorem C.mapR_nilp {φ:R->Option R}:C.nilp.mapR φ=some .nilp:=rfl
@[simp] theorem C.mapR_view {φ:R->Option R} {r:List P} {o:Nat}:(C.view r o).mapR φ=some (.view r o):=rfl
@[simp] theorem C.mapR_ref {φ:R->Option R} {r:R}:(C.ref r).mapR φ=(φ r).map .ref:=rfl
@[simp] theorem C.mapR_closs {φ:R->Option R} {f:Nat} {r:R}:(C.closs f r).mapR φ=(φ r).map (.closs f):=rfl
@[simp] theorem C.mapR_clo0 {φ:R->Option R} {f:Nat}:(C.clo f [] []).mapR φ=some (.clo f [] []):=rfl
@[simp] theorem A.lone_one {c:C}:(A.one c).lone= .one c.lone:=rfl
@[simp] theorem A.lone_agg {cs:List C}:(A.agg cs).lone= .agg (cs.map C.lone):=rfl
@[simp] theorem C.lone_p {x:P}:(C.p x).lone= .p x:=rfl
@[simp] theorem C.lone_tip {s:Nat} {r:List (List P)}:(C.tip s r).lone= .tip s r:=rfl
@[simp] theorem C.lone_ref {r:R}:(C.ref r).lone= .ref r:=rfl
@[simp] theorem C.lone_own {r:R} {s n:Nat}:(C.own r s n).lone= .own r s n:=rfl
@[simp] theorem C.lone_bytes {e:Nat} {t:List Nat}:(C.bytes e t).lone= .hdr t.length:=rfl
@[simp] theorem C.lone_mapc {es:List (MV×MV)}:(C.mapc es).lone= .mapc es:=rfl
@[simp] theorem C.lone_uniq {s:Nat} {r:List (List P)}:(C.uniq s r).lone= .hdr r.length:=rfl
@[simp] theorem C.lone_mptr {r:R}:(C.mptr r).lone= .mptr r:=rfl
@[simp] theorem C.lone_closs {f:Nat} {r:R}:(C.closs f r).lone= .closs f r:=rfl
@[simp] theorem C.lone_map {r:R} {es:List (P×P)}:(C.map r es).lone= .mptr r:=rfl
@[simp] theorem C.lone_hdr {n:Nat}:(C.hdr n).lone= .hdr n:=rfl
@[simp] theorem C.lone_junk:C.junk.lone= .junk:=rfl
@[simp] theorem C.lone_nilp:C.nilp.lone= .nilp:=rfl
@[simp] theorem C.lone_view {r:List P} {o:Nat}:(C.view r o).lone= .view r o:=rfl
@[simp] theorem C.lone_clo {f:Nat} {x y:List R}:(C.clo f x y).lone= .clo f x y:=rfl
@[simp] theorem C.lone_comp:C.lone∘C.p=C.p:=rfl
@[simp] theorem A.part_one {c:C}:(A.one c).part= .one c.part:=rfl
@[simp] theorem A.part_agg {cs:List C}:(A.agg cs).part= .agg (cs.map C.part):=rfl
@[simp] theorem C.part_p {x:P}:(C.p x).part= .p x:=rfl
@[simp] theorem C.part_tip {s:Nat} {r:List (List P)}:(C.tip s r).part= .tip s r:=rfl
@[simp] theorem C.part_ref {r:R}:(C.ref r).part= .ref r:=rfl
@[simp] theorem C.part_own {r:R} {s n:Nat}:(C.own r s n).part= .own r s n:=rfl
@[simp] theorem C.part_bytes {e:Nat} {t:List Nat}:(C.bytes e t).part= .bytes e t:=rfl
@[simp] theorem C.part_mapc {es:List (MV×MV)}:(C.mapc es).part= .mapc es:=rfl
@[simp] theorem C.part_mapl {es:List (Int×MV)}:(C.mapl es).part= .mapl es:=rfl
@[simp] theorem C.part_uniq {s:Nat} {r:List (List P)}:(C.uniq s r).part= .uniq s r:=rfl
@[simp] theorem C.part_mptr {r:R}:(C.mptr r).part= .mptr r:=rfl
@[simp] theorem C.part_closs {f:Nat} {r:R}:(C.closs f r).part= .closs f r:=rfl
@[simp] theorem C.part_map {r:R} {es:List (P×P)}:(C.map r es).part= .mptr r:=rfl
@[simp] theorem C.part_hdr {n:Nat}:(C.hdr n).part= .hdr n:=rfl
@[simp] theorem C.part_junk:C.junk.part= .junk:=rfl
@[simp] theorem C.part_nilp:C.nilp.part= .nilp:=rfl
@[simp] theorem C.part_view {r:List P} {o:Nat}:(C.view r o).part= .view r o:=rfl
@[simp] theorem C.part_clo {f:Nat} {x y:List R}:(C.clo f x y).part= .clo f x y:=rfl
@[simp] theorem C.part_comp:C.part∘C.p=C.p:=rfl
@[simp] theorem ZAN:asOf []=some []:=rfl
@[simp] theorem ZzW {x:A} {l:List D}:asOf (.a x::l)=(asOf l).map (x:: ·):=rfl
@[simp] theorem Zxl:Zdf []=some []:=rfl
@[simp] theorem ZvK {cs:List C} {l:List D}:Zdf (.a (.agg cs)::l)=(Zdf l).map (cs:: ·):=rfl
@[simp] theorem ZwQ {l:List D}:ZcK false l=some ([],l):=rfl
@[simp] theorem Zw0 {os:List (List C)} {l:List D}:ZcK true (.objs os::l)=some (os,l):=rfl
def Zzc (own:List Nat) (xs:Option (List A)) (n:Nat) (os:Option (List (List C))):Option (List A×List (List C)×Nat):=match xs,os with
 | some xs,some os=>some (xs,os,n)
 | _,_=>none
@[simp] theorem ZBU {own:List Nat} {xs:List A} {n:Nat} {os:List (List C)}:Zzc own (some xs) n (some os)=some (xs,os,n):=rfl
def ZAA (own:List Nat) (args:Option (List A)) (sp:Option (List (List C)×List D)):Option (List A×List (List C)×Nat):=match args,sp with
 | some args,some (os,bs)=>match Zdf bs with
   | some cs=>Zzc own (ZlP (R.down (some os.length) own) (args.map A.part)) os.length (Zmc (R.down (some os.length) own) ((os++cs).map fun l=>l.map C.part))
   | none=>none
 | _,_=>none
def Zwf (own:List Nat) (args:List A) (os:List (List C)) (cs:Option (List (List C))):Option (List A×List (List C)×Nat):=match cs with
 | some cs=>Zzc own (ZlP (R.down (some os.length) own) (args.map A.part)) os.length (Zmc (R.down (some os.length) own) ((os++cs).map fun l=>l.map C.part))
 | none=>none
@[simp] theorem ZBb {own:List Nat} {args:List A} {os:List (List C)} {bs:List D}:ZAA own (some args) (some (os,bs))=Zwf own args os (Zdf bs):=by
 simp only [ZAA,Zwf]
@[simp] theorem ZAx {own:List Nat} {args:List A} {os cs:List (List C)}:Zwf own args os (some cs)=Zzc own (ZlP (R.down (some os.length) own) (args.map A.part)) os.length (Zmc (R.down (some os.length) own) ((os++cs).map fun l=>l.map C.part)):=rfl
@[simp] theorem ZCw {pass:Bool} {own:List Nat} {na:Nat} {xs:List D}:prep pass own na xs=ZAA own (asOf (xs.take na)) (ZcK pass (xs.drop na)):=by
 simp only [prep,ZAA,Zzc]
 cases asOf (xs.take na) with
 | none=>rfl
 | some args=>cases ZcK pass (xs.drop na) with
   | none=>rfl
   | some p=>
     obtain ⟨os,bs⟩:=p
     simp only []
     cases Zdf bs with
     | none=>rfl
     | some cs=>
       simp only []
       cases ZlP (R.down (some os.length) own) (args.map A.part) with
       | none=>rfl
       | some ys=>
         simp only []
         generalize Zmc (R.down (some os.length) own) ((os++cs).map fun l=>l.map C.part)=z
         cases z<;>rfl
def cb2 (pass:Bool) (n:Nat) (rs:Option (List A)) (os:Option (List (List C))):Option (List D):=match rs,os with
 | some rs',some os₂=>some (resD rs'::((if pass then [.objs (os₂.take n)] else [])++(os₂.drop n).map fun cs=> .a (.agg cs)))
 | _,_=>none
@[simp] theorem ZDq {pass:Bool} {n:Nat} {rs:List A} {os:List (List C)}:cb2 pass n (some rs) (some os)=some (resD rs::((if pass then [.objs (os.take n)] else [])++(os.drop n).map fun cs=> .a (.agg cs))):=rfl
@[simp] theorem Zwn {pass:Bool} {own:List Nat} {n m:Nat} {rs:List A} {os:List (List C)}:ZfY pass own n m rs os=if os.length=m then cb2 pass n (ZlP (R.up (some n) own) rs) (Zmc (R.up (some n) own) os) else none:=by
 simp only [ZfY,cb2];split
 ·cases ZlP (R.up (some n) own) rs<;>cases Zmc (R.up (some n) own) os<;>rfl
 ·rfl
@[simp] theorem ZCQ {n k o:Nat} {own:List Nat}:R.down (some n) own ⟨false,k,o⟩=if k<n then some ⟨false,k,o⟩ else none:=rfl
def dnV (n o:Nat):Option Nat->Option R
 | some i=>some ⟨false,n+i,o⟩
 | none=>none
@[simp] theorem ZA6 {n o i:Nat}:dnV n o (some i)=some ⟨false,n+i,o⟩:=rfl
@[simp] theorem ZDu {n k o:Nat} {own:List Nat}:R.up (some n) own ⟨false,k,o⟩=if k<n then some ⟨false,k,o⟩ else (own[k-n]?).map fun κ=>⟨true,κ,o⟩:=rfl
@[simp] theorem ZBr {k j:Nat}:doGh (.pub k j) e=if ZrT k then pubG k j e (e.get k) else e:=rfl
@[simp] theorem ZAs {k κ s:Nat}:Zpk k 0 κ s e (.a (.one (.uniq s [])))=e:=rfl
@[simp] theorem Zz9 {k κ s s':Nat} {rows:List (List P)}:Zpk k 0 κ s e (.a (.one (.tip s' rows)))=e:=rfl
@[simp] theorem ZCN {k κ s:Nat} {x:P}:Zpk k 0 κ s e (.a (.one (.p x)))=e:=rfl
def ZBs (k κ s n:Nat) (e:Env):Option (List P)->Env
 | some ps=>(k,.a (.one (.uniq s (Zo0 s n ps))))::(κ,.undef)::e
 | none=>e
@[simp] theorem Zn2 {k κ s n:Nat} {ps:List P}:ZBs k κ s n e (some ps)=(k,.a (.one (.uniq s (Zo0 s n ps))))::(κ,.undef)::e:=rfl
@[simp] theorem ZAc {k s:Nat} {rows:List (List P)}:pubG k 0 e (.a (.one (.uniq s rows)))=(k,.a (.one (.tip s rows)))::e:=rfl
@[simp] theorem ZBp {k s:Nat} {rows:List (List P)}:pubG k 0 e (.a (.one (.tip s rows)))=e:=rfl
@[simp] theorem ZDj {k:Nat} {x:P}:pubG k 0 e (.a (.one (.p x)))=e:=rfl
end Go.Am
end
