/- Part. -/
import Derived.Test.YtmofclmogldnjaaGreatDoorSaf
set_option maxRecDepth 999999
set_option maxHeartbeats 0
set_option linter.all false
section
namespace Go.Am
variable {S:Nat->Option Fn} {e:Env} {k:List Fr} {Q:X->Env->Prop}
def ClV (S:Nat->Option Fn) (pass:Bool) (own:List Nat) (r:Option (Nat×Option (List A×List (List C)×Nat))) (outs:List Nat) (e:Env) (os:List SOp) (k:List Fr) (Q:X->Env->Prop):Prop:=
 ∃f x,r=some (f,x)/\Cl S f pass own x outs e os k Q
@[simp] def ClV.eq {pass:Bool} {own outs:List Nat} {f:Nat} {x:Option (List A×List (List C)×Nat)} {os:List SOp}:ClV S pass own (some (f,x)) outs e os k Q=Cl S f pass own x outs e os k Q:=
 propext ⟨fun ⟨_,_,h1,h2⟩=>by cases h1;exact h2,fun h=>⟨_,_,rfl,h⟩⟩
def ZkG: ∀{l:List A},asOf (l.map D.a)=some l
 | []=>rfl
 | x::l=>by simp only [Yp,asOf,ZkG (l:=l),YN]
def Zcs (first caps:List R) (args:List A):List A:=first.map (fun r=> .one (.ref r))++args++caps.map fun r=> .one (.ref r)
def ZhR {F:Zae} {pass:Bool} {own:List Nat} {na f:Nat} {first caps:List R} {xs:List D} {args:List A} (h:asOf (xs.take na)=some args):
  ZeM F pass own na (.a (.one (.clo f first caps))::xs)=Zf1 F f pass own (Zcs first caps args).length ((Zcs first caps args).map D.a++xs.drop na):=by
 simp only [ZeM,h,Zf1]
 rw [List.take_left' Zs,List.drop_left' Zs,ZkG]
 rfl
def Zy3 (pass:Bool) (own:List Nat) (na:Nat):List D->Option (Nat×Option (List A×List (List C)×Nat))
 | .a (.one (.clo f first caps))::xs=>(asOf (xs.take na)).map fun args=>(f,Zsp own (some (Zcs first caps args)) (ZaW pass (xs.drop na)))
 | _=>none
@[simp] def ZkI {pass:Bool} {own:List Nat} {na f:Nat} {first caps:List R} {xs:List D}:Zy3 pass own na (.a (.one (.clo f first caps))::xs)=(asOf (xs.take na)).map fun args=>(f,Zsp own (some (Zcs first caps args)) (ZaW pass (xs.drop na))):=rfl
def Znh {pass:Bool} {own:List Nat} {xs:List D} {args:List A}:prep pass own args.length (args.map D.a++xs)=Zsp own (some args) (ZaW pass xs):=by
 rw [Zvr,List.take_left' Zs,List.drop_left' Zs,ZkG]
theorem Ops.callv {na:Nat} {pass b:Bool} {own tk outs:List Nat} {ins:List Arg} {os:List SOp}:
   Ops S (⟨.callv pass own na,ins,tk,outs,none,b⟩::os) e k Q=ClV S pass own (Zy3 pass own na (ins.map (Zaw e tk))) outs (Zag e tk) os k Q:=by
 refine propext ⟨fun ⟨n,e',h1,h2⟩=>?_,fun ⟨f,x,h0,args,objs,n,h1,m,rs,os',h2,ds,h3,e1,h4,h5⟩=>?_⟩
 · simp only [Zbq] at h1
   split at h1
   · rename_i e1 he
     simp only [Zar,doOp,Zai] at he
     split at he
     · cases he
     · rename_i ds hds
       generalize ins.map (Zaw e tk)=xs at hds⊢
       match xs,hds with
       | .a (.one (.clo f first caps))::xs,hds=>
         cases ha:asOf (xs.take na) with
         | none=>simp [ZeM,ha] at hds
         | some args=>
           rw [ZhR ha] at hds
           obtain ⟨args',objs,n',rs,os',p1,p2,p3⟩:=Zdw.1 hds
           rw [Znh] at p1
           exact ⟨f,_,by simp only [ZkI,ha,YN],args',objs,n',p1,n,rs,os',p2,ds,p3,e1,he,n,e',h1,h2⟩
   · cases h1
 · refine EndsOps.cons (n:=m) ?_ h5
   simp only [Zar,doOp,Zai]
   generalize ins.map (Zaw e tk)=xs at h0⊢
   match xs,h0 with
   | .a (.one (.clo f' first caps))::xs,h0=>
     cases ha:asOf (xs.take na) with
     | none=>rw [ZkI,ha] at h0;cases h0
     | some args'=>
       rw [ZkI,ha,YN] at h0
       injection h0 with h0
       injection h0 with h01 h02
       subst h01
       subst h02
       rw [ZhR ha,Zdw.2 ⟨args,objs,n,rs,os',by rw [Znh];exact h1,h2,h3⟩]
       exact h4
def Zxf {φ:R->Option R}:([]:List R).mapM φ=some []/\ ∀(r:R) (l:List R),(r::l).mapM φ=(φ r).bind fun a=>(l.mapM φ).map (a:: ·):=⟨rfl,fun r l=>by
 rw [List.mapM_cons];cases φ r<;>cases l.mapM φ<;>rfl⟩
def cloR {φ:R->Option R}:(([]:List R).mapM φ=some []/\ ∀(r:R) (l:List R),(r::l).mapM φ=(φ r).bind fun a=>(l.mapM φ).map (a:: ·))/\ ∀(f:Nat) (x y:List R),(C.clo f x y).mapR φ=(x.mapM φ).bind fun a=>(y.mapM φ).map fun b=> .clo f a b:=⟨Zxf,fun f x y=>by
 simp only [C.mapR];cases x.mapM φ<;>cases y.mapM φ<;>rfl⟩
@[simp] def Ztn {args:List A}:Zcs [] [] args=args:=by simp [Zcs]
end Go.Am
end
