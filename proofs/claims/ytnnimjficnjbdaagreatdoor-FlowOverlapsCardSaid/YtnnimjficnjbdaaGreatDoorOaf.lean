/- Part. -/
import Derived.Test.YtnnimjficnjbdaaGreatDoorOae
set_option maxRecDepth 999999
set_option maxHeartbeats 0
set_option linter.all false
section
namespace Go.Am
variable {S:Nat->Option Fn} {e:Env} {k:List Fr} {Q:X->Env->Prop}
def ClV (S:Nat->Option Fn) (pass:Bool) (own:List Nat) (r:Option (Nat×Option (List A×List (List C)×Nat))) (outs:List Nat) (e:Env) (os:List SOp) (k:List Fr) (Q:X->Env->Prop):Prop:=
 ∃f x,r=some (f,x)/\Cl S f pass own x outs e os k Q
theorem ZEW: ∀{l:List A},asOf (l.map D.a)=some l
 | []=>rfl
 | x::l=>by simp only [List.map_cons,asOf,ZEW (l:=l),Option.map_some]
def ZDB (first caps:List R) (args:List A):List A:=first.map (fun r=> .one (.ref r))++args++caps.map fun r=> .one (.ref r)
theorem ZEF {F:ZaQ} {pass:Bool} {own:List Nat} {na f:Nat} {first caps:List R} {xs:List D} {args:List A} (h:asOf (xs.take na)=some args):
  Zju F pass own na (.a (.one (.clo f first caps))::xs)=Zj7 F f pass own (ZDB first caps args).length ((ZDB first caps args).map D.a++xs.drop na):=by
 simp only [Zju,h,Zj7]
 rw [List.take_left' Zs,List.drop_left' Zs,ZEW]
 rfl
theorem ZJf {F:ZaQ} {pass:Bool} {own:List Nat} {na f:Nat} {r:R} {xs:List D} {args:List A} (h:asOf (xs.take na)=some args):
  Zju F pass own na (.a (.one (.closs f r))::xs)=Zj7 F f pass own (A.agg [.ref r]::args).length ((A.agg [.ref r]::args).map D.a++xs.drop na):=by
 simp only [Zju,h,Zj7]
 rw [List.take_left' Zs,List.drop_left' Zs,ZEW]
def ZGK (pass:Bool) (own:List Nat) (na:Nat):List D->Option (Nat×Option (List A×List (List C)×Nat))
 | .a (.one (.clo f first caps))::xs=>(asOf (xs.take na)).map fun args=>(f,ZAA own (some (ZDB first caps args)) (ZcK pass (xs.drop na)))
 | .a (.one (.closs f r))::xs=>(asOf (xs.take na)).map fun args=>(f,ZAA own (some (A.agg [.ref r]::args)) (ZcK pass (xs.drop na)))
 | _=>none
@[simp] theorem ZJT {pass:Bool} {own:List Nat} {na f:Nat} {r:R} {xs:List D}:ZGK pass own na (.a (.one (.closs f r))::xs)=(asOf (xs.take na)).map fun args=>(f,ZAA own (some (A.agg [.ref r]::args)) (ZcK pass (xs.drop na))):=rfl
@[simp] theorem ZET {pass:Bool} {own:List Nat} {na f:Nat} {first caps:List R} {xs:List D}:ZGK pass own na (.a (.one (.clo f first caps))::xs)=(asOf (xs.take na)).map fun args=>(f,ZAA own (some (ZDB first caps args)) (ZcK pass (xs.drop na))):=rfl
theorem ZFw {pass:Bool} {own:List Nat} {xs:List D} {args:List A}:prep pass own args.length (args.map D.a++xs)=ZAA own (some args) (ZcK pass xs):=by
 rw [ZCw,List.take_left' Zs,List.drop_left' Zs,ZEW]
theorem Ops.callv {na:Nat} {pass b:Bool} {own tk outs:List Nat} {ins:List Arg} {os:List SOp}:
   Ops S (⟨.callv pass own na,ins,tk,outs,none,b⟩::os) e k Q=ClV S pass own (ZGK pass own na (ins.map (Zbl e tk))) outs (ZaA e tk) os k Q:=by
 refine propext ⟨fun ⟨n,e',h1,h2⟩=>?_,fun ⟨f,x,h0,args,objs,n,h1,m,rs,os',h2,ds,h3,e1,h4,h5⟩=>?_⟩
 · simp only [Zdo] at h1
   split at h1
   · rename_i e1 he
     simp only [ZaT,doOp,ZaI] at he
     split at he
     · cases he
     · rename_i ds hds
       generalize ins.map (Zbl e tk)=xs at hds⊢
       match xs,hds with
       | .a (.one (.clo f first caps))::xs,hds=>
         cases ha:asOf (xs.take na) with
         | none=>simp [Zju,ha] at hds
         | some args=>
           rw [ZEF ha] at hds
           obtain ⟨args',objs,n',rs,os',p1,p2,p3⟩:=ZkT.1 hds
           rw [ZFw] at p1
           exact ⟨f,_,by simp only [ZET,ha,Option.map_some],args',objs,n',p1,n,rs,os',p2,ds,p3,e1,he,n,e',h1,h2⟩
       | .a (.one (.closs f r))::xs,hds=>
         cases ha:asOf (xs.take na) with
         | none=>simp [Zju,ha] at hds
         | some args=>
           rw [ZJf ha] at hds
           obtain ⟨args',objs,n',rs,os',p1,p2,p3⟩:=ZkT.1 hds
           rw [ZFw] at p1
           exact ⟨f,_,by simp only [ZJT,ha,Option.map_some],args',objs,n',p1,n,rs,os',p2,ds,p3,e1,he,n,e',h1,h2⟩
   · cases h1
 · refine EndsOps.cons (n:=m) ?_ h5
   simp only [ZaT,doOp,ZaI]
   generalize ins.map (Zbl e tk)=xs at h0⊢
   match xs,h0 with
   | .a (.one (.clo f' first caps))::xs,h0=>
     cases ha:asOf (xs.take na) with
     | none=>rw [ZET,ha] at h0;cases h0
     | some args'=>
       rw [ZET,ha,Option.map_some] at h0
       injection h0 with h0
       injection h0 with h01 h02
       subst h01
       subst h02
       rw [ZEF ha,ZkT.2 ⟨args,objs,n,rs,os',by rw [ZFw];exact h1,h2,h3⟩]
       exact h4
   | .a (.one (.closs f' r))::xs,h0=>
     cases ha:asOf (xs.take na) with
     | none=>rw [ZJT,ha] at h0;cases h0
     | some args'=>
       rw [ZJT,ha,Option.map_some] at h0
       injection h0 with h0
       injection h0 with h01 h02
       subst h01
       subst h02
       rw [ZJf ha,ZkT.2 ⟨args,objs,n,rs,os',by rw [ZFw];exact h1,h2,h3⟩]
       exact h4
end Go.Am
end
