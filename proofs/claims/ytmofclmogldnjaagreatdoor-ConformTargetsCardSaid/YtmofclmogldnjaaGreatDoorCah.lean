/- Part. -/
import Derived.Test.YtmofclmogldnjaaGreatDoorCag
set_option maxRecDepth 999999
set_option maxHeartbeats 0
set_option linter.all false
section
namespace Go.Am
variable {S:Nat->Option Fn} {e:Env} {k:List Fr} {Q:X->Env->Prop}
def ClV (S:Nat->Option Fn) (pass:Bool) (own:List Nat) (r:Option (Nat×Option (List A×List (List C)×Nat))) (outs:List Nat) (e:Env) (os:List SOp) (k:List Fr) (Q:X->Env->Prop):Prop:=
 ∃f x,r=some (f,x)/\Cl S f pass own x outs e os k Q
@[simp] def ClV.eq {pass:Bool} {own outs:List Nat} {f:Nat} {x:Option (List A×List (List C)×Nat)} {os:List SOp}:ClV S pass own (some (f,x)) outs e os k Q=Cl S f pass own x outs e os k Q:=
 propext ⟨fun ⟨_,_,h1,h2⟩=>by cases h1;exact h2,fun h=>⟨_,_,rfl,h⟩⟩
def ZEW: ∀{l:List A},asOf (l.map D.a)=some l
 | []=>rfl
 | x::l=>by simp only [Yp,asOf,ZEW (l:=l),YN]
def ZDB (first caps:List R) (args:List A):List A:=first.map (fun r=> .one (.ref r))++args++caps.map fun r=> .one (.ref r)
def ZEF {F:ZaQ} {pass:Bool} {own:List Nat} {na f:Nat} {first caps:List R} {xs:List D} {args:List A} (h:asOf (xs.take na)=some args):
  Zju F pass own na (.a (.one (.clo f first caps))::xs)=Zj7 F f pass own (ZDB first caps args).length ((ZDB first caps args).map D.a++xs.drop na):=by
 simp only [Zju,h,Zj7];rw [List.take_left' Zs,List.drop_left' Zs,ZEW];rfl
def ZGK (pass:Bool) (own:List Nat) (na:Nat):List D->Option (Nat×Option (List A×List (List C)×Nat))
 | .a (.one (.clo f first caps))::xs=>(asOf (xs.take na)).map fun args=>(f,ZAA own (some (ZDB first caps args)) (ZcK pass (xs.drop na)))
 | _=>none
@[simp] def ZET {pass:Bool} {own:List Nat} {na f:Nat} {first caps:List R} {xs:List D}:ZGK pass own na (.a (.one (.clo f first caps))::xs)=(asOf (xs.take na)).map fun args=>(f,ZAA own (some (ZDB first caps args)) (ZcK pass (xs.drop na))):=rfl
def ZFw {pass:Bool} {own:List Nat} {xs:List D} {args:List A}:prep pass own args.length (args.map D.a++xs)=ZAA own (some args) (ZcK pass xs):=by
 rw [ZCw,List.take_left' Zs,List.drop_left' Zs,ZEW]
theorem Ops.callv {na:Nat} {pass b:Bool} {own tk outs:List Nat} {ins:List Arg} {os:List SOp}:
   Ops S (⟨.callv pass own na,ins,tk,outs,none,b⟩::os) e k Q=ClV S pass own (ZGK pass own na (ins.map (Zbl e tk))) outs (ZaA e tk) os k Q:=by
 refine propext ⟨fun ⟨n,e',h1,h2⟩=>?_,fun ⟨f,x,h0,args,objs,n,h1,m,rs,os',h2,ds,h3,e1,h4,h5⟩=>?_⟩
 · simp only [Zdo] at h1;split at h1
   · rename_i e1 he;simp only [ZaT,doOp,ZaI] at he;split at he
     · cases he
     · rename_i ds hds;generalize ins.map (Zbl e tk)=xs at hds⊢
       match xs,hds with
       | .a (.one (.clo f first caps))::xs,hds=>
         cases ha:asOf (xs.take na) with
         | none=>simp [Zju,ha] at hds
         | some args=>
           rw [ZEF ha] at hds;obtain ⟨args',objs,n',rs,os',p1,p2,p3⟩:=ZkT.1 hds;rw [ZFw] at p1;exact ⟨f,_,by simp only [ZET,ha,YN],args',objs,n',p1,n,rs,os',p2,ds,p3,e1,he,n,e',h1,h2⟩
   · cases h1
 · refine EndsOps.cons (n:=m) ?_ h5;simp only [ZaT,doOp,ZaI];generalize ins.map (Zbl e tk)=xs at h0⊢
   match xs,h0 with
   | .a (.one (.clo f' first caps))::xs,h0=>
     cases ha:asOf (xs.take na) with
     | none=>rw [ZET,ha] at h0;cases h0
     | some args'=>
       rw [ZET,ha,YN] at h0;injection h0 with h0;injection h0 with h01 h02;subst h01;subst h02;rw [ZEF ha,ZkT.2 ⟨args,objs,n,rs,os',by rw [ZFw];exact h1,h2,h3⟩];exact h4
structure Pass (os:List (List C)):Prop where
 down:Zmc (R.down (some os.length) []) (os.map fun l=>l.map C.lone)=some os
 up:Zmc (R.up (some os.length) []) os=some os
 clean: ∀x∈os,∀y∈x,C.clean y=true
def PassR (n:Nat) (rs:List R):Prop:= ∀r∈rs,r.own=false/\r.k<n
def ZEJ {φ:R->Option R} {b b':List A} (h2:ZlP φ b=some b'): ∀{a a':List A},ZlP φ a=some a'->ZlP φ (a++b)=some (a'++b')
 | [],a',h=>by simp at h;subst h;exact h2
 | x::a,a',h=>by
   simp only [ZxC] at h;cases h1:x.mapR φ with
   | none=>simp [h1] at h
   | some y=>
     cases h3:ZlP φ a with
     | none=>simp [h1,h3] at h
     | some z=>
       simp [h1,h3] at h;subst h;simp [h1,ZEJ h2 h3]
def ZED {n:Nat}: ∀{rs:List R},PassR n rs->ZlP (R.down (some n) []) ((rs.map fun r=>A.one (.ref r)).map A.lone)=some (rs.map fun r=>A.one (.ref r))
 | [],_=>rfl
 | ⟨o,k,f⟩::rs,h=>by
   obtain ⟨h1,h2⟩:=h _ Yr;simp only at h1 h2;subst h1;have h3:=ZED fun r hr=>h r (Yk _ hr);simp only [YL] at h3;simp [h2,h3]
def ZFL {n:Nat} {first caps:List R} {args:List A} (h1:PassR n first) (h2:PassR n caps) (h3:ZlP (R.down (some n) []) (args.map A.lone)=some args):ZlP (R.down (some n) []) ((ZDB first caps args).map A.lone)=some (ZDB first caps args):=by
 rw [ZDB,YC,YC];exact ZEJ (ZED h2) (ZEJ h3 (ZED h1))
def datC:C->Bool
 | .p _=>true
 | .tip _ _=>true
 | _=>false
def datA:List A->Bool
 | []=>true
 | .one c::l=>datC c && datA l
 | .agg cs::l=>cs.all datC && datA l
def ZEt {φ:R->Option R}: ∀{cs:List C},cs.all datC=true->Zl9 φ (cs.map C.lone)=some cs
 | [],_=>rfl
 | c::cs,h=>by
   simp only [List.all_cons,Yb] at h;cases c with
   | p x=>simp [ZEt h.2]
   | tip s r=>simp [ZEt h.2]
   | _=>cases h.1
def ZEu {φ:R->Option R}: ∀{args:List A},datA args=true->ZlP φ (args.map A.lone)=some args
 | [],_=>rfl
 | .one c::l,h=>by
   simp only [datA,Yb] at h;cases c with
   | p x=>simp [ZEu h.2]
   | tip s r=>simp [ZEu h.2]
   | _=>cases h.1
 | .agg cs::l,h=>by
   simp only [datA,Yb] at h;simp [ZEu h.2,ZEt h.1]
def ZF2 {n:Nat} {first caps:List R} {args:List A} (h1:PassR n first) (h2:PassR n caps) (h3:datA args=true):ZlP (R.down (some n) []) ((ZDB first caps args).map A.lone)=some (ZDB first caps args):=ZFL h1 h2 (ZEu h3)
def ZFi {n:Nat} {first caps:List R} {r:List P} (h1:PassR n first) (h2:PassR n caps):ZlP (R.down (some n) []) ((ZDB first caps [.agg (r.map C.p)]).map A.lone)=some (ZDB first caps [.agg (r.map C.p)]):=ZF2 h1 h2 (by simp [datA,datC])
def ZEK {n:Nat}: ∀{rs:List R},PassR n rs->rs.mapM (R.down (some n) [])=some rs
 | [],_=>rfl
 | ⟨o,k,f⟩::rs,h=>by
   obtain ⟨h1,h2⟩:=h _ Yr;simp only at h1 h2;subst h1;rw [List.mapM_cons,ZEK fun r hr=>h r (Yk _ hr)];simp [h2]
def ZFh {n f:Nat} {first caps:List R} (h1:PassR n first) (h2:PassR n caps):(C.clo f first caps).mapR (R.down (some n) [])=some (.clo f first caps):=by
 simp only [C.mapR,ZEK h1,ZEK h2]
def ZGc {n:Nat} {first caps:List R} {a b c d:P} (h1:PassR n first) (h2:PassR n caps):ZlP (R.down (some n) []) ((ZDB first caps [.agg [.p a,.p b,.p c,.p d]]).map A.lone)=some (ZDB first caps [.agg [.p a,.p b,.p c,.p d]]):=ZF2 h1 h2 rfl
def ZGI {φ:R->Option R}:([]:List R).mapM φ=some []/\ ∀(r:R) (l:List R),(r::l).mapM φ=(φ r).bind fun a=>(l.mapM φ).map (a:: ·):=⟨rfl,fun r l=>by
 rw [List.mapM_cons];cases φ r<;>cases l.mapM φ<;>rfl⟩
def cloR {φ:R->Option R}:(([]:List R).mapM φ=some []/\ ∀(r:R) (l:List R),(r::l).mapM φ=(φ r).bind fun a=>(l.mapM φ).map (a:: ·))/\ ∀(f:Nat) (x y:List R),(C.clo f x y).mapR φ=(x.mapM φ).bind fun a=>(y.mapM φ).map fun b=> .clo f a b:=⟨ZGI,fun f x y=>by
 simp only [C.mapR];cases x.mapM φ<;>cases y.mapM φ<;>rfl⟩
@[simp] def ZE7 {args:List A}:ZDB [] [] args=args:=by simp [ZDB]
def ZFt {n:Nat} {first caps:List R} (h1:PassR n first) (h2:PassR n caps) (f κ:Nat):C.ment κ (.clo f first caps)=false:=by
 simp only [C.ment,Bool.or_eq_false_iff,List.any_eq_false];exact ⟨fun r hr=>by simp [(h1 r hr).1],fun r hr=>by simp [(h2 r hr).1]⟩
def Pass.nil:Pass []:=⟨rfl,rfl,by simp⟩
def Pass.fin {os:List (List C)} (h:Pass os) {x y:Option (List A×List (List C))}:(if∀x∈os,∀y∈x,C.clean y=true then x else y)=x:=if_pos h.clean
def Pass.ment {os:List (List C)} (h:Pass os) {κ:Nat}:D.ment κ (.objs os)=false:=ZFz (by simpa using h.clean)
def ZEx {φ:R->Option R}: ∀{cs:List C},cs.all datC=true->Zl9 φ cs=some cs
 | [],_=>rfl
 | c::cs,h=>by
   simp only [List.all_cons,Yb] at h;cases c with
   | p x=>simp [ZEx h.2]
   | tip s r=>simp [ZEx h.2]
   | _=>cases h.1
def Pass.dat {os:List (List C)} (h:os.all (fun cs=>cs.all datC)=true):Pass os:=by
 have h1: ∀(φ:R->Option R) {os:List (List C)},os.all (fun cs=>cs.all datC)=true->Zmc φ (os.map fun l=>l.map C.lone)=some os/\Zmc φ os=some os:=by
   intro φ os
   induction os with
   | nil=>exact fun _=>⟨rfl,rfl⟩
   | cons o os ih=>
     intro h;simp only [List.all_cons,Yb] at h;obtain ⟨i1,i2⟩:=ih h.2;constructor
     · simp [ZEt h.1,i1]
     · simp [ZEx h.1,i2]
 refine ⟨(h1 _ h).1,(h1 _ h).2,fun x hx y hy=>?_⟩;have:=List.all_eq_true.1 (List.all_eq_true.1 h x hx) y hy;cases y<;>first|rfl|cases this
def PassR.nil {n:Nat}:PassR n []:=fun _ h=>by cases h
end Go.Am
end
