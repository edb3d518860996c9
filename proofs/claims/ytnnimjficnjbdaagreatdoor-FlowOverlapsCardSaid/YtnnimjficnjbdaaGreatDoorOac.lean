/- Part. -/
import Derived.Test.YtnnimjficnjbdaaGreatDoorOab
set_option maxRecDepth 999999
set_option maxHeartbeats 0
set_option linter.all false
section
namespace Go.Am
inductive Fr where
 | seq (c:SCode)
 | blk (id:Nat)
 | inv (R:Env->Prop)
 | gh (g:Gh)
def ZqD (S:Nat->Option Fn):List Fr->(X->Env->Prop)->X->Env->Prop
 | [],Q=>Q
 | .seq c::k,Q=>after (ZqD S k Q) fun e=>Ends S c e (ZqD S k Q)
 | .blk id::k,Q=>inBlock id (ZqD S k Q)
 | .inv R::k,Q=>after (ZqD S k Q) R
 | .gh g::k,Q=>after (ZqD S k Q) fun e=>ZqD S k Q .normal (doGh g e)
def Go (S:Nat->Option Fn) (c:SCode) (e:Env) (k:List Fr) (Q:X->Env->Prop):Prop:=Ends S c e (ZqD S k Q)
def Ops (S:Nat->Option Fn) (ops:List SOp) (e:Env) (k:List Fr) (Q:X->Env->Prop):Prop:=EndsOps S ops e fun e'=>ZqD S k Q .normal e'
def Nx (S:Nat->Option Fn) (e:Env) (k:List Fr) (Q:X->Env->Prop):Prop:=ZqD S k Q .normal e
def Ext1 (S:Nat->Option Fn) (id:Nat) (e:Env) (k:List Fr) (Q:X->Env->Prop):Prop:=ZqD S k Q (.exit id) e
def Rt (S:Nat->Option Fn) (e:Env) (k:List Fr) (Q:X->Env->Prop):Prop:=ZqD S k Q .ret e
def Cd (S:Nat->Option Fn) (t:Bool) (a b:SCode) (e:Env) (k:List Fr) (Q:X->Env->Prop):Prop:=Go S (if t then a else b) e k Q
variable {S:Nat->Option Fn} {e:Env} {k:List Fr} {Q:X->Env->Prop}
theorem Ends.of_skip (h:Ends S .skip e Q):Q .normal e:=by
 obtain ⟨n,x,e',h1,h2⟩:=h
 cases n with
 | zero=>simp [exec] at h1
 | succ n=>simp only [exec,Option.some.injEq,Prod.mk.injEq] at h1;obtain ⟨rfl,rfl⟩:=h1;exact h2
theorem Ends.of_exit {id:Nat} (h:Ends S (.exit id) e Q):Q (.exit id) e:=by
 obtain ⟨n,x,e',h1,h2⟩:=h
 cases n with
 | zero=>simp [exec] at h1
 | succ n=>simp only [exec,Option.some.injEq,Prod.mk.injEq] at h1;obtain ⟨rfl,rfl⟩:=h1;exact h2
theorem Ends.of_ret (h:Ends S .ret e Q):Q .ret e:=by
 obtain ⟨n,x,e',h1,h2⟩:=h
 cases n with
 | zero=>simp [exec] at h1
 | succ n=>simp only [exec,Option.some.injEq,Prod.mk.injEq] at h1;obtain ⟨rfl,rfl⟩:=h1;exact h2
@[simp] theorem Go.skip:Go S .skip e k Q=Nx S e k Q:=propext ⟨Ends.of_skip,Ends.skip⟩
@[simp] theorem Go.gh {g:Gh} {c:SCode}:Go S (.gh g c) e k Q=Go S c (doGh g e) k Q:=by
 refine propext ⟨fun ⟨n,x,e',h1,h2⟩=>?_,fun ⟨n,x,e',h1,h2⟩=>⟨n+1,x,e',by simp only [exec];exact h1,h2⟩⟩
 cases n with
 | zero=>simp [exec] at h1
 | succ n=>simp only [exec] at h1;exact ⟨n,x,e',h1,h2⟩
@[simp] theorem Go.hg {g:Gh} {c:SCode}:Go S (.hg c g) e k Q=Go S c e (.gh g::k) Q:=by
 refine propext ⟨fun ⟨n,x,e',h1,h2⟩=>?_,fun ⟨n,x,e',h1,h2⟩=>?_⟩
 · cases n with
   | zero=>simp [exec] at h1
   | succ n=>
     rw [exec] at h1
     split at h1
     · rename_i e1 he
       simp only [Option.some.injEq,Prod.mk.injEq] at h1;obtain ⟨rfl,rfl⟩:=h1
       exact ⟨n,.normal,e1,he,h2⟩
     · rename_i q hq
       refine ⟨n,x,e',h1,?_⟩
       cases x with
       | normal=>exact absurd h1 (fun hh=>hq _ hh)
       | _=>exact h2
 · cases x with
   | normal=>exact ⟨n+1,.normal,doGh g e',by rw [exec,h1],h2⟩
   | exit id=>exact ⟨n+1,.exit id,e',by rw [exec,h1],h2⟩
   | ret=>exact ⟨n+1,.ret,e',by rw [exec,h1],h2⟩
@[simp] theorem Go.exit {id:Nat}:Go S (.exit id) e k Q=Ext1 S id e k Q:=propext ⟨Ends.of_exit,Ends.exit⟩
@[simp] theorem Go.ret:Go S .ret e k Q=Rt S e k Q:=propext ⟨Ends.of_ret,Ends.ret⟩
@[simp] theorem Go.seq {a b:SCode}:Go S (.seq a b) e k Q=Go S a e (.seq b::k) Q:=by
 refine propext ⟨fun h=>?_,fun h=>Ends.seq h⟩
 obtain ⟨n,x,e',h1,h2⟩:=h
 cases n with
 | zero=>simp [exec] at h1
 | succ n=>
   rw [exec] at h1
   split at h1
   · rename_i e1 he
     exact ⟨n,.normal,e1,he,n,x,e',h1,h2⟩
   · rename_i q hq
     refine ⟨n,x,e',h1,?_⟩
     cases x with
     | normal=>exact absurd h1 (fun hh=>hq _ hh)
     | _=>exact h2
@[simp] theorem Go.block {id:Nat} {b:SCode}:Go S (.block id b) e k Q=Go S b e (.blk id::k) Q:=by
 refine propext ⟨fun h=>?_,fun h=>Ends.block h⟩
 obtain ⟨n,x,e',h1,h2⟩:=h
 cases n with
 | zero=>simp [exec] at h1
 | succ n=>
   rw [exec] at h1
   split at h1
   · rename_i i e1 he
     refine ⟨n,.exit i,e1,he,?_⟩
     simp only [ZqD,inBlock]
     split at h1
     · rename_i hi
       simp only [Option.some.injEq,Prod.mk.injEq] at h1;obtain ⟨rfl,rfl⟩:=h1
       rw [if_pos (by simpa using hi)];exact h2
     · rename_i hi
       simp only [Option.some.injEq,Prod.mk.injEq] at h1;obtain ⟨rfl,rfl⟩:=h1
       rw [if_neg (by simpa using hi)];exact h2
   · rename_i q hq
     refine ⟨n,x,e',h1,?_⟩
     cases x with
     | exit i=>exact absurd h1 (fun hh=>hq _ _ hh)
     | _=>exact h2
@[simp] theorem Go.region {ops:List SOp}:Go S (.region ops) e k Q=Ops S ops (e.kills (ops.flatMap fun o=>o.kind.creates)) k Q:=by
 refine propext ⟨fun h=>?_,fun h=>Ends.region h⟩
 obtain ⟨n,x,e',h1,h2⟩:=h
 cases n with
 | zero=>simp [exec] at h1
 | succ n=>
   rw [exec] at h1
   split at h1
   · rename_i e1 he
     simp only [Option.some.injEq,Prod.mk.injEq] at h1;obtain ⟨rfl,rfl⟩:=h1
     exact ⟨n,e1,he,h2⟩
   · cases h1
@[simp] theorem Ops.nil:Ops S [] e k Q=Nx S e k Q:=propext ⟨fun ⟨_,_,h1,h2⟩=>by simp only [Zdo,Option.some.injEq] at h1;subst h1;exact h2,fun h=>⟨0,e,rfl,h⟩⟩
@[simp] theorem Nx.nil:Nx S e [] Q=Q .normal e:=rfl
@[simp] theorem Nx.seq {c:SCode}:Nx S e (.seq c::k) Q=Go S c e k Q:=rfl
@[simp] theorem Nx.blk {id:Nat}:Nx S e (.blk id::k) Q=Nx S e k Q:=rfl
@[simp] theorem Nx.inv {R:Env->Prop}:Nx S e (.inv R::k) Q=R e:=rfl
@[simp] theorem Nx.gh {g:Gh}:Nx S e (.gh g::k) Q=Nx S (doGh g e) k Q:=rfl
@[simp] theorem Ext1.gh {id:Nat} {g:Gh}:Ext1 S id e (.gh g::k) Q=Ext1 S id e k Q:=rfl
@[simp] theorem Rt.gh {g:Gh}:Rt S e (.gh g::k) Q=Rt S e k Q:=rfl
@[simp] theorem Ext1.nil {id:Nat}:Ext1 S id e [] Q=Q (.exit id) e:=rfl
@[simp] theorem Ext1.seq {id:Nat} {c:SCode}:Ext1 S id e (.seq c::k) Q=Ext1 S id e k Q:=rfl
@[simp] theorem Ext1.blk {id i:Nat}:Ext1 S id e (.blk i::k) Q=if id=i then Nx S e k Q else Ext1 S id e k Q:=rfl
@[simp] theorem Ext1.inv {id:Nat} {R:Env->Prop}:Ext1 S id e (.inv R::k) Q=Ext1 S id e k Q:=rfl
@[simp] theorem Rt.nil:Rt S e [] Q=Q .ret e:=rfl
@[simp] theorem Rt.seq {c:SCode}:Rt S e (.seq c::k) Q=Rt S e k Q:=rfl
@[simp] theorem Rt.blk {id:Nat}:Rt S e (.blk id::k) Q=Rt S e k Q:=rfl
@[simp] theorem Rt.inv {R:Env->Prop}:Rt S e (.inv R::k) Q=Rt S e k Q:=rfl
def CdD (S:Nat->Option Fn) (d:D) (a b:SCode) (e:Env) (k:List Fr) (Q:X->Env->Prop):Prop:= ∃t,d= .a (.one (.p (.bool t)))/\Cd S t a b e k Q
@[simp] theorem Go.cond {x:Arg} {a b:SCode}:Go S (.cond x a b) e k Q=CdD S (Zbl e [] x) a b e k Q:=by
 refine propext ⟨fun h=>?_,fun ⟨t,h1,h2⟩=>Ends.cond h1 h2⟩
 obtain ⟨n,x',e',h1,h2⟩:=h
 cases n with
 | zero=>simp [exec] at h1
 | succ n=>
   rw [exec] at h1
   split at h1
   · rename_i t ht;exact ⟨t,ht,n,x',e',h1,h2⟩
   · cases h1
@[simp] theorem CdD.eq {t:Bool} {a b:SCode}:CdD S (.a (.one (.p (.bool t)))) a b e k Q=Cd S t a b e k Q:=propext ⟨fun ⟨t',h1,h2⟩=>by cases h1;exact h2,fun h=>⟨t,rfl,h⟩⟩
@[simp] theorem Cd.tt {a b:SCode}:Cd S true a b e k Q=Go S a e k Q:=rfl
@[simp] theorem Cd.ff {a b:SCode}:Cd S false a b e k Q=Go S b e k Q:=rfl
def Zch:ZaQ:=fun _ _ _=>none
def Op1 (S:Nat->Option Fn) (r:Option Env) (os:List SOp) (k:List Fr) (Q:X->Env->Prop):Prop:= ∃e,r=some e/\Ops S os e k Q
@[simp] theorem Op1.eq {os:List SOp}:Op1 S (some e) os k Q=Ops S os e k Q:=propext ⟨fun ⟨e',h1,h2⟩=>by cases h1;exact h2,fun h=>⟨e,rfl,h⟩⟩
theorem Zdt {F:ZaQ} {o:SOp} (h:o.kind.isCall=false):ZaT F o e=ZaT Zch o e:=by
 have hd:doOp F o e=doOp Zch o e:=by
  unfold doOp
  cases hk:o.kind<;>first|rfl|(rw [hk] at h;cases h)
 unfold ZaT;rw [hd]
theorem Ops.step {o:SOp} {os:List SOp} (h:o.kind.isCall=false):Ops S (o::os) e k Q=Op1 S (ZaT Zch o e) os k Q:=by
 refine propext ⟨fun ⟨n,e',h1,h2⟩=>?_,fun ⟨e1,h1,h2⟩=>?_⟩
 ·simp only [Zdo] at h1
  split at h1
  ·rename_i e1 he
   rw [Zdt h] at he
   exact ⟨e1,he,n,e',h1,h2⟩
  ·cases h1
 ·exact EndsOps.cons (n:=0) (by rw [Zdt h];exact h1) h2
def prep (pass:Bool) (own:List Nat) (na:Nat) (xs:List D):Option (List A×List (List C)×Nat):=
 match asOf (xs.take na),ZcK pass (xs.drop na) with
 | some args,some (os,bs)=>match Zdf bs,ZlP (R.down (some os.length) own) (args.map A.part) with
   | some cs,some xs=>match Zmc (R.down (some os.length) own) ((os++cs).map fun l=>l.map C.part) with
     | some os'=>some (xs,os',os.length)
     | none=>none
   | _,_=>none
 | _,_=>none
def Back (S:Nat->Option Fn) (pass:Bool) (own:List Nat) (n m:Nat) (outs:List Nat) (e:Env) (os:List SOp) (k:List Fr) (Q:X->Env->Prop) (rs:List A) (objs:List (List C)):Prop:=
 ∃ds,ZfY pass own n m rs objs=some ds/\Op1 S (e.sets outs ds) os k Q
def Cl (S:Nat->Option Fn) (f:Nat) (pass:Bool) (own:List Nat) (r:Option (List A×List (List C)×Nat)) (outs:List Nat) (e:Env) (os:List SOp) (k:List Fr) (Q:X->Env->Prop):Prop:=
 ∃args objs n,r=some (args,objs,n)/\Gives S f args objs (Back S pass own n objs.length outs e os k Q)
@[simp] theorem Cl.eq {f n:Nat} {pass:Bool} {own outs:List Nat} {args:List A} {objs:List (List C)} {os:List SOp}:
  Cl S f pass own (some (args,objs,n)) outs e os k Q=Gives S f args objs (Back S pass own n objs.length outs e os k Q):=
 propext ⟨fun ⟨a,o,n',h1,h2⟩=>by cases h1;exact h2,fun h=>⟨_,_,_,rfl,h⟩⟩
theorem ZkT {F:ZaQ} {f na:Nat} {pass:Bool} {own:List Nat} {xs ds:List D}:Zj7 F f pass own na xs=some ds↔
   ∃args objs n rs os',prep pass own na xs=some (args,objs,n)/\F f args objs=some (rs,os')/\ZfY pass own n objs.length rs os'=some ds:=by
 unfold Zj7 prep ZcU ZsU
 cases h1:asOf (xs.take na) with
 | none=>simp
 | some args=>
   cases h2:ZcK pass (xs.drop na) with
   | none=>simp
   | some p=>
     obtain ⟨os,bs⟩:=p
     simp only []
     cases h3:Zdf bs with
     | none=>simp
     | some cs=>
       cases h4:ZlP (R.down (some os.length) own) (args.map A.part) with
       | none=>simp
       | some xs'=>
         simp only []
         cases h5:Zmc (R.down (some os.length) own) ((os++cs).map fun l=>l.map C.part) with
         | none=>simp
         | some os'=>
           simp only [Option.some.injEq,Prod.mk.injEq]
           constructor
           · intro h
             split at h
             · rename_i rs os'' h6
               exact ⟨_,_,_,rs,os'',⟨rfl,rfl,rfl⟩,h6,h⟩
             · cases h
           · rintro ⟨_,_,_,rs,os'',⟨rfl,rfl,rfl⟩,h6,h7⟩
             rw [h6];exact h7
theorem Ops.call {f na:Nat} {pass b:Bool} {own tk outs:List Nat} {ins:List Arg} {os:List SOp}:
  Ops S (⟨.call f pass own na,ins,tk,outs,none,b⟩::os) e k Q=Cl S f pass own (prep pass own na (ins.map (Zbl e tk))) outs (ZaA e tk) os k Q:=by
 refine propext ⟨fun ⟨n,e',h1,h2⟩=>?_,fun ⟨args,objs,n,h1,m,rs,os',h2,ds,h3,e1,h4,h5⟩=>?_⟩
 ·simp only [Zdo] at h1
  split at h1
  ·rename_i e1 he
   simp only [ZaT,doOp,ZaI] at he
   split at he
   ·cases he
   ·rename_i ds hds
    obtain ⟨args,objs,n',rs,os',p1,p2,p3⟩:=ZkT.1 hds
    exact ⟨args,objs,n',p1,n,rs,os',p2,ds,p3,e1,he,n,e',h1,h2⟩
  ·cases h1
 ·refine EndsOps.cons (n:=m) ?_ h5
  simp only [ZaT,doOp,ZaI]
  rw [ZkT.2 ⟨args,objs,n,rs,os',h1,h2,h3⟩]
  exact h4
def GivesU (S:Nat->Option Fn) (f:Nat) (args:List A) (Q:List A->List (List C)->Prop):Prop:= ∃n rs bs,call S n (UPB+f) args []=some (rs,[]::bs)/\Q rs bs
def upDs (κs:List Nat) (rs:List A):List (List C)->Option (List D)
 | []=>match ZlP (R.up (some 0) []) rs with
   | some rs'=>some (resD rs'::κs.map fun _=> .undef)
   | none=>none
 | b::bs=>ZfY false κs 0 κs.length rs (b::bs)
theorem ZLw {κs:List Nat} {rs:List A} {bs:List (List C)}:ZLH κs rs ([]::bs)=upDs κs rs bs:=by
 cases bs<;>rfl
def ZRX (S:Nat->Option Fn) (κs outs:List Nat) (e:Env) (os:List SOp) (k:List Fr) (Q:X->Env->Prop) (rs:List A) (bs:List (List C)):Prop:=
 ∃ds,upDs κs rs bs=some ds/\Op1 S (e.sets outs ds) os k Q
def ClU (S:Nat->Option Fn) (f:Nat) (κs:List Nat) (r:Option (List A)) (outs:List Nat) (e:Env) (os:List SOp) (k:List Fr) (Q:X->Env->Prop):Prop:=
 ∃args,r=some args/\GivesU S f args (ZRX S κs outs e os k Q)
def ZQ7 (xs:List D):Option (List A):=match asOf xs with
 | some args=>ZlP (R.down (some 0) []) (args.map A.lone)
 | none=>none
theorem Ops.callU {f:Nat} {κs tk outs:List Nat} {b:Bool} {ins:List Arg} {os:List SOp}:
  Ops S (⟨.callU f κs,ins,tk,outs,none,b⟩::os) e k Q=ClU S f κs (ZQ7 (ins.map (Zbl e tk))) outs (ZaA e tk) os k Q:=by
 refine propext ⟨fun ⟨n,e',h1,h2⟩=>?_,fun ⟨args,h1,m,rs,bs,h2,ds,h3,e1,h4,h5⟩=>?_⟩
 ·simp only [Zdo] at h1
  split at h1
  ·rename_i e1 he
   simp only [ZaT,doOp,ZaI] at he
   split at he
   ·cases he
   ·rename_i ds hds
    unfold ZIk ZKU at hds
    split at hds
    ·rename_i args ha
     split at hds
     ·rename_i xs hx
      split at hds
      ·rename_i rs os' hc
       obtain ⟨bs,rfl⟩: ∃bs,os'=[]::bs:=by
        unfold ZLH at hds
        split at hds
        ·exact ⟨_,rfl⟩
        ·exact ⟨_,rfl⟩
        ·cases hds
       rw [ZLw] at hds
       exact ⟨xs,by unfold ZQ7;rw [ha];exact hx,n,rs,bs,hc,ds,hds,e1,he,n,e',h1,h2⟩
      ·cases hds
     ·cases hds
    ·cases hds
  ·cases h1
 ·refine EndsOps.cons (n:=m) ?_ h5
  simp only [ZaT,doOp,ZaI]
  unfold ZIk ZKU
  unfold ZQ7 at h1
  split at h1
  ·rename_i as ha
   rw [ha]
   simp only [h1,h2,ZLw,h3]
   exact h4
  ·cases h1
end Go.Am
end
