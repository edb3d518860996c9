/- Part. -/
import Derived.Test.YtnnimjficnjbdaaGreatDoorOay
import Derived.Test.YtnnimjficnjbdaaGreatDoorProg
import Derived.WalkKit
import Derived.Defers
import Derived.Recover
import Derived.Tactics2
import Derived.Laws.Pointers
import Derived.Laws.Externs
import Derived.MapKept
set_option maxRecDepth 999999
set_option maxHeartbeats 0
set_option linter.all false
section
namespace Go.Proofs
open Go.RowKit
set_option maxHeartbeats 4000000
set_option maxRecDepth 1000000
theorem Tryz.fail_w (e at':Int) (x0 x1 x2 x3 x4 x5 x6 x7 x8:Value) (w:World):
  Calls Tryz.prog 31 #[.int .i64 e,.agg #[x0,x1,x2,x3,x4,x5,x6,x7,x8,.int .i64 at']] w fun r w'=>r= .panicked [{v:= .iface 147 (.agg #[.int .i64 e,.int .i64 at']),recovered:=false}]/\w'=w.alloc (.cells #[x0,x1,x2,x3,x4,x5,x6,x7,x8,.int .i64 at'] 27):=by
 have mixed:Tryz.prog.follows .mixedOrders=true:=by kernel_rfl
 go_enter Tryz.func31,Tryz.ntmps31
 go_wp2
 have hp: ∀(t:TypeId) (v:Value) (w:World),(Instr.panic (.iface t v)).run Tryz.prog w= .halt (.panic (.iface t v)) w:=fun _ _ _=>rfl
 rw [hp]
 exact ⟨rfl,rfl,rfl⟩
section
variable {P:Program}
theorem ZJn (w:World) (d:Nat) (t k e:TypeId) (p:Option Nat) (h:P.underlying t=some (.map k e)):
  (Op.equalIn (d+1) t (.map p) (.map none)).run P w= .ok p.isNone w:=by
 cases p<;>simp [Op.equalIn,run_underlying h]
theorem ZJz (w:World) (t k e:TypeId) (p:Option Nat) (h:P.underlying t=some (.map k e)):
  (binOp .eql t (.map p) (.map none)).run P w= .ok (.bool p.isNone) w:=by
 simp only [binOp]
 simp [show Op.equal t (.map p) (.map none)=Op.equalIn (9999+1) t (.map p) (.map none) from rfl,ZJn w 9999 t k e p h]
theorem ZJM (w:World) (t xT k e:TypeId) (v:Value) (h:P.underlying t=some (.map k e)):(Instr.typeAssert (.iface t v) xT t false).run P w= .ok v w:=by
 simp [Instr.typeAssert,run_underlying h,go_sem,Result.andThen]
theorem ZLI (w:World) {r:Nat} {es:Array MapEntry} {clock:Nat} (t:TypeId) (hb:w.heap[r]? =some (.map es clock)):
    (Extern.MapsClone.clone #[.iface t (.map (some r))]).run P w= .ok (.iface t (.map (some w.heap.size))) (w.alloc (.map es clock)):=by
  have e:Extern.MapsClone.clone #[.iface t (.map (some r))]=(getObj r>>=fun o=>match o with
      | .map entries clock=>(newObj (.map entries clock)>>=fun n=>pure (.iface t (.map (some n))))
      | _ => stuck "maps.clone: a map expected") := rfl
  rw [e]
  simp [MapKept.run_getObj_map hb,Result.andThen,go_sem]
end
theorem Tryz.u78:Tryz.prog.underlying 78=some (.map 9 3):=by kernel_rfl
theorem Tryz.clone_w (b:Nat) (es:Array MapEntry) (clock:Nat) (w:World) (hb:w.heap[b]? =some (.map es clock)):
  Calls Tryz.prog 126 #[.map (some b)] w fun r w'=>r= .returned (.map (some w.heap.size))/\w'=w.alloc (.map es clock):=by
 have mixed:Tryz.prog.follows .mixedOrders=true:=by kernel_rfl
 have hq:=fun w=>ZJz (P:=Tryz.prog) w 78 _ _ (some b) Tryz.u78
 go_enter Tryz.func126,Tryz.ntmps126
 go_wp2
 rw [run_callFunc_extern Tryz.func218 (by kernel_rfl) (by kernel_rfl) (by kernel_rfl) (e:=Extern.MapsClone.clone) (by kernel_rfl),ZLI (P:=Tryz.prog) w 78 hb]
 simp only [Result.andThen]
 rw [Oper.upon_value]
 go_wp2
 rw [ZJM _ 78 _ _ _ _ Tryz.u78]
 simp only [Result.andThen]
 rw [Oper.upon_value]
 go_wp2
 go_ret
 exact ⟨rfl,rfl⟩
theorem Tryz.clone_nil_w (w:World):Calls Tryz.prog 126 #[.map none] w fun r w'=>r= .returned (.map none)/\w'=w:=by
 have mixed:Tryz.prog.follows .mixedOrders=true:=by kernel_rfl
 have hq:=fun w=>ZJz (P:=Tryz.prog) w 78 _ _ none Tryz.u78
 go_enter Tryz.func126,Tryz.ntmps126
 go_wp2
 go_ret
 exact ⟨rfl,rfl⟩
end Go.Proofs
end
section
namespace Go.Proofs
open Go.RowKit
set_option maxHeartbeats 4000000
set_option maxRecDepth 1000000
theorem ZIB {P:Program} (w:World) (t xT:TypeId) (v:Value) {fs:Array Field} (h:P.underlying t=some (.struct fs)):(Instr.typeAssert (.iface t v) xT t true).run P w= .ok (.tuple #[v,.bool true]) w:=by
 simp [Instr.typeAssert,run_underlying h,go_sem,Result.andThen]
def ZMG:Option TypeDesc->Bool
 | some (.struct _)=>true
 | _=>false
theorem Tryz.u147: ∃fs,Tryz.prog.underlying 147=some (.struct fs):=by
 have h:ZMG (Tryz.prog.underlying 147)=true:=by kernel_rfl
 unfold ZMG at h
 split at h
 ·exact ⟨_,by assumption⟩
 ·cases h
theorem Tryz.catch_w (b0:Nat) (a b:Int) (c0 d0:Int) (older:List PanicEntry) (w:World) (hb:w.heap[b0]? =some (.cells #[.int .i64 c0,.int .i64 d0] 45 (0,0))):
  CallsD Tryz.prog 64 #[.pointer (some ⟨b0,0,none⟩)] (.panicking ({v:= .iface 147 (.agg #[.int .i64 a,.int .i64 b]),recovered:=false}::older)) w fun e u' w'=>
   e= .returned (.tuple #[])/\u'= .panicking ({v:= .iface 147 (.agg #[.int .i64 a,.int .i64 b]),recovered:=true}::older)/\
    w'=((w.setCell ⟨b0,0,none⟩ (.int .i64 a)).setCell ⟨b0,1,none⟩ (.int .i64 b)).alloc (.cells #[.int .i64 a,.int .i64 b] 147):=by
 have hlt:b0<w.heap.size:=(Array.getElem?_eq_some_iff.1 hb).1
 obtain ⟨fs,hu147⟩:=Tryz.u147
 have k0:w.cell? ⟨b0,0,none⟩=some (.int .i64 c0):=by simp [World.cell?,hb]
 have k1:w.cell? ⟨b0,1,none⟩=some (.int .i64 d0):=by simp [World.cell?,hb]
 have z0:w.frozen? ⟨b0,0,none⟩=false:=by simp [World.frozen?,hb]
 have z1:w.frozen? ⟨b0,1,none⟩=false:=by simp [World.frozen?,hb]
 refine callsD_of_wpS Tryz.func64 rfl fun c₀ cs hu=>?_
 apply wpS_seq
 apply wpS_region
 simp [wpOpsS,go_sem,recoverD,hu,Tryz.ntmps64,Exit.thenS]
 refine wpS_of_wp ?_
 show Code.wp _ _ _ {tmps:= #[.pointer (some ⟨b0,0,none⟩),undef,undef,undef,Value.iface 147 (Value.agg #[Value.int IntKind.i64 a,Value.int IntKind.i64 b]),undef,undef,undef,undef,undef,undef,undef],defers:=[]} w
 go_wp2
 rw [ZIB _ 147 20 _ hu147]
 simp only [Result.andThen]
 rw [Oper.upon_value]
 go_wp2
 cases c₀
 simp_all [bodyPostS,results,Tryz.results64]
theorem Tryz.guarded_w (f1:Nat) (fs cs:Array Value) (w:World) (R:Int->Int->World->Prop) (hent:Am.Zhz Tryz.prog f1=true)
  (hf:Calls Tryz.prog f1 (fs++cs) (w.alloc (.cells #[.int .i64 0,.int .i64 0] 45)) fun r w1=> ∃a b,r= .panicked [{v:= .iface 147 (.agg #[.int .i64 a,.int .i64 b]),recovered:=false}]/\w1.heap[w.heap.size]? =some (.cells #[.int .i64 0,.int .i64 0] 45 (0,0))/\R a b w1):
  Calls Tryz.prog 27 #[.func (.func f1) fs cs] w fun e w'=> ∃a b w1,e= .returned (.agg #[.int .i64 a,.int .i64 b])/\w1.heap[w.heap.size]? =some (.cells #[.int .i64 0,.int .i64 0] 45 (0,0))/\R a b w1/\
   w'=((w1.setCell ⟨w.heap.size,0,none⟩ (.int .i64 a)).setCell ⟨w.heap.size,1,none⟩ (.int .i64 b)).alloc (.cells #[.int .i64 a,.int .i64 b] 147):=by
 have mixed:Tryz.prog.follows .mixedOrders=true:=by kernel_rfl
 have hmf: ∀(fn:Fn) (first cap:Array Value) (w:World),(Instr.makeFunc fn first cap).run Tryz.prog w= .ok (.func fn first cap) w:=fun _ _ _ _=>rfl
 go_enter_defers Tryz.func27,Tryz.ntmps27
 go_wp2
 rw [@Am.Zpc Cm.wi0 Tryz.prog f1 hent,Oper.upon_enter]
 refine hf.mono ?_
 rintro r w1 ⟨a,b,rfl,hc,hR⟩
 show Leaves Tryz.prog Tryz.f27 _ _ _ _ w1
 refine leaves_cons (f:=64) (args:= #[.pointer (some ⟨w.heap.size,0,none⟩)]) Zs (by simp [go_sem]) ?_
 refine (Tryz.catch_w w.heap.size a b 0 0 [] w1 hc).mono ?_
 rintro e u' w'' ⟨rfl,rfl,rfl⟩
 have hlt:w.heap.size<w1.heap.size:=(Array.getElem?_eq_some_iff.1 hc).1
 have k0:w1.cell? ⟨w.heap.size,0,none⟩=some (.int .i64 0):=by simp [World.cell?,hc]
 have k1:w1.cell? ⟨w.heap.size,1,none⟩=some (.int .i64 0):=by simp [World.cell?,hc]
 have j1:(w1.setCell ⟨w.heap.size,0,none⟩ (.int .i64 a)).cell? ⟨w.heap.size,1,none⟩=some (.int .i64 0):=(World.cell?_setCell_other w1 _ _ _ (by intro h;injection h with _ h;cases h)).trans k1
 have j2:((w1.setCell ⟨w.heap.size,0,none⟩ (.int .i64 a)).setCell ⟨w.heap.size,1,none⟩ (.int .i64 b)).cell? ⟨w.heap.size,1,none⟩=some (.int .i64 b):=World.cell?_setCell_same _ _ _ j1
 have j3:((w1.setCell ⟨w.heap.size,0,none⟩ (.int .i64 a)).setCell ⟨w.heap.size,1,none⟩ (.int .i64 b)).cell? ⟨w.heap.size,0,none⟩=some (.int .i64 a):=(World.cell?_setCell_other _ _ _ _ (by intro h;injection h with _ h;cases h)).trans (World.cell?_setCell_same _ _ _ k0)
 obtain ⟨W2,hW2⟩: ∃W2,W2=((w1.setCell ⟨w.heap.size,0,none⟩ (.int .i64 a)).setCell ⟨w.heap.size,1,none⟩ (.int .i64 b)).alloc (.cells #[.int .i64 a,.int .i64 b] 147):=⟨_,rfl⟩
 have j4:W2.cell? ⟨w.heap.size,1,none⟩=some (.int .i64 b):=by rw [hW2,World.cell?_alloc_old _ _ _ Ze];exact j2
 have j5:W2.cell? ⟨w.heap.size,0,none⟩=some (.int .i64 a):=by rw [hW2,World.cell?_alloc_old _ _ _ Ze];exact j3
 rw [<-hW2]
 simp [Leaves,settle,results,Tryz.results27,go_sem,j4,j5]
 exact ⟨a,b,⟨rfl,rfl⟩,w1,hc,hR,hW2⟩
end Go.Proofs
end
