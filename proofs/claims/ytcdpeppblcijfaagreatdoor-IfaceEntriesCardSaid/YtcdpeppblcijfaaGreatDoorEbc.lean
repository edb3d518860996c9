/- Part. -/
import Derived.Test.YtcdpeppblcijfaaGreatDoorEbb
set_option maxRecDepth 999999
set_option maxHeartbeats 0
set_option linter.all false
section
namespace Go.Am.Fe
variable {S:SF} {Q:QF}
attribute [local simp] ZbO if_pos if_neg decide_eq_true decide_eq_false Yi Yj ZgF Ops.callv List.idxOf?_cons
def Fu.ent_symm {f g:Fu} (h:f.ent g) (hf:f.gs.Nodup) (hg:g.kn) (hg2:g.okn):g.ent f:=by
 obtain ⟨a1,a2,a3,a4,a5,a6,a7⟩:=h
 obtain ⟨⟨_,_,g3,g4,g5,g6⟩,_⟩:=hg2
 have hm:Mid g.gs f.gs g.gs:=⟨a3.symm,a3,hf⟩
 refine ⟨a1.symm,a2.symm,a3.symm,?_,?_,?_,?_⟩
 ·rw [a4,hm.res hg.rs,ZEf fun x hx=>Re.put_id (g3.2 x hx)]
 ·rw [ZJS,a5,hm.pas hg.ps,ZEf fun x hx=>Pa.put_id (g4.2 x hx)]
 ·rw [a6,Ty.put_put hm.a hm.b hm.d hg.r,Ty.put_id g5]
 ·rw [a7,Ty.put_put hm.a hm.b hm.d hg.e,Ty.put_id g6]
abbrev Fu.okk (f:Fu):Prop:=f.okn/\f.kn
def Fu.ent.symm' {f g:Fu} (h:f.ent g) (hf:f.kn) (hg:g.okk):g.ent f:=Fu.ent_symm h hf.nd hg.2 hg.1
section
variable {m1 m2:Mo} {b:List Rz} {i:Nat}
end
end Go.Am.Fe
end
section
namespace Go.Am.Fe
variable {S:SF} {Q:QF}
attribute [local simp] ZbO if_pos if_neg decide_eq_true decide_eq_false Yi Yj ZgF Ops.callv List.idxOf?_cons
def anyB {α:Type} (l:List α) (p:α->Bool):Bool:=l.any p
def any_nil {α:Type} {p:α->Bool}:anyB [] p=false:=rfl
end Go.Am.Fe
end
