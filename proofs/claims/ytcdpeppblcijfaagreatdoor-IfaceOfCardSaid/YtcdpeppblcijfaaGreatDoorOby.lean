/- Part. -/
import Derived.Test.YtcdpeppblcijfaaGreatDoorObx
import Derived.Test.YtcdpeppblcijfaaGreatDoorOaz
set_option maxRecDepth 999999
set_option maxHeartbeats 0
set_option linter.all false
section
namespace Go.Am.Fe
open Go.Proofs
set_option maxRecDepth 1000000
def ZEQ {S:SF} {f:Nat} {p:List A->Option (List A)} {args r:List A} {Q:QF} (e:S f=some (.prim (ZBS p))) (hp:p args=some r) (h:Q r []):Gives S f args [] Q:=by
 refine ⟨1,r,[],?_,h⟩
 unfold call Zja
 rw [e]
 simp [ZBS,hp]
def ZGn {S:SF} {f:Nat} {p:List A->Option (List Nat)} {args:List A} {r:List Nat} {Q:QF} (e:S f=some (.prim (ZpA p))) (hp:p args=some r) (h:Q [ps r] []):Gives S f args [] Q:=by
 refine ⟨1,[ps r],[],?_,h⟩
 unfold call Zja
 rw [e]
 simp [ZpA,hp]
def ZFD: ∀{ns:List (List Nat)},ns.length<=2->(∀s∈ns,s.length<=300000)->([46].intercalate ns).length<=2147483648
 | [],_,_=>by simp [List.intercalate]
 | [a],_,h=>by have:=h a Zs;simp [List.intercalate];omega
 | [a,b],_,h=>by have:=h a Zs;have:=h b Zs;simp [List.intercalate];omega
 | _::_::_::_,h,_=>absurd h Zs
end Go.Am.Fe
end
