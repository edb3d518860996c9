/- Part. -/
set_option maxRecDepth 999999
set_option maxHeartbeats 0
set_option linter.all false
section
namespace Go.Am
def cmpN:List Nat->List Nat->Int
 | [],[]=>0
 | [],_::_=> -1
 | _::_,[]=>1
 | a::l1,b::l2=>if a<b then -1 else if b<a then 1 else cmpN l1 l2
theorem ZEI: ∀(a b:List Nat),cmpN a b=0↔a=b
 | [],[]=>by simp [cmpN]
 | [],_::_=>by simp [cmpN]
 | _::_,[]=>by simp [cmpN]
 | a::l,b::m=>by
   rw [cmpN];by_cases h:a<b
   · rw [if_pos h];simp;omega
   · rw [if_neg h];by_cases h':b<a
     · rw [if_pos h'];simp;omega
     · rw [if_neg h',ZEI l m];simp;omega
theorem ZGp (a b:List Nat): -1<=cmpN a b/\cmpN a b<=1:=by
 fun_induction cmpN a b<;>simp_all
end Go.Am
end
