/- Part. -/
set_option maxRecDepth 999999
set_option maxHeartbeats 0
set_option linter.all false
section
namespace Go.Am
def cmpN:List Nat->List Nat->Int
 | [],[]=>0
 | [],_::_=> -1
 | _::_,[]=>1
 | a::l1,b::l2=>if a<b then -1 else if b<a then 1 else cmpN l1 l2
end Go.Am
end
