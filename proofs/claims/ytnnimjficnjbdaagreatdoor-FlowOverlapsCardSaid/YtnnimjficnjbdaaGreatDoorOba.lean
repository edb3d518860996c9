/- Part. -/
import Derived.Test.YtnnimjficnjbdaaGreatDoorOay
import Derived.Lib.Bytealg
import Derived.Laws.Externs
set_option maxRecDepth 999999
set_option maxHeartbeats 0
set_option linter.all false
section
namespace Go.Cm
variable {P:Program} {h:H}
theorem ZQb {f : FuncId} {fn : Func} {ex : Array Value → Sem Value} (hf : P.funcs[f]? = some fn) (hname : (fn.name == "runtime.NumGoroutine") = false) (hb : fn.body.isNone = true) (hn : Extern.findNext fn = none) (he : Extern.find fn = some ex)
    {args:List V} {v:V} (hr: ∀(g:G) (w:World) (vs:List Value),Rels g args vs→ ∃u,(ex vs.toArray).run P w= .ok u w∧Rel g v u):ZHF P f args h v h:=
  .inr ⟨rfl,fun g w vs hv=>by
    obtain ⟨u,h1,h2⟩:=hr g w vs hv
    exact ⟨u,by rw [run_callFunc_extern hf hname hb hn he,h1];rfl,h2⟩⟩
def ZMs:List V->Option V
 | [x]=>some x
 | _=>none
theorem ZM4 {f : FuncId} {fn : Func} (hf : P.funcs[f]? = some fn) (hname : (fn.name == "runtime.NumGoroutine") = false) (hb : fn.body.isNone = true) (hn : Extern.findNext fn = none) (he : Extern.find fn = some Extern.AbiNoEscape.same)
    (args:List V) (h:H) (v:V) (hx:ZMs args=some v):ZHF P f args h v h:=by
  unfold ZMs at hx
  split at hx
  · cases hx
    refine ZQb hf hname hb hn he fun g w vs hv=>?_
    simp only [Rels] at hv
    obtain ⟨u,us,rfl,hu,rfl⟩:=hv
    exact ⟨u,Lib.run_noEscape w u,hu⟩
  · cases hx
def cmpL:List Nat->List Nat->Int
 | [],[]=>0
 | [],_::_=> -1
 | _::_,[]=>1
 | a::l,b::r=>if Nat.blt a b then -1 else if Nat.blt b a then 1 else cmpL l r
theorem ZOd: ∀(a b:List UInt8),Lib.compareBytes a b=cmpL (a.map UInt8.toNat) (b.map UInt8.toNat)
 | [],[]=>rfl
 | [],_::_=>rfl
 | _::_,[]=>rfl
 | a::l1,b::l2=>by
   simp only [Lib.compareBytes,List.map_cons,cmpL,UInt8.lt_iff_toNat_lt,ZOd l1 l2,Nat.blt_eq]
def ZO8:List V->Option V
 | [.str a,.str b]=>some (.int .i64 (cmpL a b))
 | _=>none
theorem ZNp {f : FuncId} {fn : Func} (hf : P.funcs[f]? = some fn) (hname : (fn.name == "runtime.NumGoroutine") = false) (hb : fn.body.isNone = true) (hn : Extern.findNext fn = none) (he : Extern.find fn = some Extern.BytealgCompare.compare)
    (args:List V) (h:H) (v:V) (hx:ZO8 args=some v):ZHF P f args h v h:=by
  unfold ZO8 at hx
  split at hx
  · rename_i a b
    cases hx
    refine ZQb hf hname hb hn he fun g w vs hv=>?_
    simp only [Rels] at hv
    obtain ⟨u,us,rfl,hu,u',us',rfl,hu',rfl⟩:=hv
    obtain ⟨x,rfl,rfl⟩:=ZHk hu
    obtain ⟨y,rfl,rfl⟩:=ZHk hu'
    refine ⟨_,Lib.run_compareString x y w,?_⟩
    rw [ZOd]
    simp only [Rel]
    rfl
  · cases hx
end Go.Cm
end
section
namespace Go.Cm
variable {P:Program}
def tabX (P:Program) (l:List (Nat×(List V->Option V))) (f:Nat):Option Fn:=match l.find? (fun x=>Nat.beq x.1 f) with
 | some x=>some (.ext x.2)
 | none=>(P.funcs[f]?).map .code
theorem ZPz {l:List (Nat×(List V->Option V))} (hl: ∀x∈l,∀(args:List V) (h:H) (v:V),x.2 args=some v->ZHF P x.1 args h v h):ZIJ P (tabX P l):=by
 intro f
 unfold tabX
 cases hf:l.find? (fun x=>Nat.beq x.1 f) with
 | some x=>
   simp only
   intro args h v hx
   have h1:=List.mem_of_find?_eq_some hf
   have h2:=List.find?_some hf
   have h3:x.1=f:=Nat.eq_of_beq_eq_true h2
   rw [<-h3]
   exact hl x h1 args h v hx
 | none=>
   simp only
   cases hg:P.funcs[f]? with
   | none=>simp
   | some fn=>simp
end Go.Cm
end
