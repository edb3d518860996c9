/-
  NARROWER THAN 'FOR EVERY INPUT', by the rows' own cells (each row's printed sentence says how): IfaceGrows: laid · IfaceChains: laid · IfaceOrder: laid · IfaceReasons: laid · IfaceEntries: laid · IfaceOpaque: laid · IfaceSelf: laid · IfaceOf: laid.
  DERIVED. THE GIVEN ROWS OF THIS SEAT. 8 by the template 'for every input the law returns true; each argument reads behind the call as it read before'; 0 by the template 'total and deterministic' (their statements: YtcdpeppblcijfaaGreatDoorTotals.lean).
  GIVEN WITH THE SEED: the statements are not yours to turn. If you find one false, say at which input.
  Laid BY PROGRAM, IN A SANDBOX (cutbox-rows.mjs): the forced cells as the released guide's own fill.sh prints them over the translation 8bef405fed0e2285… (all of the seat's roots in one cut). By AI agents, Wed Nov 11 2026. No macro, syntax, notation, axiom, sorry.
-/
import Derived.Test.YtcdpeppblcijfaaGreatDoorChecked
import GoSem.Claim
import GoSem.ClaimJoined
import GoSem.ClaimMapViews
import Derived.JoinedTies
import Derived.KernelRfl
namespace Go.Proofs.YtcdpeppblcijfaaGreatDoor
/- THE CELL 'sum', in the pinned program and in every row, IS THE sha256 OF THE DUMP (.gsa) THAT YtcdpeppblcijfaaGreatDoorProg.lean LOADS. Nothing in Lean hashes anything: it is a label: what it is worth is what the hold of that sum in a sandbox is worth. -/
noncomputable def Tryz.pinned : Pinned := { name := "ytcdpeppblcijfaagreatdoor", sum := "8bef405fed0e22853cabf447d7b95c3355a95c19d2a2527195dc0f227a3e3e0a", checked := Tryz.checked }
namespace Rows
def none {H : Type} : Left H := { results := [], args := [] }

/- WHAT THE LISTED PACKAGE-LEVEL VARIABLES READ AS WHEN THE CALL BEGINS. Each datum BY PROGRAM (the guide's laid-datum.mjs) off the statement by which the dump's own 'gosem.cut.vars' lays the variable. In a bare row this is a premise. The card (YtcdpeppblcijfaaGreatDoorCards.lean) ties it to the program's text. -/
def laid_math_bits_deBruijn32tab {H : Type} : DataW H := .agg [.lit (.int .u8 0), .lit (.int .u8 1), .lit (.int .u8 28), .lit (.int .u8 2), .lit (.int .u8 29), .lit (.int .u8 14), .lit (.int .u8 24), .lit (.int .u8 3), .lit (.int .u8 30), .lit (.int .u8 22), .lit (.int .u8 20), .lit (.int .u8 15), .lit (.int .u8 25), .lit (.int .u8 17), .lit (.int .u8 4), .lit (.int .u8 8), .lit (.int .u8 31), .lit (.int .u8 27), .lit (.int .u8 13), .lit (.int .u8 23), .lit (.int .u8 21), .lit (.int .u8 19), .lit (.int .u8 16), .lit (.int .u8 7), .lit (.int .u8 26), .lit (.int .u8 12), .lit (.int .u8 18), .lit (.int .u8 6), .lit (.int .u8 11), .lit (.int .u8 5), .lit (.int .u8 10), .lit (.int .u8 9)]
def laid_math_bits_deBruijn64tab {H : Type} : DataW H := .agg [.lit (.int .u8 0), .lit (.int .u8 1), .lit (.int .u8 56), .lit (.int .u8 2), .lit (.int .u8 57), .lit (.int .u8 49), .lit (.int .u8 28), .lit (.int .u8 3), .lit (.int .u8 61), .lit (.int .u8 58), .lit (.int .u8 42), .lit (.int .u8 50), .lit (.int .u8 38), .lit (.int .u8 29), .lit (.int .u8 17), .lit (.int .u8 4), .lit (.int .u8 62), .lit (.int .u8 47), .lit (.int .u8 59), .lit (.int .u8 36), .lit (.int .u8 45), .lit (.int .u8 43), .lit (.int .u8 51), .lit (.int .u8 22), .lit (.int .u8 53), .lit (.int .u8 39), .lit (.int .u8 33), .lit (.int .u8 30), .lit (.int .u8 24), .lit (.int .u8 18), .lit (.int .u8 12), .lit (.int .u8 5), .lit (.int .u8 63), .lit (.int .u8 55), .lit (.int .u8 48), .lit (.int .u8 27), .lit (.int .u8 60), .lit (.int .u8 41), .lit (.int .u8 37), .lit (.int .u8 16), .lit (.int .u8 46), .lit (.int .u8 35), .lit (.int .u8 44), .lit (.int .u8 21), .lit (.int .u8 52), .lit (.int .u8 32), .lit (.int .u8 23), .lit (.int .u8 11), .lit (.int .u8 54), .lit (.int .u8 26), .lit (.int .u8 40), .lit (.int .u8 15), .lit (.int .u8 34), .lit (.int .u8 20), .lit (.int .u8 31), .lit (.int .u8 10), .lit (.int .u8 25), .lit (.int .u8 14), .lit (.int .u8 19), .lit (.int .u8 9), .lit (.int .u8 13), .lit (.int .u8 8), .lit (.int .u8 7), .lit (.int .u8 6)]
def laid_internal_strconv_uint64pow10 {H : Type} : DataW H := .agg [.lit (.int .u64 1), .lit (.int .u64 10), .lit (.int .u64 100), .lit (.int .u64 1000), .lit (.int .u64 10000), .lit (.int .u64 100000), .lit (.int .u64 1000000), .lit (.int .u64 10000000), .lit (.int .u64 100000000), .lit (.int .u64 1000000000), .lit (.int .u64 10000000000), .lit (.int .u64 100000000000), .lit (.int .u64 1000000000000), .lit (.int .u64 10000000000000), .lit (.int .u64 100000000000000), .lit (.int .u64 1000000000000000), .lit (.int .u64 10000000000000000), .lit (.int .u64 100000000000000000), .lit (.int .u64 1000000000000000000), .lit (.int .u64 10000000000000000000)]

/-- 'covalentlaw20.IfaceGrows': WHATEVER THE INPUT: true; the input reads as it did. -/
def ifaceGrowsSpec : ChangeSpec := { name := "ifaceGrows", fn := fun _ => fun
  | [d1, d2, d3] => { results := [.lit (.bool true)], args := [d1, d2, d3] }
  | _ => none }
def ifaceGrowsRow : OpenClaim := { program := "ytcdpeppblcijfaagreatdoor", sum := "8bef405fed0e22853cabf447d7b95c3355a95c19d2a2527195dc0f227a3e3e0a", func := "covalent/covalentlaw20.IfaceGrows", spec := "ifaceGrows", inPlace := ["internal/abi.NoEscape", "internal/bytealg.MakeNoZero", "internal/bytealg.abigen_runtime_cmpstring", "internal/bytealg.IndexByteString", "internal/bytealg.IndexString"], unfollowed := true, recurses := true, named := ["internal/strconv.uint64pow10", "math/bits.deBruijn32tab", "math/bits.deBruijn64tab", "internal/bytealg.MaxLen"], apart := false, laid := [("math/bits.deBruijn32tab", laid_math_bits_deBruijn32tab), ("math/bits.deBruijn64tab", laid_math_bits_deBruijn64tab), ("internal/strconv.uint64pow10", laid_internal_strconv_uint64pow10)] }
def IfaceGrowsSaid : Prop := ifaceGrowsRow.holds Tryz.pinned (OpenSpec.ofChange ifaceGrowsSpec)

/-- ITS FALSE NEIGHBOUR: 'it returns false'. Refute it at one input. -/
def ifaceGrowsWrong : ChangeSpec := { name := "ifaceGrows", fn := fun _ => fun
  | [d1, d2, d3] => { results := [.lit (.bool false)], args := [d1, d2, d3] }
  | _ => none }
def IfaceGrowsWrongFalsely : Prop := ifaceGrowsRow.holds Tryz.pinned (OpenSpec.ofChange ifaceGrowsWrong)

/-- 'covalentlaw20.IfaceChains': WHATEVER THE INPUT: true; the input reads as it did. -/
def ifaceChainsSpec : ChangeSpec := { name := "ifaceChains", fn := fun _ => fun
  | [d1, d2, d3] => { results := [.lit (.bool true)], args := [d1, d2, d3] }
  | _ => none }
def ifaceChainsRow : OpenClaim := { program := "ytcdpeppblcijfaagreatdoor", sum := "8bef405fed0e22853cabf447d7b95c3355a95c19d2a2527195dc0f227a3e3e0a", func := "covalent/covalentlaw20.IfaceChains", spec := "ifaceChains", inPlace := ["internal/abi.NoEscape", "internal/bytealg.MakeNoZero", "internal/bytealg.abigen_runtime_cmpstring", "internal/bytealg.IndexByteString", "internal/bytealg.IndexString"], unfollowed := true, recurses := true, named := ["internal/strconv.uint64pow10", "math/bits.deBruijn32tab", "math/bits.deBruijn64tab", "internal/bytealg.MaxLen"], apart := false, laid := [("math/bits.deBruijn32tab", laid_math_bits_deBruijn32tab), ("math/bits.deBruijn64tab", laid_math_bits_deBruijn64tab), ("internal/strconv.uint64pow10", laid_internal_strconv_uint64pow10)] }
def IfaceChainsSaid : Prop := ifaceChainsRow.holds Tryz.pinned (OpenSpec.ofChange ifaceChainsSpec)

/-- ITS FALSE NEIGHBOUR: 'it returns false'. Refute it at one input. -/
def ifaceChainsWrong : ChangeSpec := { name := "ifaceChains", fn := fun _ => fun
  | [d1, d2, d3] => { results := [.lit (.bool false)], args := [d1, d2, d3] }
  | _ => none }
def IfaceChainsWrongFalsely : Prop := ifaceChainsRow.holds Tryz.pinned (OpenSpec.ofChange ifaceChainsWrong)

/-- 'covalentlaw20.IfaceOrder': WHATEVER THE INPUT: true; the input reads as it did. -/
def ifaceOrderSpec : ChangeSpec := { name := "ifaceOrder", fn := fun _ => fun
  | [d1, d2] => { results := [.lit (.bool true)], args := [d1, d2] }
  | _ => none }
def ifaceOrderRow : OpenClaim := { program := "ytcdpeppblcijfaagreatdoor", sum := "8bef405fed0e22853cabf447d7b95c3355a95c19d2a2527195dc0f227a3e3e0a", func := "covalent/covalentlaw20.IfaceOrder", spec := "ifaceOrder", inPlace := ["internal/abi.NoEscape", "internal/bytealg.MakeNoZero", "internal/bytealg.abigen_runtime_cmpstring", "internal/bytealg.IndexByteString", "internal/bytealg.IndexString"], unfollowed := true, recurses := true, named := ["internal/strconv.uint64pow10", "math/bits.deBruijn32tab", "math/bits.deBruijn64tab", "internal/bytealg.MaxLen"], apart := false, laid := [("math/bits.deBruijn32tab", laid_math_bits_deBruijn32tab), ("math/bits.deBruijn64tab", laid_math_bits_deBruijn64tab), ("internal/strconv.uint64pow10", laid_internal_strconv_uint64pow10)] }
def IfaceOrderSaid : Prop := ifaceOrderRow.holds Tryz.pinned (OpenSpec.ofChange ifaceOrderSpec)

/-- ITS FALSE NEIGHBOUR: 'it returns false'. Refute it at one input. -/
def ifaceOrderWrong : ChangeSpec := { name := "ifaceOrder", fn := fun _ => fun
  | [d1, d2] => { results := [.lit (.bool false)], args := [d1, d2] }
  | _ => none }
def IfaceOrderWrongFalsely : Prop := ifaceOrderRow.holds Tryz.pinned (OpenSpec.ofChange ifaceOrderWrong)

/-- 'covalentlaw20.IfaceReasons': WHATEVER THE INPUT: true; the input reads as it did. -/
def ifaceReasonsSpec : ChangeSpec := { name := "ifaceReasons", fn := fun _ => fun
  | [d1, d2] => { results := [.lit (.bool true)], args := [d1, d2] }
  | _ => none }
def ifaceReasonsRow : OpenClaim := { program := "ytcdpeppblcijfaagreatdoor", sum := "8bef405fed0e22853cabf447d7b95c3355a95c19d2a2527195dc0f227a3e3e0a", func := "covalent/covalentlaw20.IfaceReasons", spec := "ifaceReasons", inPlace := ["internal/abi.NoEscape", "internal/bytealg.MakeNoZero", "internal/bytealg.abigen_runtime_cmpstring", "internal/bytealg.IndexByteString", "internal/bytealg.IndexString"], unfollowed := true, recurses := true, named := ["internal/strconv.uint64pow10", "math/bits.deBruijn32tab", "math/bits.deBruijn64tab", "internal/bytealg.MaxLen"], apart := false, laid := [("math/bits.deBruijn32tab", laid_math_bits_deBruijn32tab), ("math/bits.deBruijn64tab", laid_math_bits_deBruijn64tab), ("internal/strconv.uint64pow10", laid_internal_strconv_uint64pow10)] }
def IfaceReasonsSaid : Prop := ifaceReasonsRow.holds Tryz.pinned (OpenSpec.ofChange ifaceReasonsSpec)

/-- ITS FALSE NEIGHBOUR: 'it returns false'. Refute it at one input. -/
def ifaceReasonsWrong : ChangeSpec := { name := "ifaceReasons", fn := fun _ => fun
  | [d1, d2] => { results := [.lit (.bool false)], args := [d1, d2] }
  | _ => none }
def IfaceReasonsWrongFalsely : Prop := ifaceReasonsRow.holds Tryz.pinned (OpenSpec.ofChange ifaceReasonsWrong)

/-- 'covalentlaw20.IfaceEntries': WHATEVER THE INPUT: true; the input reads as it did. -/
def ifaceEntriesSpec : ChangeSpec := { name := "ifaceEntries", fn := fun _ => fun
  | [d1, d2, d3] => { results := [.lit (.bool true)], args := [d1, d2, d3] }
  | _ => none }
def ifaceEntriesRow : OpenClaim := { program := "ytcdpeppblcijfaagreatdoor", sum := "8bef405fed0e22853cabf447d7b95c3355a95c19d2a2527195dc0f227a3e3e0a", func := "covalent/covalentlaw20.IfaceEntries", spec := "ifaceEntries", inPlace := ["internal/abi.NoEscape", "internal/bytealg.MakeNoZero", "internal/bytealg.abigen_runtime_cmpstring", "internal/bytealg.IndexByteString", "internal/bytealg.IndexString"], unfollowed := true, recurses := true, named := ["internal/strconv.uint64pow10", "math/bits.deBruijn32tab", "math/bits.deBruijn64tab", "internal/bytealg.MaxLen"], apart := false, laid := [("math/bits.deBruijn32tab", laid_math_bits_deBruijn32tab), ("math/bits.deBruijn64tab", laid_math_bits_deBruijn64tab), ("internal/strconv.uint64pow10", laid_internal_strconv_uint64pow10)] }
def IfaceEntriesSaid : Prop := ifaceEntriesRow.holds Tryz.pinned (OpenSpec.ofChange ifaceEntriesSpec)

/-- ITS FALSE NEIGHBOUR: 'it returns false'. Refute it at one input. -/
def ifaceEntriesWrong : ChangeSpec := { name := "ifaceEntries", fn := fun _ => fun
  | [d1, d2, d3] => { results := [.lit (.bool false)], args := [d1, d2, d3] }
  | _ => none }
def IfaceEntriesWrongFalsely : Prop := ifaceEntriesRow.holds Tryz.pinned (OpenSpec.ofChange ifaceEntriesWrong)

/-- 'covalentlaw20.IfaceOpaque': WHATEVER THE INPUT: true; the input reads as it did. -/
def ifaceOpaqueSpec : ChangeSpec := { name := "ifaceOpaque", fn := fun _ => fun
  | [d1, d2] => { results := [.lit (.bool true)], args := [d1, d2] }
  | _ => none }
def ifaceOpaqueRow : OpenClaim := { program := "ytcdpeppblcijfaagreatdoor", sum := "8bef405fed0e22853cabf447d7b95c3355a95c19d2a2527195dc0f227a3e3e0a", func := "covalent/covalentlaw20.IfaceOpaque", spec := "ifaceOpaque", inPlace := ["internal/abi.NoEscape", "internal/bytealg.MakeNoZero", "internal/bytealg.abigen_runtime_cmpstring", "internal/bytealg.IndexByteString", "internal/bytealg.IndexString"], unfollowed := true, recurses := true, named := ["internal/strconv.uint64pow10", "math/bits.deBruijn32tab", "math/bits.deBruijn64tab", "internal/bytealg.MaxLen"], apart := false, laid := [("math/bits.deBruijn32tab", laid_math_bits_deBruijn32tab), ("math/bits.deBruijn64tab", laid_math_bits_deBruijn64tab), ("internal/strconv.uint64pow10", laid_internal_strconv_uint64pow10)] }
def IfaceOpaqueSaid : Prop := ifaceOpaqueRow.holds Tryz.pinned (OpenSpec.ofChange ifaceOpaqueSpec)

/-- ITS FALSE NEIGHBOUR: 'it returns false'. Refute it at one input. -/
def ifaceOpaqueWrong : ChangeSpec := { name := "ifaceOpaque", fn := fun _ => fun
  | [d1, d2] => { results := [.lit (.bool false)], args := [d1, d2] }
  | _ => none }
def IfaceOpaqueWrongFalsely : Prop := ifaceOpaqueRow.holds Tryz.pinned (OpenSpec.ofChange ifaceOpaqueWrong)

/-- 'covalentlaw20.IfaceSelf': WHATEVER THE INPUT: true; the input reads as it did. -/
def ifaceSelfSpec : ChangeSpec := { name := "ifaceSelf", fn := fun _ => fun
  | [d] => { results := [.lit (.bool true)], args := [d] }
  | _ => none }
def ifaceSelfRow : OpenClaim := { program := "ytcdpeppblcijfaagreatdoor", sum := "8bef405fed0e22853cabf447d7b95c3355a95c19d2a2527195dc0f227a3e3e0a", func := "covalent/covalentlaw20.IfaceSelf", spec := "ifaceSelf", inPlace := ["internal/abi.NoEscape", "internal/bytealg.MakeNoZero", "internal/bytealg.abigen_runtime_cmpstring", "internal/bytealg.IndexByteString", "internal/bytealg.IndexString"], unfollowed := true, recurses := true, named := ["internal/strconv.uint64pow10", "math/bits.deBruijn32tab", "math/bits.deBruijn64tab", "internal/bytealg.MaxLen"], apart := false, laid := [("math/bits.deBruijn32tab", laid_math_bits_deBruijn32tab), ("math/bits.deBruijn64tab", laid_math_bits_deBruijn64tab), ("internal/strconv.uint64pow10", laid_internal_strconv_uint64pow10)] }
def IfaceSelfSaid : Prop := ifaceSelfRow.holds Tryz.pinned (OpenSpec.ofChange ifaceSelfSpec)

/-- ITS FALSE NEIGHBOUR: 'it returns false'. Refute it at one input. -/
def ifaceSelfWrong : ChangeSpec := { name := "ifaceSelf", fn := fun _ => fun
  | [d] => { results := [.lit (.bool false)], args := [d] }
  | _ => none }
def IfaceSelfWrongFalsely : Prop := ifaceSelfRow.holds Tryz.pinned (OpenSpec.ofChange ifaceSelfWrong)

/-- 'covalentlaw20.IfaceOf': WHATEVER THE INPUT: true; the input reads as it did. -/
def ifaceOfSpec : ChangeSpec := { name := "ifaceOf", fn := fun _ => fun
  | [d] => { results := [.lit (.bool true)], args := [d] }
  | _ => none }
def ifaceOfRow : OpenClaim := { program := "ytcdpeppblcijfaagreatdoor", sum := "8bef405fed0e22853cabf447d7b95c3355a95c19d2a2527195dc0f227a3e3e0a", func := "covalent/covalentlaw20.IfaceOf", spec := "ifaceOf", inPlace := ["internal/abi.NoEscape", "internal/bytealg.MakeNoZero", "internal/bytealg.abigen_runtime_cmpstring", "internal/bytealg.IndexByteString", "internal/bytealg.IndexString"], unfollowed := true, recurses := true, named := ["internal/strconv.uint64pow10", "math/bits.deBruijn32tab", "math/bits.deBruijn64tab", "internal/bytealg.MaxLen"], apart := false, laid := [("math/bits.deBruijn32tab", laid_math_bits_deBruijn32tab), ("math/bits.deBruijn64tab", laid_math_bits_deBruijn64tab), ("internal/strconv.uint64pow10", laid_internal_strconv_uint64pow10)] }
def IfaceOfSaid : Prop := ifaceOfRow.holds Tryz.pinned (OpenSpec.ofChange ifaceOfSpec)

/-- ITS FALSE NEIGHBOUR: 'it returns false'. Refute it at one input. -/
def ifaceOfWrong : ChangeSpec := { name := "ifaceOf", fn := fun _ => fun
  | [d] => { results := [.lit (.bool false)], args := [d] }
  | _ => none }
def IfaceOfWrongFalsely : Prop := ifaceOfRow.holds Tryz.pinned (OpenSpec.ofChange ifaceOfWrong)

/- THE SECOND FORM. 'bulk': how many values and letters a reading holds, each counted each time it is reached (what is shared counts as often as it is met; a slice's spare places count too). A statement '..UptoSaid' is the law's where the arguments, and the package variables that the reading takes, are together of bulk at most 1048576: NARROWER than '..Said'. Prove '..Said' where nothing that the law and all that it calls make is longer than what came in: it says more and counts as full. Else prove '..UptoSaid'. A law counts once. -/
mutual
def uptoBulk {H : Type} : DataW H → Nat
  | .lit (.string bytes) => bytes.length + 1
  | .lit _ => 1
  | .nil => 1
  | .ptr d => uptoBulk d + 1
  | .slice elems spare => uptoBulkAll elems + uptoBulkAll spare + 1
  | .agg parts => uptoBulkAll parts + 1
  | .iface _ d => uptoBulk d + 1
  | .map entries => uptoBulkEntries entries + 1
  | .held _ => 1
def uptoBulkAll {H : Type} : List (DataW H) → Nat
  | [] => 0
  | d :: r => uptoBulk d + uptoBulkAll r
def uptoBulkEntries {H : Type} : List (Lit × DataW H) → Nat
  | [] => 0
  | x :: r => uptoBulkEntry x + uptoBulkEntries r
def uptoBulkEntry {H : Type} : Lit × DataW H → Nat
  | (.string bytes, d) => bytes.length + uptoBulk d + 1
  | (_, d) => uptoBulk d + 1
 end
def uptoSmall : (H : Type) → List (DataW H) → Bool := fun _ ds => decide (uptoBulkAll ds ≤ 1048576)
def OpenSpec.upto (s : _root_.Go.ChangeSpec) : _root_.Go.OpenSpec := { _root_.Go.OpenSpec.ofChange s with cond := some uptoSmall }

/-- 'covalentlaw20.IfaceGrows', WHERE WHAT IT READS IS OF BULK AT MOST 1048576: true; the input reads as it did. -/
def ifaceGrowsUptoRow : OpenClaim := { program := "ytcdpeppblcijfaagreatdoor", sum := "8bef405fed0e22853cabf447d7b95c3355a95c19d2a2527195dc0f227a3e3e0a", func := "covalent/covalentlaw20.IfaceGrows", spec := "ifaceGrows", inPlace := ["internal/abi.NoEscape", "internal/bytealg.MakeNoZero", "internal/bytealg.abigen_runtime_cmpstring", "internal/bytealg.IndexByteString", "internal/bytealg.IndexString"], unfollowed := true, recurses := true, named := ["internal/strconv.uint64pow10", "math/bits.deBruijn32tab", "math/bits.deBruijn64tab", "internal/bytealg.MaxLen"], apart := false, laid := [("math/bits.deBruijn32tab", laid_math_bits_deBruijn32tab), ("math/bits.deBruijn64tab", laid_math_bits_deBruijn64tab), ("internal/strconv.uint64pow10", laid_internal_strconv_uint64pow10)], narrowed := true }
def IfaceGrowsUptoSaid : Prop := ifaceGrowsUptoRow.holds Tryz.pinned (OpenSpec.upto ifaceGrowsSpec)

/-- 'covalentlaw20.IfaceChains', WHERE WHAT IT READS IS OF BULK AT MOST 1048576: true; the input reads as it did. -/
def ifaceChainsUptoRow : OpenClaim := { program := "ytcdpeppblcijfaagreatdoor", sum := "8bef405fed0e22853cabf447d7b95c3355a95c19d2a2527195dc0f227a3e3e0a", func := "covalent/covalentlaw20.IfaceChains", spec := "ifaceChains", inPlace := ["internal/abi.NoEscape", "internal/bytealg.MakeNoZero", "internal/bytealg.abigen_runtime_cmpstring", "internal/bytealg.IndexByteString", "internal/bytealg.IndexString"], unfollowed := true, recurses := true, named := ["internal/strconv.uint64pow10", "math/bits.deBruijn32tab", "math/bits.deBruijn64tab", "internal/bytealg.MaxLen"], apart := false, laid := [("math/bits.deBruijn32tab", laid_math_bits_deBruijn32tab), ("math/bits.deBruijn64tab", laid_math_bits_deBruijn64tab), ("internal/strconv.uint64pow10", laid_internal_strconv_uint64pow10)], narrowed := true }
def IfaceChainsUptoSaid : Prop := ifaceChainsUptoRow.holds Tryz.pinned (OpenSpec.upto ifaceChainsSpec)

/-- 'covalentlaw20.IfaceOrder', WHERE WHAT IT READS IS OF BULK AT MOST 1048576: true; the input reads as it did. -/
def ifaceOrderUptoRow : OpenClaim := { program := "ytcdpeppblcijfaagreatdoor", sum := "8bef405fed0e22853cabf447d7b95c3355a95c19d2a2527195dc0f227a3e3e0a", func := "covalent/covalentlaw20.IfaceOrder", spec := "ifaceOrder", inPlace := ["internal/abi.NoEscape", "internal/bytealg.MakeNoZero", "internal/bytealg.abigen_runtime_cmpstring", "internal/bytealg.IndexByteString", "internal/bytealg.IndexString"], unfollowed := true, recurses := true, named := ["internal/strconv.uint64pow10", "math/bits.deBruijn32tab", "math/bits.deBruijn64tab", "internal/bytealg.MaxLen"], apart := false, laid := [("math/bits.deBruijn32tab", laid_math_bits_deBruijn32tab), ("math/bits.deBruijn64tab", laid_math_bits_deBruijn64tab), ("internal/strconv.uint64pow10", laid_internal_strconv_uint64pow10)], narrowed := true }
def IfaceOrderUptoSaid : Prop := ifaceOrderUptoRow.holds Tryz.pinned (OpenSpec.upto ifaceOrderSpec)

/-- 'covalentlaw20.IfaceReasons', WHERE WHAT IT READS IS OF BULK AT MOST 1048576: true; the input reads as it did. -/
def ifaceReasonsUptoRow : OpenClaim := { program := "ytcdpeppblcijfaagreatdoor", sum := "8bef405fed0e22853cabf447d7b95c3355a95c19d2a2527195dc0f227a3e3e0a", func := "covalent/covalentlaw20.IfaceReasons", spec := "ifaceReasons", inPlace := ["internal/abi.NoEscape", "internal/bytealg.MakeNoZero", "internal/bytealg.abigen_runtime_cmpstring", "internal/bytealg.IndexByteString", "internal/bytealg.IndexString"], unfollowed := true, recurses := true, named := ["internal/strconv.uint64pow10", "math/bits.deBruijn32tab", "math/bits.deBruijn64tab", "internal/bytealg.MaxLen"], apart := false, laid := [("math/bits.deBruijn32tab", laid_math_bits_deBruijn32tab), ("math/bits.deBruijn64tab", laid_math_bits_deBruijn64tab), ("internal/strconv.uint64pow10", laid_internal_strconv_uint64pow10)], narrowed := true }
def IfaceReasonsUptoSaid : Prop := ifaceReasonsUptoRow.holds Tryz.pinned (OpenSpec.upto ifaceReasonsSpec)

/-- 'covalentlaw20.IfaceEntries', WHERE WHAT IT READS IS OF BULK AT MOST 1048576: true; the input reads as it did. -/
def ifaceEntriesUptoRow : OpenClaim := { program := "ytcdpeppblcijfaagreatdoor", sum := "8bef405fed0e22853cabf447d7b95c3355a95c19d2a2527195dc0f227a3e3e0a", func := "covalent/covalentlaw20.IfaceEntries", spec := "ifaceEntries", inPlace := ["internal/abi.NoEscape", "internal/bytealg.MakeNoZero", "internal/bytealg.abigen_runtime_cmpstring", "internal/bytealg.IndexByteString", "internal/bytealg.IndexString"], unfollowed := true, recurses := true, named := ["internal/strconv.uint64pow10", "math/bits.deBruijn32tab", "math/bits.deBruijn64tab", "internal/bytealg.MaxLen"], apart := false, laid := [("math/bits.deBruijn32tab", laid_math_bits_deBruijn32tab), ("math/bits.deBruijn64tab", laid_math_bits_deBruijn64tab), ("internal/strconv.uint64pow10", laid_internal_strconv_uint64pow10)], narrowed := true }
def IfaceEntriesUptoSaid : Prop := ifaceEntriesUptoRow.holds Tryz.pinned (OpenSpec.upto ifaceEntriesSpec)

/-- 'covalentlaw20.IfaceOpaque', WHERE WHAT IT READS IS OF BULK AT MOST 1048576: true; the input reads as it did. -/
def ifaceOpaqueUptoRow : OpenClaim := { program := "ytcdpeppblcijfaagreatdoor", sum := "8bef405fed0e22853cabf447d7b95c3355a95c19d2a2527195dc0f227a3e3e0a", func := "covalent/covalentlaw20.IfaceOpaque", spec := "ifaceOpaque", inPlace := ["internal/abi.NoEscape", "internal/bytealg.MakeNoZero", "internal/bytealg.abigen_runtime_cmpstring", "internal/bytealg.IndexByteString", "internal/bytealg.IndexString"], unfollowed := true, recurses := true, named := ["internal/strconv.uint64pow10", "math/bits.deBruijn32tab", "math/bits.deBruijn64tab", "internal/bytealg.MaxLen"], apart := false, laid := [("math/bits.deBruijn32tab", laid_math_bits_deBruijn32tab), ("math/bits.deBruijn64tab", laid_math_bits_deBruijn64tab), ("internal/strconv.uint64pow10", laid_internal_strconv_uint64pow10)], narrowed := true }
def IfaceOpaqueUptoSaid : Prop := ifaceOpaqueUptoRow.holds Tryz.pinned (OpenSpec.upto ifaceOpaqueSpec)

/-- 'covalentlaw20.IfaceSelf', WHERE WHAT IT READS IS OF BULK AT MOST 1048576: true; the input reads as it did. -/
def ifaceSelfUptoRow : OpenClaim := { program := "ytcdpeppblcijfaagreatdoor", sum := "8bef405fed0e22853cabf447d7b95c3355a95c19d2a2527195dc0f227a3e3e0a", func := "covalent/covalentlaw20.IfaceSelf", spec := "ifaceSelf", inPlace := ["internal/abi.NoEscape", "internal/bytealg.MakeNoZero", "internal/bytealg.abigen_runtime_cmpstring", "internal/bytealg.IndexByteString", "internal/bytealg.IndexString"], unfollowed := true, recurses := true, named := ["internal/strconv.uint64pow10", "math/bits.deBruijn32tab", "math/bits.deBruijn64tab", "internal/bytealg.MaxLen"], apart := false, laid := [("math/bits.deBruijn32tab", laid_math_bits_deBruijn32tab), ("math/bits.deBruijn64tab", laid_math_bits_deBruijn64tab), ("internal/strconv.uint64pow10", laid_internal_strconv_uint64pow10)], narrowed := true }
def IfaceSelfUptoSaid : Prop := ifaceSelfUptoRow.holds Tryz.pinned (OpenSpec.upto ifaceSelfSpec)

/-- 'covalentlaw20.IfaceOf', WHERE WHAT IT READS IS OF BULK AT MOST 1048576: true; the input reads as it did. -/
def ifaceOfUptoRow : OpenClaim := { program := "ytcdpeppblcijfaagreatdoor", sum := "8bef405fed0e22853cabf447d7b95c3355a95c19d2a2527195dc0f227a3e3e0a", func := "covalent/covalentlaw20.IfaceOf", spec := "ifaceOf", inPlace := ["internal/abi.NoEscape", "internal/bytealg.MakeNoZero", "internal/bytealg.abigen_runtime_cmpstring", "internal/bytealg.IndexByteString", "internal/bytealg.IndexString"], unfollowed := true, recurses := true, named := ["internal/strconv.uint64pow10", "math/bits.deBruijn32tab", "math/bits.deBruijn64tab", "internal/bytealg.MaxLen"], apart := false, laid := [("math/bits.deBruijn32tab", laid_math_bits_deBruijn32tab), ("math/bits.deBruijn64tab", laid_math_bits_deBruijn64tab), ("internal/strconv.uint64pow10", laid_internal_strconv_uint64pow10)], narrowed := true }
def IfaceOfUptoSaid : Prop := ifaceOfUptoRow.holds Tryz.pinned (OpenSpec.upto ifaceOfSpec)

end Rows
end Go.Proofs.YtcdpeppblcijfaaGreatDoor
