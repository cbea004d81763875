/-
  NARROWER THAN 'FOR EVERY INPUT', by the rows' own cells (each row's printed sentence says how): CatalogChecks: laid · CatalogClauses: laid · CatalogLooks: laid · CatalogChains: laid · CatalogDistance: laid · CatalogClosest: laid · CatalogLoads: loops, laid · CatalogValid: loops, laid · CatalogOrder: loops, laid.
  DERIVED. THE GIVEN ROWS OF THIS SEAT. 9 by the template 'for every input the law returns true; each argument reads behind the call as it read before'; 0 by the template 'total and deterministic' (their statements: YtojhechepdlnhaaGreatDoorTotals.lean).
  GIVEN WITH THE SEED: the statements are not yours to turn. If you find one false, say at which input.
  Laid BY PROGRAM, IN A SANDBOX (cutbox-rows.mjs): the forced cells as the released guide's own fill.sh prints them over the translation d28a61db1be17058… (all of the seat's roots in one cut). By AI agents, Wed Nov 11 2026. No macro, syntax, notation, axiom, sorry.
-/
import Derived.Test.YtojhechepdlnhaaGreatDoorChecked
import GoSem.Claim
import GoSem.ClaimJoined
import GoSem.ClaimMapViews
import Derived.JoinedTies
import Derived.KernelRfl
namespace Go.Proofs.YtojhechepdlnhaaGreatDoor
/- THE CELL 'sum', in the pinned program and in every row, IS THE sha256 OF THE DUMP (.gsa) THAT YtojhechepdlnhaaGreatDoorProg.lean LOADS. Nothing in Lean hashes anything: it is a label: what it is worth is what the hold of that sum in a sandbox is worth. -/
noncomputable def Tryz.pinned : Pinned := { name := "ytojhechepdlnhaagreatdoor", sum := "d28a61db1be17058dbf0611f5ce8a2ab3c0039165a131ad1b47540e09fbcb1e2", checked := Tryz.checked }
namespace Rows
def none {H : Type} : Left H := { results := [], args := [] }

/- WHAT THE LISTED PACKAGE-LEVEL VARIABLES READ AS WHEN THE CALL BEGINS. Each datum BY PROGRAM (the guide's laid-datum.mjs) off the statement by which the dump's own 'gosem.cut.vars' lays the variable. In a bare row this is a premise. The card (YtojhechepdlnhaaGreatDoorCards.lean) ties it to the program's text. -/
def laid_math_bits_deBruijn32tab {H : Type} : DataW H := .agg [.lit (.int .u8 0), .lit (.int .u8 1), .lit (.int .u8 28), .lit (.int .u8 2), .lit (.int .u8 29), .lit (.int .u8 14), .lit (.int .u8 24), .lit (.int .u8 3), .lit (.int .u8 30), .lit (.int .u8 22), .lit (.int .u8 20), .lit (.int .u8 15), .lit (.int .u8 25), .lit (.int .u8 17), .lit (.int .u8 4), .lit (.int .u8 8), .lit (.int .u8 31), .lit (.int .u8 27), .lit (.int .u8 13), .lit (.int .u8 23), .lit (.int .u8 21), .lit (.int .u8 19), .lit (.int .u8 16), .lit (.int .u8 7), .lit (.int .u8 26), .lit (.int .u8 12), .lit (.int .u8 18), .lit (.int .u8 6), .lit (.int .u8 11), .lit (.int .u8 5), .lit (.int .u8 10), .lit (.int .u8 9)]
def laid_math_bits_deBruijn64tab {H : Type} : DataW H := .agg [.lit (.int .u8 0), .lit (.int .u8 1), .lit (.int .u8 56), .lit (.int .u8 2), .lit (.int .u8 57), .lit (.int .u8 49), .lit (.int .u8 28), .lit (.int .u8 3), .lit (.int .u8 61), .lit (.int .u8 58), .lit (.int .u8 42), .lit (.int .u8 50), .lit (.int .u8 38), .lit (.int .u8 29), .lit (.int .u8 17), .lit (.int .u8 4), .lit (.int .u8 62), .lit (.int .u8 47), .lit (.int .u8 59), .lit (.int .u8 36), .lit (.int .u8 45), .lit (.int .u8 43), .lit (.int .u8 51), .lit (.int .u8 22), .lit (.int .u8 53), .lit (.int .u8 39), .lit (.int .u8 33), .lit (.int .u8 30), .lit (.int .u8 24), .lit (.int .u8 18), .lit (.int .u8 12), .lit (.int .u8 5), .lit (.int .u8 63), .lit (.int .u8 55), .lit (.int .u8 48), .lit (.int .u8 27), .lit (.int .u8 60), .lit (.int .u8 41), .lit (.int .u8 37), .lit (.int .u8 16), .lit (.int .u8 46), .lit (.int .u8 35), .lit (.int .u8 44), .lit (.int .u8 21), .lit (.int .u8 52), .lit (.int .u8 32), .lit (.int .u8 23), .lit (.int .u8 11), .lit (.int .u8 54), .lit (.int .u8 26), .lit (.int .u8 40), .lit (.int .u8 15), .lit (.int .u8 34), .lit (.int .u8 20), .lit (.int .u8 31), .lit (.int .u8 10), .lit (.int .u8 25), .lit (.int .u8 14), .lit (.int .u8 19), .lit (.int .u8 9), .lit (.int .u8 13), .lit (.int .u8 8), .lit (.int .u8 7), .lit (.int .u8 6)]
def laid_internal_strconv_uint64pow10 {H : Type} : DataW H := .agg [.lit (.int .u64 1), .lit (.int .u64 10), .lit (.int .u64 100), .lit (.int .u64 1000), .lit (.int .u64 10000), .lit (.int .u64 100000), .lit (.int .u64 1000000), .lit (.int .u64 10000000), .lit (.int .u64 100000000), .lit (.int .u64 1000000000), .lit (.int .u64 10000000000), .lit (.int .u64 100000000000), .lit (.int .u64 1000000000000), .lit (.int .u64 10000000000000), .lit (.int .u64 100000000000000), .lit (.int .u64 1000000000000000), .lit (.int .u64 10000000000000000), .lit (.int .u64 100000000000000000), .lit (.int .u64 1000000000000000000), .lit (.int .u64 10000000000000000000)]
def laid_strconv_ErrRange {H : Type} : DataW H := .iface "*errors.errorString" (.ptr (.agg [.lit (.string [118, 97, 108, 117, 101, 32, 111, 117, 116, 32, 111, 102, 32, 114, 97, 110, 103, 101])]))
def laid_strconv_ErrSyntax {H : Type} : DataW H := .iface "*errors.errorString" (.ptr (.agg [.lit (.string [105, 110, 118, 97, 108, 105, 100, 32, 115, 121, 110, 116, 97, 120])]))

/-- 'salchowlaw14.CatalogChecks': WHATEVER THE INPUT: true; the input reads as it did. -/
def catalogChecksSpec : ChangeSpec := { name := "catalogChecks", fn := fun _ => fun
  | [d] => { results := [.lit (.bool true)], args := [d] }
  | _ => none }
def catalogChecksRow : OpenClaim := { program := "ytojhechepdlnhaagreatdoor", sum := "d28a61db1be17058dbf0611f5ce8a2ab3c0039165a131ad1b47540e09fbcb1e2", func := "salchow/salchowlaw14.CatalogChecks", spec := "catalogChecks", inPlace := ["internal/bytealg.IndexByteString", "internal/bytealg.IndexString"], unfollowed := true, recurses := true, named := ["internal/bytealg.MaxLen", "strconv.ErrSyntax", "strconv.ErrRange", "internal/strconv.uint64pow10", "math/bits.deBruijn32tab", "math/bits.deBruijn64tab"], plainKeys := false, apart := false, laid := [("math/bits.deBruijn32tab", laid_math_bits_deBruijn32tab), ("math/bits.deBruijn64tab", laid_math_bits_deBruijn64tab), ("internal/strconv.uint64pow10", laid_internal_strconv_uint64pow10), ("strconv.ErrRange", laid_strconv_ErrRange), ("strconv.ErrSyntax", laid_strconv_ErrSyntax)] }
def CatalogChecksSaid : Prop := catalogChecksRow.holds Tryz.pinned (OpenSpec.ofChange catalogChecksSpec)

/-- ITS FALSE NEIGHBOUR: 'it returns false'. Refute it at one input. -/
def catalogChecksWrong : ChangeSpec := { name := "catalogChecks", fn := fun _ => fun
  | [d] => { results := [.lit (.bool false)], args := [d] }
  | _ => none }
def CatalogChecksWrongFalsely : Prop := catalogChecksRow.holds Tryz.pinned (OpenSpec.ofChange catalogChecksWrong)

/-- 'salchowlaw14.CatalogClauses': WHATEVER THE INPUT: true; the input reads as it did. -/
def catalogClausesSpec : ChangeSpec := { name := "catalogClauses", fn := fun _ => fun
  | [d] => { results := [.lit (.bool true)], args := [d] }
  | _ => none }
def catalogClausesRow : OpenClaim := { program := "ytojhechepdlnhaagreatdoor", sum := "d28a61db1be17058dbf0611f5ce8a2ab3c0039165a131ad1b47540e09fbcb1e2", func := "salchow/salchowlaw14.CatalogClauses", spec := "catalogClauses", inPlace := ["internal/bytealg.IndexByteString", "internal/bytealg.IndexString"], unfollowed := true, recurses := true, named := ["internal/bytealg.MaxLen", "strconv.ErrSyntax", "strconv.ErrRange", "internal/strconv.uint64pow10", "math/bits.deBruijn32tab", "math/bits.deBruijn64tab"], plainKeys := false, apart := false, laid := [("math/bits.deBruijn32tab", laid_math_bits_deBruijn32tab), ("math/bits.deBruijn64tab", laid_math_bits_deBruijn64tab), ("internal/strconv.uint64pow10", laid_internal_strconv_uint64pow10), ("strconv.ErrRange", laid_strconv_ErrRange), ("strconv.ErrSyntax", laid_strconv_ErrSyntax)] }
def CatalogClausesSaid : Prop := catalogClausesRow.holds Tryz.pinned (OpenSpec.ofChange catalogClausesSpec)

/-- ITS FALSE NEIGHBOUR: 'it returns false'. Refute it at one input. -/
def catalogClausesWrong : ChangeSpec := { name := "catalogClauses", fn := fun _ => fun
  | [d] => { results := [.lit (.bool false)], args := [d] }
  | _ => none }
def CatalogClausesWrongFalsely : Prop := catalogClausesRow.holds Tryz.pinned (OpenSpec.ofChange catalogClausesWrong)

/-- 'salchowlaw14.CatalogLooks': WHATEVER THE INPUT: true; the input reads as it did. -/
def catalogLooksSpec : ChangeSpec := { name := "catalogLooks", fn := fun _ => fun
  | [d1, d2, d3, d4, d5] => { results := [.lit (.bool true)], args := [d1, d2, d3, d4, d5] }
  | _ => none }
def catalogLooksRow : OpenClaim := { program := "ytojhechepdlnhaagreatdoor", sum := "d28a61db1be17058dbf0611f5ce8a2ab3c0039165a131ad1b47540e09fbcb1e2", func := "salchow/salchowlaw14.CatalogLooks", spec := "catalogLooks", inPlace := ["internal/bytealg.IndexByteString", "internal/bytealg.IndexString"], unfollowed := true, recurses := true, named := ["internal/bytealg.MaxLen", "strconv.ErrSyntax", "strconv.ErrRange", "internal/strconv.uint64pow10", "math/bits.deBruijn32tab", "math/bits.deBruijn64tab"], plainKeys := false, apart := false, laid := [("math/bits.deBruijn32tab", laid_math_bits_deBruijn32tab), ("math/bits.deBruijn64tab", laid_math_bits_deBruijn64tab), ("internal/strconv.uint64pow10", laid_internal_strconv_uint64pow10), ("strconv.ErrRange", laid_strconv_ErrRange), ("strconv.ErrSyntax", laid_strconv_ErrSyntax)] }
def CatalogLooksSaid : Prop := catalogLooksRow.holds Tryz.pinned (OpenSpec.ofChange catalogLooksSpec)

/-- ITS FALSE NEIGHBOUR: 'it returns false'. Refute it at one input. -/
def catalogLooksWrong : ChangeSpec := { name := "catalogLooks", fn := fun _ => fun
  | [d1, d2, d3, d4, d5] => { results := [.lit (.bool false)], args := [d1, d2, d3, d4, d5] }
  | _ => none }
def CatalogLooksWrongFalsely : Prop := catalogLooksRow.holds Tryz.pinned (OpenSpec.ofChange catalogLooksWrong)

/-- 'salchowlaw14.CatalogChains': WHATEVER THE INPUT: true; the input reads as it did. -/
def catalogChainsSpec : ChangeSpec := { name := "catalogChains", fn := fun _ => fun
  | [d1, d2] => { results := [.lit (.bool true)], args := [d1, d2] }
  | _ => none }
def catalogChainsRow : OpenClaim := { program := "ytojhechepdlnhaagreatdoor", sum := "d28a61db1be17058dbf0611f5ce8a2ab3c0039165a131ad1b47540e09fbcb1e2", func := "salchow/salchowlaw14.CatalogChains", spec := "catalogChains", inPlace := ["internal/bytealg.IndexByteString", "internal/bytealg.IndexString"], unfollowed := true, recurses := true, named := ["internal/bytealg.MaxLen", "strconv.ErrSyntax", "strconv.ErrRange", "internal/strconv.uint64pow10", "math/bits.deBruijn32tab", "math/bits.deBruijn64tab"], plainKeys := false, apart := false, laid := [("math/bits.deBruijn32tab", laid_math_bits_deBruijn32tab), ("math/bits.deBruijn64tab", laid_math_bits_deBruijn64tab), ("internal/strconv.uint64pow10", laid_internal_strconv_uint64pow10), ("strconv.ErrRange", laid_strconv_ErrRange), ("strconv.ErrSyntax", laid_strconv_ErrSyntax)] }
def CatalogChainsSaid : Prop := catalogChainsRow.holds Tryz.pinned (OpenSpec.ofChange catalogChainsSpec)

/-- ITS FALSE NEIGHBOUR: 'it returns false'. Refute it at one input. -/
def catalogChainsWrong : ChangeSpec := { name := "catalogChains", fn := fun _ => fun
  | [d1, d2] => { results := [.lit (.bool false)], args := [d1, d2] }
  | _ => none }
def CatalogChainsWrongFalsely : Prop := catalogChainsRow.holds Tryz.pinned (OpenSpec.ofChange catalogChainsWrong)

/-- 'salchowlaw14.CatalogDistance': WHATEVER THE INPUT: true; the input reads as it did. -/
def catalogDistanceSpec : ChangeSpec := { name := "catalogDistance", fn := fun _ => fun
  | [d1, d2, d3] => { results := [.lit (.bool true)], args := [d1, d2, d3] }
  | _ => none }
def catalogDistanceRow : OpenClaim := { program := "ytojhechepdlnhaagreatdoor", sum := "d28a61db1be17058dbf0611f5ce8a2ab3c0039165a131ad1b47540e09fbcb1e2", func := "salchow/salchowlaw14.CatalogDistance", spec := "catalogDistance", inPlace := ["internal/bytealg.IndexByteString", "internal/bytealg.IndexString"], unfollowed := true, recurses := true, named := ["internal/bytealg.MaxLen", "strconv.ErrSyntax", "strconv.ErrRange", "internal/strconv.uint64pow10", "math/bits.deBruijn32tab", "math/bits.deBruijn64tab"], plainKeys := false, apart := false, laid := [("math/bits.deBruijn32tab", laid_math_bits_deBruijn32tab), ("math/bits.deBruijn64tab", laid_math_bits_deBruijn64tab), ("internal/strconv.uint64pow10", laid_internal_strconv_uint64pow10), ("strconv.ErrRange", laid_strconv_ErrRange), ("strconv.ErrSyntax", laid_strconv_ErrSyntax)] }
def CatalogDistanceSaid : Prop := catalogDistanceRow.holds Tryz.pinned (OpenSpec.ofChange catalogDistanceSpec)

/-- ITS FALSE NEIGHBOUR: 'it returns false'. Refute it at one input. -/
def catalogDistanceWrong : ChangeSpec := { name := "catalogDistance", fn := fun _ => fun
  | [d1, d2, d3] => { results := [.lit (.bool false)], args := [d1, d2, d3] }
  | _ => none }
def CatalogDistanceWrongFalsely : Prop := catalogDistanceRow.holds Tryz.pinned (OpenSpec.ofChange catalogDistanceWrong)

/-- 'salchowlaw14.CatalogClosest': WHATEVER THE INPUT: true; the input reads as it did. -/
def catalogClosestSpec : ChangeSpec := { name := "catalogClosest", fn := fun _ => fun
  | [d1, d2] => { results := [.lit (.bool true)], args := [d1, d2] }
  | _ => none }
def catalogClosestRow : OpenClaim := { program := "ytojhechepdlnhaagreatdoor", sum := "d28a61db1be17058dbf0611f5ce8a2ab3c0039165a131ad1b47540e09fbcb1e2", func := "salchow/salchowlaw14.CatalogClosest", spec := "catalogClosest", inPlace := ["internal/bytealg.IndexByteString", "internal/bytealg.IndexString"], unfollowed := true, recurses := true, named := ["internal/bytealg.MaxLen", "strconv.ErrSyntax", "strconv.ErrRange", "internal/strconv.uint64pow10", "math/bits.deBruijn32tab", "math/bits.deBruijn64tab"], plainKeys := false, apart := false, laid := [("math/bits.deBruijn32tab", laid_math_bits_deBruijn32tab), ("math/bits.deBruijn64tab", laid_math_bits_deBruijn64tab), ("internal/strconv.uint64pow10", laid_internal_strconv_uint64pow10), ("strconv.ErrRange", laid_strconv_ErrRange), ("strconv.ErrSyntax", laid_strconv_ErrSyntax)] }
def CatalogClosestSaid : Prop := catalogClosestRow.holds Tryz.pinned (OpenSpec.ofChange catalogClosestSpec)

/-- ITS FALSE NEIGHBOUR: 'it returns false'. Refute it at one input. -/
def catalogClosestWrong : ChangeSpec := { name := "catalogClosest", fn := fun _ => fun
  | [d1, d2] => { results := [.lit (.bool false)], args := [d1, d2] }
  | _ => none }
def CatalogClosestWrongFalsely : Prop := catalogClosestRow.holds Tryz.pinned (OpenSpec.ofChange catalogClosestWrong)

/-- 'salchowlaw14.CatalogLoads': WHATEVER THE INPUT: true; the input reads as it did. -/
def catalogLoadsSpec : ChangeSpec := { name := "catalogLoads", fn := fun _ => fun
  | [d] => { results := [.lit (.bool true)], args := [d] }
  | _ => none }
def catalogLoadsRow : OpenClaim := { program := "ytojhechepdlnhaagreatdoor", sum := "d28a61db1be17058dbf0611f5ce8a2ab3c0039165a131ad1b47540e09fbcb1e2", func := "salchow/salchowlaw14.CatalogLoads", spec := "catalogLoads", inPlace := ["internal/bytealg.IndexByteString", "internal/bytealg.IndexString"], unfollowed := true, recurses := true, named := ["internal/bytealg.MaxLen", "strconv.ErrSyntax", "strconv.ErrRange", "internal/strconv.uint64pow10", "math/bits.deBruijn32tab", "math/bits.deBruijn64tab"], loops := true, plainKeys := false, apart := false, laid := [("math/bits.deBruijn32tab", laid_math_bits_deBruijn32tab), ("math/bits.deBruijn64tab", laid_math_bits_deBruijn64tab), ("internal/strconv.uint64pow10", laid_internal_strconv_uint64pow10), ("strconv.ErrRange", laid_strconv_ErrRange), ("strconv.ErrSyntax", laid_strconv_ErrSyntax)] }
def CatalogLoadsSaid : Prop := catalogLoadsRow.holds Tryz.pinned (OpenSpec.ofChange catalogLoadsSpec)

/-- ITS FALSE NEIGHBOUR: 'it returns false'. Refute it at one input. -/
def catalogLoadsWrong : ChangeSpec := { name := "catalogLoads", fn := fun _ => fun
  | [d] => { results := [.lit (.bool false)], args := [d] }
  | _ => none }
def CatalogLoadsWrongFalsely : Prop := catalogLoadsRow.holds Tryz.pinned (OpenSpec.ofChange catalogLoadsWrong)

/-- 'salchowlaw14.CatalogValid': WHATEVER THE INPUT: true; the input reads as it did. -/
def catalogValidSpec : ChangeSpec := { name := "catalogValid", fn := fun _ => fun
  | [d] => { results := [.lit (.bool true)], args := [d] }
  | _ => none }
def catalogValidRow : OpenClaim := { program := "ytojhechepdlnhaagreatdoor", sum := "d28a61db1be17058dbf0611f5ce8a2ab3c0039165a131ad1b47540e09fbcb1e2", func := "salchow/salchowlaw14.CatalogValid", spec := "catalogValid", inPlace := ["internal/bytealg.IndexByteString", "internal/bytealg.IndexString"], unfollowed := true, recurses := true, named := ["internal/bytealg.MaxLen", "strconv.ErrSyntax", "strconv.ErrRange", "internal/strconv.uint64pow10", "math/bits.deBruijn32tab", "math/bits.deBruijn64tab"], loops := true, plainKeys := false, apart := false, laid := [("math/bits.deBruijn32tab", laid_math_bits_deBruijn32tab), ("math/bits.deBruijn64tab", laid_math_bits_deBruijn64tab), ("internal/strconv.uint64pow10", laid_internal_strconv_uint64pow10), ("strconv.ErrRange", laid_strconv_ErrRange), ("strconv.ErrSyntax", laid_strconv_ErrSyntax)] }
def CatalogValidSaid : Prop := catalogValidRow.holds Tryz.pinned (OpenSpec.ofChange catalogValidSpec)

/-- ITS FALSE NEIGHBOUR: 'it returns false'. Refute it at one input. -/
def catalogValidWrong : ChangeSpec := { name := "catalogValid", fn := fun _ => fun
  | [d] => { results := [.lit (.bool false)], args := [d] }
  | _ => none }
def CatalogValidWrongFalsely : Prop := catalogValidRow.holds Tryz.pinned (OpenSpec.ofChange catalogValidWrong)

/-- 'salchowlaw14.CatalogOrder': WHATEVER THE INPUT: true; the input reads as it did. -/
def catalogOrderSpec : ChangeSpec := { name := "catalogOrder", fn := fun _ => fun
  | [d1, d2] => { results := [.lit (.bool true)], args := [d1, d2] }
  | _ => none }
def catalogOrderRow : OpenClaim := { program := "ytojhechepdlnhaagreatdoor", sum := "d28a61db1be17058dbf0611f5ce8a2ab3c0039165a131ad1b47540e09fbcb1e2", func := "salchow/salchowlaw14.CatalogOrder", spec := "catalogOrder", inPlace := ["internal/bytealg.IndexByteString", "internal/bytealg.IndexString"], unfollowed := true, recurses := true, named := ["internal/bytealg.MaxLen", "strconv.ErrSyntax", "strconv.ErrRange", "internal/strconv.uint64pow10", "math/bits.deBruijn32tab", "math/bits.deBruijn64tab"], loops := true, plainKeys := false, apart := false, laid := [("math/bits.deBruijn32tab", laid_math_bits_deBruijn32tab), ("math/bits.deBruijn64tab", laid_math_bits_deBruijn64tab), ("internal/strconv.uint64pow10", laid_internal_strconv_uint64pow10), ("strconv.ErrRange", laid_strconv_ErrRange), ("strconv.ErrSyntax", laid_strconv_ErrSyntax)] }
def CatalogOrderSaid : Prop := catalogOrderRow.holds Tryz.pinned (OpenSpec.ofChange catalogOrderSpec)

/-- ITS FALSE NEIGHBOUR: 'it returns false'. Refute it at one input. -/
def catalogOrderWrong : ChangeSpec := { name := "catalogOrder", fn := fun _ => fun
  | [d1, d2] => { results := [.lit (.bool false)], args := [d1, d2] }
  | _ => none }
def CatalogOrderWrongFalsely : Prop := catalogOrderRow.holds Tryz.pinned (OpenSpec.ofChange catalogOrderWrong)

/- THE SECOND FORM. 'bulk': how many values and letters a reading holds, each counted each time it is reached (what is shared counts as often as it is met; a slice's spare places count too). A statement '..UptoSaid' is the law's where the arguments, and the package variables that the reading takes, are together of bulk at most 1048576: NARROWER than '..Said'. Prove '..Said' where nothing that the law and all that it calls make is longer than what came in: it says more and counts as full. Else prove '..UptoSaid'. A law counts once. -/
mutual
def uptoBulk {H : Type} : DataW H → Nat
  | .lit (.string bytes) => bytes.length + 1
  | .lit _ => 1
  | .nil => 1
  | .ptr d => uptoBulk d + 1
  | .slice elems spare => uptoBulkAll elems + uptoBulkAll spare + 1
  | .agg parts => uptoBulkAll parts + 1
  | .iface _ d => uptoBulk d + 1
  | .map entries => uptoBulkEntries entries + 1
  | .held _ => 1
def uptoBulkAll {H : Type} : List (DataW H) → Nat
  | [] => 0
  | d :: r => uptoBulk d + uptoBulkAll r
def uptoBulkEntries {H : Type} : List (Lit × DataW H) → Nat
  | [] => 0
  | x :: r => uptoBulkEntry x + uptoBulkEntries r
def uptoBulkEntry {H : Type} : Lit × DataW H → Nat
  | (.string bytes, d) => bytes.length + uptoBulk d + 1
  | (_, d) => uptoBulk d + 1
 end
def uptoSmall : (H : Type) → List (DataW H) → Bool := fun _ ds => decide (uptoBulkAll ds ≤ 1048576)
def OpenSpec.upto (s : _root_.Go.ChangeSpec) : _root_.Go.OpenSpec := { _root_.Go.OpenSpec.ofChange s with cond := some uptoSmall }

/-- 'salchowlaw14.CatalogChecks', WHERE WHAT IT READS IS OF BULK AT MOST 1048576: true; the input reads as it did. -/
def catalogChecksUptoRow : OpenClaim := { program := "ytojhechepdlnhaagreatdoor", sum := "d28a61db1be17058dbf0611f5ce8a2ab3c0039165a131ad1b47540e09fbcb1e2", func := "salchow/salchowlaw14.CatalogChecks", spec := "catalogChecks", inPlace := ["internal/bytealg.IndexByteString", "internal/bytealg.IndexString"], unfollowed := true, recurses := true, named := ["internal/bytealg.MaxLen", "strconv.ErrSyntax", "strconv.ErrRange", "internal/strconv.uint64pow10", "math/bits.deBruijn32tab", "math/bits.deBruijn64tab"], plainKeys := false, apart := false, laid := [("math/bits.deBruijn32tab", laid_math_bits_deBruijn32tab), ("math/bits.deBruijn64tab", laid_math_bits_deBruijn64tab), ("internal/strconv.uint64pow10", laid_internal_strconv_uint64pow10), ("strconv.ErrRange", laid_strconv_ErrRange), ("strconv.ErrSyntax", laid_strconv_ErrSyntax)], narrowed := true }
def CatalogChecksUptoSaid : Prop := catalogChecksUptoRow.holds Tryz.pinned (OpenSpec.upto catalogChecksSpec)

/-- 'salchowlaw14.CatalogClauses', WHERE WHAT IT READS IS OF BULK AT MOST 1048576: true; the input reads as it did. -/
def catalogClausesUptoRow : OpenClaim := { program := "ytojhechepdlnhaagreatdoor", sum := "d28a61db1be17058dbf0611f5ce8a2ab3c0039165a131ad1b47540e09fbcb1e2", func := "salchow/salchowlaw14.CatalogClauses", spec := "catalogClauses", inPlace := ["internal/bytealg.IndexByteString", "internal/bytealg.IndexString"], unfollowed := true, recurses := true, named := ["internal/bytealg.MaxLen", "strconv.ErrSyntax", "strconv.ErrRange", "internal/strconv.uint64pow10", "math/bits.deBruijn32tab", "math/bits.deBruijn64tab"], plainKeys := false, apart := false, laid := [("math/bits.deBruijn32tab", laid_math_bits_deBruijn32tab), ("math/bits.deBruijn64tab", laid_math_bits_deBruijn64tab), ("internal/strconv.uint64pow10", laid_internal_strconv_uint64pow10), ("strconv.ErrRange", laid_strconv_ErrRange), ("strconv.ErrSyntax", laid_strconv_ErrSyntax)], narrowed := true }
def CatalogClausesUptoSaid : Prop := catalogClausesUptoRow.holds Tryz.pinned (OpenSpec.upto catalogClausesSpec)

/-- 'salchowlaw14.CatalogLooks', WHERE WHAT IT READS IS OF BULK AT MOST 1048576: true; the input reads as it did. -/
def catalogLooksUptoRow : OpenClaim := { program := "ytojhechepdlnhaagreatdoor", sum := "d28a61db1be17058dbf0611f5ce8a2ab3c0039165a131ad1b47540e09fbcb1e2", func := "salchow/salchowlaw14.CatalogLooks", spec := "catalogLooks", inPlace := ["internal/bytealg.IndexByteString", "internal/bytealg.IndexString"], unfollowed := true, recurses := true, named := ["internal/bytealg.MaxLen", "strconv.ErrSyntax", "strconv.ErrRange", "internal/strconv.uint64pow10", "math/bits.deBruijn32tab", "math/bits.deBruijn64tab"], plainKeys := false, apart := false, laid := [("math/bits.deBruijn32tab", laid_math_bits_deBruijn32tab), ("math/bits.deBruijn64tab", laid_math_bits_deBruijn64tab), ("internal/strconv.uint64pow10", laid_internal_strconv_uint64pow10), ("strconv.ErrRange", laid_strconv_ErrRange), ("strconv.ErrSyntax", laid_strconv_ErrSyntax)], narrowed := true }
def CatalogLooksUptoSaid : Prop := catalogLooksUptoRow.holds Tryz.pinned (OpenSpec.upto catalogLooksSpec)

/-- 'salchowlaw14.CatalogChains', WHERE WHAT IT READS IS OF BULK AT MOST 1048576: true; the input reads as it did. -/
def catalogChainsUptoRow : OpenClaim := { program := "ytojhechepdlnhaagreatdoor", sum := "d28a61db1be17058dbf0611f5ce8a2ab3c0039165a131ad1b47540e09fbcb1e2", func := "salchow/salchowlaw14.CatalogChains", spec := "catalogChains", inPlace := ["internal/bytealg.IndexByteString", "internal/bytealg.IndexString"], unfollowed := true, recurses := true, named := ["internal/bytealg.MaxLen", "strconv.ErrSyntax", "strconv.ErrRange", "internal/strconv.uint64pow10", "math/bits.deBruijn32tab", "math/bits.deBruijn64tab"], plainKeys := false, apart := false, laid := [("math/bits.deBruijn32tab", laid_math_bits_deBruijn32tab), ("math/bits.deBruijn64tab", laid_math_bits_deBruijn64tab), ("internal/strconv.uint64pow10", laid_internal_strconv_uint64pow10), ("strconv.ErrRange", laid_strconv_ErrRange), ("strconv.ErrSyntax", laid_strconv_ErrSyntax)], narrowed := true }
def CatalogChainsUptoSaid : Prop := catalogChainsUptoRow.holds Tryz.pinned (OpenSpec.upto catalogChainsSpec)

/-- 'salchowlaw14.CatalogDistance', WHERE WHAT IT READS IS OF BULK AT MOST 1048576: true; the input reads as it did. -/
def catalogDistanceUptoRow : OpenClaim := { program := "ytojhechepdlnhaagreatdoor", sum := "d28a61db1be17058dbf0611f5ce8a2ab3c0039165a131ad1b47540e09fbcb1e2", func := "salchow/salchowlaw14.CatalogDistance", spec := "catalogDistance", inPlace := ["internal/bytealg.IndexByteString", "internal/bytealg.IndexString"], unfollowed := true, recurses := true, named := ["internal/bytealg.MaxLen", "strconv.ErrSyntax", "strconv.ErrRange", "internal/strconv.uint64pow10", "math/bits.deBruijn32tab", "math/bits.deBruijn64tab"], plainKeys := false, apart := false, laid := [("math/bits.deBruijn32tab", laid_math_bits_deBruijn32tab), ("math/bits.deBruijn64tab", laid_math_bits_deBruijn64tab), ("internal/strconv.uint64pow10", laid_internal_strconv_uint64pow10), ("strconv.ErrRange", laid_strconv_ErrRange), ("strconv.ErrSyntax", laid_strconv_ErrSyntax)], narrowed := true }
def CatalogDistanceUptoSaid : Prop := catalogDistanceUptoRow.holds Tryz.pinned (OpenSpec.upto catalogDistanceSpec)

/-- 'salchowlaw14.CatalogClosest', WHERE WHAT IT READS IS OF BULK AT MOST 1048576: true; the input reads as it did. -/
def catalogClosestUptoRow : OpenClaim := { program := "ytojhechepdlnhaagreatdoor", sum := "d28a61db1be17058dbf0611f5ce8a2ab3c0039165a131ad1b47540e09fbcb1e2", func := "salchow/salchowlaw14.CatalogClosest", spec := "catalogClosest", inPlace := ["internal/bytealg.IndexByteString", "internal/bytealg.IndexString"], unfollowed := true, recurses := true, named := ["internal/bytealg.MaxLen", "strconv.ErrSyntax", "strconv.ErrRange", "internal/strconv.uint64pow10", "math/bits.deBruijn32tab", "math/bits.deBruijn64tab"], plainKeys := false, apart := false, laid := [("math/bits.deBruijn32tab", laid_math_bits_deBruijn32tab), ("math/bits.deBruijn64tab", laid_math_bits_deBruijn64tab), ("internal/strconv.uint64pow10", laid_internal_strconv_uint64pow10), ("strconv.ErrRange", laid_strconv_ErrRange), ("strconv.ErrSyntax", laid_strconv_ErrSyntax)], narrowed := true }
def CatalogClosestUptoSaid : Prop := catalogClosestUptoRow.holds Tryz.pinned (OpenSpec.upto catalogClosestSpec)

/-- 'salchowlaw14.CatalogLoads', WHERE WHAT IT READS IS OF BULK AT MOST 1048576: true; the input reads as it did. -/
def catalogLoadsUptoRow : OpenClaim := { program := "ytojhechepdlnhaagreatdoor", sum := "d28a61db1be17058dbf0611f5ce8a2ab3c0039165a131ad1b47540e09fbcb1e2", func := "salchow/salchowlaw14.CatalogLoads", spec := "catalogLoads", inPlace := ["internal/bytealg.IndexByteString", "internal/bytealg.IndexString"], unfollowed := true, recurses := true, named := ["internal/bytealg.MaxLen", "strconv.ErrSyntax", "strconv.ErrRange", "internal/strconv.uint64pow10", "math/bits.deBruijn32tab", "math/bits.deBruijn64tab"], loops := true, plainKeys := false, apart := false, laid := [("math/bits.deBruijn32tab", laid_math_bits_deBruijn32tab), ("math/bits.deBruijn64tab", laid_math_bits_deBruijn64tab), ("internal/strconv.uint64pow10", laid_internal_strconv_uint64pow10), ("strconv.ErrRange", laid_strconv_ErrRange), ("strconv.ErrSyntax", laid_strconv_ErrSyntax)], narrowed := true }
def CatalogLoadsUptoSaid : Prop := catalogLoadsUptoRow.holds Tryz.pinned (OpenSpec.upto catalogLoadsSpec)

/-- 'salchowlaw14.CatalogValid', WHERE WHAT IT READS IS OF BULK AT MOST 1048576: true; the input reads as it did. -/
def catalogValidUptoRow : OpenClaim := { program := "ytojhechepdlnhaagreatdoor", sum := "d28a61db1be17058dbf0611f5ce8a2ab3c0039165a131ad1b47540e09fbcb1e2", func := "salchow/salchowlaw14.CatalogValid", spec := "catalogValid", inPlace := ["internal/bytealg.IndexByteString", "internal/bytealg.IndexString"], unfollowed := true, recurses := true, named := ["internal/bytealg.MaxLen", "strconv.ErrSyntax", "strconv.ErrRange", "internal/strconv.uint64pow10", "math/bits.deBruijn32tab", "math/bits.deBruijn64tab"], loops := true, plainKeys := false, apart := false, laid := [("math/bits.deBruijn32tab", laid_math_bits_deBruijn32tab), ("math/bits.deBruijn64tab", laid_math_bits_deBruijn64tab), ("internal/strconv.uint64pow10", laid_internal_strconv_uint64pow10), ("strconv.ErrRange", laid_strconv_ErrRange), ("strconv.ErrSyntax", laid_strconv_ErrSyntax)], narrowed := true }
def CatalogValidUptoSaid : Prop := catalogValidUptoRow.holds Tryz.pinned (OpenSpec.upto catalogValidSpec)

/-- 'salchowlaw14.CatalogOrder', WHERE WHAT IT READS IS OF BULK AT MOST 1048576: true; the input reads as it did. -/
def catalogOrderUptoRow : OpenClaim := { program := "ytojhechepdlnhaagreatdoor", sum := "d28a61db1be17058dbf0611f5ce8a2ab3c0039165a131ad1b47540e09fbcb1e2", func := "salchow/salchowlaw14.CatalogOrder", spec := "catalogOrder", inPlace := ["internal/bytealg.IndexByteString", "internal/bytealg.IndexString"], unfollowed := true, recurses := true, named := ["internal/bytealg.MaxLen", "strconv.ErrSyntax", "strconv.ErrRange", "internal/strconv.uint64pow10", "math/bits.deBruijn32tab", "math/bits.deBruijn64tab"], loops := true, plainKeys := false, apart := false, laid := [("math/bits.deBruijn32tab", laid_math_bits_deBruijn32tab), ("math/bits.deBruijn64tab", laid_math_bits_deBruijn64tab), ("internal/strconv.uint64pow10", laid_internal_strconv_uint64pow10), ("strconv.ErrRange", laid_strconv_ErrRange), ("strconv.ErrSyntax", laid_strconv_ErrSyntax)], narrowed := true }
def CatalogOrderUptoSaid : Prop := catalogOrderUptoRow.holds Tryz.pinned (OpenSpec.upto catalogOrderSpec)

end Rows
end Go.Proofs.YtojhechepdlnhaaGreatDoor
