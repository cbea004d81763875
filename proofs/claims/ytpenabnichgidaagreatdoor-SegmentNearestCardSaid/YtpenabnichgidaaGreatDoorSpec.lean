/- Marks, Mark and OnGrid as given functions; SegmentGrid answers true at the empty state. -/
import Derived.Test.YtpenabnichgidaaGreatDoorAwake
import Derived.Test.YtpenabnichgidaaGreatDoorMd
import Derived.Test.YtpenabnichgidaaGreatDoorMc
import Derived.Laws.BitsLemmas
namespace Go.Rf
open Go.Proofs
set_option maxRecDepth 100000
set_option linter.unusedVariables false
def panA (nm : List Nat) (kd lo hi sp ju le dr tl sc : Int) : AV := .agg [.d (.str nm), .d (.int .i64 kd), .d (.int .i64 lo), .d (.int .i64 hi), .d (.int .i64 sp), .d (.int .i64 ju), .d (.int .i64 le), .d (.int .i64 dr), .d (.int .i64 tl), .d (.int .i64 sc)]
def marksI (lo hi sp : Int) : Int := if sp < 1 then 0 else if lo > hi then 0 else if lo < -1000000 then 0 else if hi > 1000000 then 0 else
  IntKind.wrap .i64 (IntKind.wrap .i64 (Int.tdiv (IntKind.wrap .i64 (hi - lo)) sp) + 1)
def inI (x a b : Int) : Bool := if x ≥ a then decide (x ≤ b) else false
def markV (lo hi sp i : Int) : Int := if i < 0 then 0 else if i ≥ marksI lo hi sp then 0 else IntKind.wrap .i64 (lo + IntKind.wrap .i64 (i * sp))
def markE (lo hi sp i : Int) : Int := if i < 0 then 5 else if i ≥ marksI lo hi sp then 5 else 0
def onG (lo hi sp m : Int) : Bool := if marksI lo hi sp > 0 then (if m ≥ lo then (if m ≤ hi then Int.tmod (IntKind.wrap .i64 (m - lo)) sp == 0 else false) else false) else false

/-- A further given function, of which the run at the empty state is known. -/
noncomputable def addG (giv : Nat → Option (List AV → Cx → St → Option (Out × St))) (f : Nat) (spec : List AV → Option AV) : Nat → Option (List AV → Cx → St → Option (Out × St)) :=
  fun k => ite2 (Nat.beq k f) (some fun args _ st => match spec args with
    | some v => some (.ret v, st)
    | none => none) (giv k)
theorem addG_ok {P : Program} {loud : Nat → Bool} {giv : Nat → Option (List AV → Cx → St → Option (Out × St))} {tbl : Nat → Option PFn} {n f : Nat} {spec : List AV → Option AV} (hm : P.follows .mixedOrders = true) (hg : GivOk P loud giv) (ht : ∀ f pf, tbl f = some pf → ckFn P loud f pf = true)
    (h : ∀ args v, spec args = some v → run giv tbl n f args cx0 st0 = some (.ret v, st0) ∧ args.all AV.flat2 = true ∧ v.data = true) : GivOk P loud (addG giv f spec) := by
  intro k gf hk args cx st o st' hr
  unfold addG at hk
  cases hb : Nat.beq k f with
  | false => rw [hb, ite2_f] at hk; exact hg k gf hk args cx st o st' hr
  | true =>
    rw [hb, ite2_t] at hk
    have := Nat.eq_of_beq_eq_true hb
    subst this
    injection hk with hk; subst hk
    simp only at hr
    split at hr
    · rename_i v hv
      simp only [Option.some.injEq, Prod.mk.injEq] at hr
      obtain ⟨rfl, rfl⟩ := hr
      obtain ⟨h1, h2, h3⟩ := h args v hv
      obtain ⟨k1, k2⟩ := memo_flat2 (run_ok hm hg ht n).1 h1 h2 h3
      exact ⟨k1, fun _ => rfl, fun g w vs hs hcx ha => k2 cx g _ w vs hs hcx ha⟩
    · exact absurd hr (by simp)
def sp19 : List AV → Option AV
  | [.agg [.d (.str nm), .d (.int .i64 kd), .d (.int .i64 lo), .d (.int .i64 hi), .d (.int .i64 sp), .d (.int .i64 ju), .d (.int .i64 le), .d (.int .i64 dr), .d (.int .i64 tl), .d (.int .i64 sc)]] => some (.d (.int .i64 (marksI lo hi sp)))
  | _ => none
def sp58 : List AV → Option AV
  | [.d (.int .i64 x), .d (.int .i64 a), .d (.int .i64 b)] => some (.d (.bool (inI x a b)))
  | _ => none
def sp20 : List AV → Option AV
  | [.agg [.d (.str nm), .d (.int .i64 kd), .d (.int .i64 lo), .d (.int .i64 hi), .d (.int .i64 sp), .d (.int .i64 ju), .d (.int .i64 le), .d (.int .i64 dr), .d (.int .i64 tl), .d (.int .i64 sc)], .d (.int .i64 i)] => some (.tup [.d (.int .i64 (markV lo hi sp i)), .d (.int .i64 (markE lo hi sp i))])
  | _ => none
def sp21 : List AV → Option AV
  | [.agg [.d (.str nm), .d (.int .i64 kd), .d (.int .i64 lo), .d (.int .i64 hi), .d (.int .i64 sp), .d (.int .i64 ju), .d (.int .i64 le), .d (.int .i64 dr), .d (.int .i64 tl), .d (.int .i64 sc)], .d (.int .i64 m)] => some (.d (.bool (onG lo hi sp m)))
  | _ => none
end Go.Rf

namespace Go.Rf
open Go.Proofs
set_option maxRecDepth 100000
set_option linter.unusedVariables false
theorem j19_0 (nm : List Nat) (kd lo hi sp ju le dr tl sc : Int) : jFn (run giv4 tbl 2) pf19 [panA nm kd lo hi sp ju le dr tl sc] cx0 st0 [true] = some (.ret (.d (.int .i64 0)), st0, [((decide (sp < 1)), true)]) := by kernel_rfl
theorem j19_1 (nm : List Nat) (kd lo hi sp ju le dr tl sc : Int) : jFn (run giv4 tbl 2) pf19 [panA nm kd lo hi sp ju le dr tl sc] cx0 st0 [false, true] = some (.ret (.d (.int .i64 0)), st0, [((decide (lo > hi)), true), ((decide (sp < 1)), false)]) := by kernel_rfl
theorem j19_2 (nm : List Nat) (kd lo hi sp ju le dr tl sc : Int) : jFn (run giv4 tbl 2) pf19 [panA nm kd lo hi sp ju le dr tl sc] cx0 st0 [false, false, true] = some (.ret (.d (.int .i64 0)), st0, [((decide (lo < (-1000000))), true), ((decide (lo > hi)), false), ((decide (sp < 1)), false)]) := by kernel_rfl
theorem j19_3 (nm : List Nat) (kd lo hi sp ju le dr tl sc : Int) : jFn (run giv4 tbl 2) pf19 [panA nm kd lo hi sp ju le dr tl sc] cx0 st0 [false, false, false, true] = some (.ret (.d (.int .i64 0)), st0, [((decide (hi > 1000000)), true), ((decide (lo < (-1000000))), false), ((decide (lo > hi)), false), ((decide (sp < 1)), false)]) := by kernel_rfl
theorem j19_4 (nm : List Nat) (kd lo hi sp ju le dr tl sc : Int) : jFn (run giv4 tbl 2) pf19 [panA nm kd lo hi sp ju le dr tl sc] cx0 st0 [false, false, false, false] = some (.ret (.d (.int .i64 (IntKind.wrap .i64 ((IntKind.wrap .i64 (Int.tdiv (IntKind.wrap .i64 (hi - lo)) sp)) + 1)))), st0, [(decide (sp = 0), false), ((decide (hi > 1000000)), false), ((decide (lo < (-1000000))), false), ((decide (lo > hi)), false), ((decide (sp < 1)), false)]) := by kernel_rfl
theorem j58_0 (x a b : Int) : jFn (run (addG giv4 19 sp19) tbl 2) pf58 [.d (.int .i64 x), .d (.int .i64 a), .d (.int .i64 b)] cx0 st0 [false] = some (.ret (.d (.bool false)), st0, [((decide (x ≥ a)), false)]) := by kernel_rfl
theorem j58_1 (x a b : Int) : jFn (run (addG giv4 19 sp19) tbl 2) pf58 [.d (.int .i64 x), .d (.int .i64 a), .d (.int .i64 b)] cx0 st0 [true, false] = some (.ret (.d (.bool false)), st0, [((decide (x ≤ b)), false), ((decide (x ≥ a)), true)]) := by kernel_rfl
theorem j58_2 (x a b : Int) : jFn (run (addG giv4 19 sp19) tbl 2) pf58 [.d (.int .i64 x), .d (.int .i64 a), .d (.int .i64 b)] cx0 st0 [true, true] = some (.ret (.d (.bool true)), st0, [((decide (x ≤ b)), true), ((decide (x ≥ a)), true)]) := by kernel_rfl
end Go.Rf

namespace Go.Rf
open Go.Proofs
set_option maxRecDepth 100000
set_option linter.unusedVariables false
theorem run19 (nm : List Nat) (kd lo hi sp ju le dr tl sc : Int) : run giv4 tbl 3 19 [panA nm kd lo hi sp ju le dr tl sc] cx0 st0 = some (.ret (.d (.int .i64 (marksI lo hi sp))), st0) := by
  unfold marksI
  by_cases h1 : sp < 1
  · rw [if_pos h1]; exact jFn_ok rfl rfl (j19_0 nm kd lo hi sp ju le dr tl sc) (by simp [LogOk, h1])
  rw [if_neg h1]
  by_cases h2 : lo > hi
  · rw [if_pos h2]; exact jFn_ok rfl rfl (j19_1 nm kd lo hi sp ju le dr tl sc) (by simp [LogOk] at *; omega)
  rw [if_neg h2]
  by_cases h3 : lo < -1000000
  · rw [if_pos h3]; exact jFn_ok rfl rfl (j19_2 nm kd lo hi sp ju le dr tl sc) (by simp [LogOk] at *; omega)
  rw [if_neg h3]
  by_cases h4 : hi > 1000000
  · rw [if_pos h4]; exact jFn_ok rfl rfl (j19_3 nm kd lo hi sp ju le dr tl sc) (by simp [LogOk] at *; omega)
  rw [if_neg h4]
  exact jFn_ok rfl rfl (j19_4 nm kd lo hi sp ju le dr tl sc) (by simp [LogOk] at *; omega)
theorem run58 (x a b : Int) : run (addG giv4 19 sp19) tbl 3 58 [.d (.int .i64 x), .d (.int .i64 a), .d (.int .i64 b)] cx0 st0 = some (.ret (.d (.bool (inI x a b))), st0) := by
  unfold inI
  by_cases h1 : x ≥ a
  · rw [if_pos h1]
    by_cases h2 : x ≤ b
    · rw [decide_eq_true h2]; exact jFn_ok rfl rfl (j58_2 x a b) (by simp [LogOk] at *; omega)
    · rw [decide_eq_false h2]; exact jFn_ok rfl rfl (j58_1 x a b) (by simp [LogOk] at *; omega)
  · rw [if_neg h1]; exact jFn_ok rfl rfl (j58_0 x a b) (by simp [LogOk] at *; omega)
noncomputable def giv5 : Nat → Option (List AV → Cx → St → Option (Out × St)) := addG (addG giv4 19 sp19) 58 sp58
theorem giv5a_ok : GivOk Tryz.prog loud (addG giv4 19 sp19) := by
  refine addG_ok (n := 3) mixedT giv4_ok ckTbl fun args v h => ?_
  unfold sp19 at h
  split at h
  · injection h with h; subst h
    exact ⟨run19 _ _ _ _ _ _ _ _ _ _, rfl, rfl⟩
  · exact absurd h (by simp)
theorem giv5_ok : GivOk Tryz.prog loud giv5 := by
  refine addG_ok (n := 3) mixedT giv5a_ok ckTbl fun args v h => ?_
  unfold sp58 at h
  split at h
  · rename_i x a b
    injection h with h; subst h
    exact ⟨run58 x a b, rfl, rfl⟩
  · exact absurd h (by simp)
noncomputable def giv5b : Nat → Option (List AV → Cx → St → Option (Out × St)) := addG giv5 18 sp19
noncomputable def giv5c : Nat → Option (List AV → Cx → St → Option (Out × St)) := addG giv5b 20 sp20
noncomputable def giv6 : Nat → Option (List AV → Cx → St → Option (Out × St)) := addG giv5c 21 sp21
end Go.Rf

namespace Go.Rf
open Go.Proofs
set_option maxRecDepth 100000
set_option linter.unusedVariables false
theorem j18_0 (nm : List Nat) (kd lo hi sp ju le dr tl sc : Int) : jFn (run giv5 tbl 2) pf18 [panA nm kd lo hi sp ju le dr tl sc] cx0 st0 [true] = some (.ret (.d (.int .i64 0)), st0, [((decide (sp < 1)), true)]) := by kernel_rfl
theorem j18_1 (nm : List Nat) (kd lo hi sp ju le dr tl sc : Int) : jFn (run giv5 tbl 2) pf18 [panA nm kd lo hi sp ju le dr tl sc] cx0 st0 [false, false] = some (.ret (.d (.int .i64 0)), st0, [((inI lo (-1000000) 1000000), false), ((decide (sp < 1)), false)]) := by kernel_rfl
theorem j18_2 (nm : List Nat) (kd lo hi sp ju le dr tl sc : Int) : jFn (run giv5 tbl 2) pf18 [panA nm kd lo hi sp ju le dr tl sc] cx0 st0 [false, true, false] = some (.ret (.d (.int .i64 0)), st0, [((inI hi (-1000000) 1000000), false), ((inI lo (-1000000) 1000000), true), ((decide (sp < 1)), false)]) := by kernel_rfl
theorem j18_3 (nm : List Nat) (kd lo hi sp ju le dr tl sc : Int) : jFn (run giv5 tbl 2) pf18 [panA nm kd lo hi sp ju le dr tl sc] cx0 st0 [false, true, true, true] = some (.ret (.d (.int .i64 0)), st0, [((decide (lo > hi)), true), ((inI hi (-1000000) 1000000), true), ((inI lo (-1000000) 1000000), true), ((decide (sp < 1)), false)]) := by kernel_rfl
theorem j18_4 (nm : List Nat) (kd lo hi sp ju le dr tl sc : Int) : jFn (run giv5 tbl 2) pf18 [panA nm kd lo hi sp ju le dr tl sc] cx0 st0 [false, true, true, false] = some (.ret (.d (.int .i64 (IntKind.wrap .i64 ((IntKind.wrap .i64 (Int.tdiv (IntKind.wrap .i64 (hi - lo)) sp)) + 1)))), st0, [(decide (sp = 0), false), ((decide (lo > hi)), false), ((inI hi (-1000000) 1000000), true), ((inI lo (-1000000) 1000000), true), ((decide (sp < 1)), false)]) := by kernel_rfl
theorem j20_0 (nm : List Nat) (kd lo hi sp ju le dr tl sc : Int) (i : Int) : jFn (run giv5b tbl 2) pf20 [panA nm kd lo hi sp ju le dr tl sc, .d (.int .i64 i)] cx0 st0 [true] = some (.ret (.tup [.d (.int .i64 0), .d (.int .i64 5)]), st0, [((decide (i < 0)), true)]) := by kernel_rfl
theorem j20_1 (nm : List Nat) (kd lo hi sp ju le dr tl sc : Int) (i : Int) : jFn (run giv5b tbl 2) pf20 [panA nm kd lo hi sp ju le dr tl sc, .d (.int .i64 i)] cx0 st0 [false, true] = some (.ret (.tup [.d (.int .i64 0), .d (.int .i64 5)]), st0, [((decide (i ≥ (marksI lo hi sp))), true), ((decide (i < 0)), false)]) := by kernel_rfl
theorem j20_2 (nm : List Nat) (kd lo hi sp ju le dr tl sc : Int) (i : Int) : jFn (run giv5b tbl 2) pf20 [panA nm kd lo hi sp ju le dr tl sc, .d (.int .i64 i)] cx0 st0 [false, false] = some (.ret (.tup [.d (.int .i64 (IntKind.wrap .i64 (lo + (IntKind.wrap .i64 (i * sp))))), .d (.int .i64 0)]), st0, [((decide (i ≥ (marksI lo hi sp))), false), ((decide (i < 0)), false)]) := by kernel_rfl
theorem j21_0 (nm : List Nat) (kd lo hi sp ju le dr tl sc : Int) (m : Int) : jFn (run giv5c tbl 2) pf21 [panA nm kd lo hi sp ju le dr tl sc, .d (.int .i64 m)] cx0 st0 [false] = some (.ret (.d (.bool false)), st0, [((decide ((marksI lo hi sp) > 0)), false)]) := by kernel_rfl
theorem j21_1 (nm : List Nat) (kd lo hi sp ju le dr tl sc : Int) (m : Int) : jFn (run giv5c tbl 2) pf21 [panA nm kd lo hi sp ju le dr tl sc, .d (.int .i64 m)] cx0 st0 [true, false] = some (.ret (.d (.bool false)), st0, [((decide (m ≥ lo)), false), ((decide ((marksI lo hi sp) > 0)), true)]) := by kernel_rfl
theorem j21_2 (nm : List Nat) (kd lo hi sp ju le dr tl sc : Int) (m : Int) : jFn (run giv5c tbl 2) pf21 [panA nm kd lo hi sp ju le dr tl sc, .d (.int .i64 m)] cx0 st0 [true, true, false] = some (.ret (.d (.bool false)), st0, [((decide (m ≤ hi)), false), ((decide (m ≥ lo)), true), ((decide ((marksI lo hi sp) > 0)), true)]) := by kernel_rfl
theorem j21_3 (nm : List Nat) (kd lo hi sp ju le dr tl sc : Int) (m : Int) : jFn (run giv5c tbl 2) pf21 [panA nm kd lo hi sp ju le dr tl sc, .d (.int .i64 m)] cx0 st0 [true, true, true, false] = some (.ret (.d (.bool false)), st0, [(((Int.tmod (IntKind.wrap .i64 (m - lo)) sp) == 0), false), (decide (sp = 0), false), ((decide (m ≤ hi)), true), ((decide (m ≥ lo)), true), ((decide ((marksI lo hi sp) > 0)), true)]) := by kernel_rfl
theorem j21_4 (nm : List Nat) (kd lo hi sp ju le dr tl sc : Int) (m : Int) : jFn (run giv5c tbl 2) pf21 [panA nm kd lo hi sp ju le dr tl sc, .d (.int .i64 m)] cx0 st0 [true, true, true, true] = some (.ret (.d (.bool true)), st0, [(((Int.tmod (IntKind.wrap .i64 (m - lo)) sp) == 0), true), (decide (sp = 0), false), ((decide (m ≤ hi)), true), ((decide (m ≥ lo)), true), ((decide ((marksI lo hi sp) > 0)), true)]) := by kernel_rfl
end Go.Rf

namespace Go.Rf
open Go.Proofs
set_option maxRecDepth 100000
set_option linter.unusedVariables false
theorem marks_pos {lo hi sp : Int} (h : marksI lo hi sp > 0) : 1 ≤ sp ∧ lo ≤ hi ∧ -1000000 ≤ lo ∧ hi ≤ 1000000 ∧ marksI lo hi sp = Int.tdiv (hi - lo) sp + 1 := by
  unfold marksI at h ⊢
  split at h
  · omega
  rename_i h1
  split at h
  · omega
  rename_i h2
  split at h
  · omega
  rename_i h3
  split at h
  · omega
  rename_i h4
  rw [if_neg h1, if_neg h2, if_neg h3, if_neg h4]
  refine ⟨by omega, by omega, by omega, by omega, ?_⟩
  have e1 : IntKind.wrap .i64 (hi - lo) = hi - lo := by rw [IntKind.wrap_i64]; omega
  have hq0 : 0 ≤ Int.tdiv (hi - lo) sp := Int.tdiv_nonneg (by omega) (by omega)
  have hq1 : Int.tdiv (hi - lo) sp ≤ hi - lo := Int.tdiv_le_self _ (by omega)
  have e2 : IntKind.wrap .i64 (Int.tdiv (hi - lo) sp + 1) = Int.tdiv (hi - lo) sp + 1 := by rw [IntKind.wrap_i64]; omega
  have e3 : IntKind.wrap .i64 (Int.tdiv (hi - lo) sp) = Int.tdiv (hi - lo) sp := by rw [IntKind.wrap_i64]; omega
  rw [e1, e3, e2]
theorem run18 (nm : List Nat) (kd lo hi sp ju le dr tl sc : Int) : run giv5 tbl 3 18 [panA nm kd lo hi sp ju le dr tl sc] cx0 st0 = some (.ret (.d (.int .i64 (marksI lo hi sp))), st0) := by
  unfold marksI
  by_cases h1 : sp < 1
  · rw [if_pos h1]; exact jFn_ok rfl rfl (j18_0 nm kd lo hi sp ju le dr tl sc) (by simp [LogOk, h1])
  rw [if_neg h1]
  cases hl : inI lo (-1000000) 1000000 with
  | false =>
    have : lo < -1000000 ∨ lo > 1000000 := by
      unfold inI at hl
      split at hl
      · simp at hl; omega
      · omega
    have e : (if lo > hi then (0 : Int) else if lo < -1000000 then 0 else if hi > 1000000 then 0 else IntKind.wrap .i64 (IntKind.wrap .i64 (Int.tdiv (IntKind.wrap .i64 (hi - lo)) sp) + 1)) = 0 := by
      split
      · rfl
      · split
        · rfl
        · rw [if_pos (by omega)]
    rw [e]
    exact jFn_ok rfl rfl (j18_1 nm kd lo hi sp ju le dr tl sc) (by simp [LogOk, hl]; omega)
  | true =>
    have h2 : -1000000 ≤ lo ∧ lo ≤ 1000000 := by
      unfold inI at hl
      split at hl
      · simp at hl; omega
      · simp at hl
    cases hh : inI hi (-1000000) 1000000 with
    | false =>
      have : hi < -1000000 ∨ hi > 1000000 := by
        unfold inI at hh
        split at hh
        · simp at hh; omega
        · omega
      have e : (if lo > hi then (0 : Int) else if lo < -1000000 then 0 else if hi > 1000000 then 0 else IntKind.wrap .i64 (IntKind.wrap .i64 (Int.tdiv (IntKind.wrap .i64 (hi - lo)) sp) + 1)) = 0 := by
        split
        · rfl
        · rw [if_neg (by omega), if_pos (by omega)]
      rw [e]
      exact jFn_ok rfl rfl (j18_2 nm kd lo hi sp ju le dr tl sc) (by simp [LogOk, hl, hh]; omega)
    | true =>
      have h3 : -1000000 ≤ hi ∧ hi ≤ 1000000 := by
        unfold inI at hh
        split at hh
        · simp at hh; omega
        · simp at hh
      by_cases h4 : lo > hi
      · rw [if_pos h4]; exact jFn_ok rfl rfl (j18_3 nm kd lo hi sp ju le dr tl sc) (by simp [LogOk, hl, hh]; omega)
      · rw [if_neg h4, if_neg (by omega), if_neg (by omega)]
        exact jFn_ok rfl rfl (j18_4 nm kd lo hi sp ju le dr tl sc) (by simp [LogOk, hl, hh]; omega)
theorem run20 (nm : List Nat) (kd lo hi sp ju le dr tl sc i : Int) : run giv5b tbl 3 20 [panA nm kd lo hi sp ju le dr tl sc, .d (.int .i64 i)] cx0 st0 = some (.ret (.tup [.d (.int .i64 (markV lo hi sp i)), .d (.int .i64 (markE lo hi sp i))]), st0) := by
  unfold markV markE
  by_cases h1 : i < 0
  · rw [if_pos h1, if_pos h1]; exact jFn_ok rfl rfl (j20_0 nm kd lo hi sp ju le dr tl sc i) (by simp [LogOk, h1])
  rw [if_neg h1, if_neg h1]
  by_cases h2 : i ≥ marksI lo hi sp
  · rw [if_pos h2, if_pos h2]; exact jFn_ok rfl rfl (j20_1 nm kd lo hi sp ju le dr tl sc i) (by simp [LogOk] at *; omega)
  · rw [if_neg h2, if_neg h2]; exact jFn_ok rfl rfl (j20_2 nm kd lo hi sp ju le dr tl sc i) (by simp [LogOk] at *; omega)
theorem run21 (nm : List Nat) (kd lo hi sp ju le dr tl sc m : Int) : run giv5c tbl 3 21 [panA nm kd lo hi sp ju le dr tl sc, .d (.int .i64 m)] cx0 st0 = some (.ret (.d (.bool (onG lo hi sp m))), st0) := by
  unfold onG
  by_cases h1 : marksI lo hi sp > 0
  · have hp := marks_pos h1
    rw [if_pos h1]
    by_cases h2 : m ≥ lo
    · rw [if_pos h2]
      by_cases h3 : m ≤ hi
      · rw [if_pos h3]
        cases h4 : (Int.tmod (IntKind.wrap .i64 (m - lo)) sp == 0) with
        | false => exact jFn_ok rfl rfl (j21_3 nm kd lo hi sp ju le dr tl sc m) (by simp only [LogOk, List.mem_cons, List.not_mem_nil, or_false, forall_eq_or_imp, forall_eq, h4, decide_eq_true_eq, decide_eq_false_iff_not, true_and]; omega)
        | true => exact jFn_ok rfl rfl (j21_4 nm kd lo hi sp ju le dr tl sc m) (by simp only [LogOk, List.mem_cons, List.not_mem_nil, or_false, forall_eq_or_imp, forall_eq, h4, decide_eq_true_eq, decide_eq_false_iff_not, true_and]; omega)
      · rw [if_neg h3]; exact jFn_ok rfl rfl (j21_2 nm kd lo hi sp ju le dr tl sc m) (by simp [LogOk] at *; omega)
    · rw [if_neg h2]; exact jFn_ok rfl rfl (j21_1 nm kd lo hi sp ju le dr tl sc m) (by simp [LogOk] at *; omega)
  · rw [if_neg h1]; exact jFn_ok rfl rfl (j21_0 nm kd lo hi sp ju le dr tl sc m) (by simp [LogOk] at *; omega)

theorem giv5b_ok : GivOk Tryz.prog loud giv5b := by
  refine addG_ok (n := 3) mixedT giv5_ok ckTbl fun args v h => ?_
  unfold sp19 at h
  split at h
  · injection h with h; subst h
    exact ⟨run18 _ _ _ _ _ _ _ _ _ _, rfl, rfl⟩
  · exact absurd h (by simp)
theorem giv5c_ok : GivOk Tryz.prog loud giv5c := by
  refine addG_ok (n := 3) mixedT giv5b_ok ckTbl fun args v h => ?_
  unfold sp20 at h
  split at h
  · injection h with h; subst h
    exact ⟨run20 _ _ _ _ _ _ _ _ _ _ _, rfl, rfl⟩
  · exact absurd h (by simp)
theorem giv6_ok : GivOk Tryz.prog loud giv6 := by
  refine addG_ok (n := 3) mixedT giv5c_ok ckTbl fun args v h => ?_
  unfold sp21 at h
  split at h
  · injection h with h; subst h
    exact ⟨run21 _ _ _ _ _ _ _ _ _ _ _, rfl, rfl⟩
  · exact absurd h (by simp)
end Go.Rf

namespace Go.Rf
open Go.Proofs
set_option maxRecDepth 100000
set_option linter.unusedVariables false
theorem j5_a0 (nm : List Nat) (kd lo hi sp ju le dr tl sc : Int) (i m : Int) : jFn (run giv6 tbl 2) pf5 [panA nm kd lo hi sp ju le dr tl sc, .d (.int .i64 i), .d (.int .i64 m)] cx0 st0 [true, false, true, false, false, false, false] = some (.ret (.d (.bool true)), st0, [((onG lo hi sp m), false), ((decide ((marksI lo hi sp) > 0)), false), (((markV lo hi sp i) != 0), false), (((markE lo hi sp i) != 5), false), ((decide (i < 0)), true), (((marksI lo hi sp) != (marksI lo hi sp)), false), (true, true)]) := by kernel_rfl
theorem j5_a1 (nm : List Nat) (kd lo hi sp ju le dr tl sc : Int) (i m : Int) : jFn (run giv6 tbl 2) pf5 [panA nm kd lo hi sp ju le dr tl sc, .d (.int .i64 i), .d (.int .i64 m)] cx0 st0 [true, false, true, false, false, true, false, false] = some (.ret (.d (.bool true)), st0, [((onG lo hi sp m), false), ((decide (m ≥ lo)), false), ((decide ((marksI lo hi sp) > 0)), true), (((markV lo hi sp i) != 0), false), (((markE lo hi sp i) != 5), false), ((decide (i < 0)), true), (((marksI lo hi sp) != (marksI lo hi sp)), false), (true, true)]) := by kernel_rfl
theorem j5_a2 (nm : List Nat) (kd lo hi sp ju le dr tl sc : Int) (i m : Int) : jFn (run giv6 tbl 2) pf5 [panA nm kd lo hi sp ju le dr tl sc, .d (.int .i64 i), .d (.int .i64 m)] cx0 st0 [true, false, true, false, false, true, true, false, false] = some (.ret (.d (.bool true)), st0, [((onG lo hi sp m), false), ((decide (m ≤ hi)), false), ((decide (m ≥ lo)), true), ((decide ((marksI lo hi sp) > 0)), true), (((markV lo hi sp i) != 0), false), (((markE lo hi sp i) != 5), false), ((decide (i < 0)), true), (((marksI lo hi sp) != (marksI lo hi sp)), false), (true, true)]) := by kernel_rfl
theorem j5_a3 (nm : List Nat) (kd lo hi sp ju le dr tl sc : Int) (i m : Int) : jFn (run giv6 tbl 2) pf5 [panA nm kd lo hi sp ju le dr tl sc, .d (.int .i64 i), .d (.int .i64 m)] cx0 st0 [true, false, true, false, false, true, true, true, false, false] = some (.ret (.d (.bool true)), st0, [((onG lo hi sp m), false), (((Int.tmod (IntKind.wrap .i64 (m - lo)) sp) == 0), false), (decide (sp = 0), false), ((decide (m ≤ hi)), true), ((decide (m ≥ lo)), true), ((decide ((marksI lo hi sp) > 0)), true), (((markV lo hi sp i) != 0), false), (((markE lo hi sp i) != 5), false), ((decide (i < 0)), true), (((marksI lo hi sp) != (marksI lo hi sp)), false), (true, true)]) := by kernel_rfl
theorem j5_a4 (nm : List Nat) (kd lo hi sp ju le dr tl sc : Int) (i m : Int) : jFn (run giv6 tbl 2) pf5 [panA nm kd lo hi sp ju le dr tl sc, .d (.int .i64 i), .d (.int .i64 m)] cx0 st0 [true, false, true, false, false, true, true, true, true, true] = some (.ret (.d (.bool true)), st0, [((onG lo hi sp m), true), (((Int.tmod (IntKind.wrap .i64 (m - lo)) sp) == 0), true), (decide (sp = 0), false), ((decide (m ≤ hi)), true), ((decide (m ≥ lo)), true), ((decide ((marksI lo hi sp) > 0)), true), (((markV lo hi sp i) != 0), false), (((markE lo hi sp i) != 5), false), ((decide (i < 0)), true), (((marksI lo hi sp) != (marksI lo hi sp)), false), (true, true)]) := by kernel_rfl
theorem j5_b0 (nm : List Nat) (kd lo hi sp ju le dr tl sc : Int) (i m : Int) : jFn (run giv6 tbl 2) pf5 [panA nm kd lo hi sp ju le dr tl sc, .d (.int .i64 i), .d (.int .i64 m)] cx0 st0 [true, false, false, true, false, false, false, false] = some (.ret (.d (.bool true)), st0, [((onG lo hi sp m), false), ((decide ((marksI lo hi sp) > 0)), false), (((markV lo hi sp i) != 0), false), (((markE lo hi sp i) != 5), false), ((decide (i ≥ (marksI lo hi sp))), true), ((decide (i < 0)), false), (((marksI lo hi sp) != (marksI lo hi sp)), false), (true, true)]) := by kernel_rfl
theorem j5_b1 (nm : List Nat) (kd lo hi sp ju le dr tl sc : Int) (i m : Int) : jFn (run giv6 tbl 2) pf5 [panA nm kd lo hi sp ju le dr tl sc, .d (.int .i64 i), .d (.int .i64 m)] cx0 st0 [true, false, false, true, false, false, true, false, false] = some (.ret (.d (.bool true)), st0, [((onG lo hi sp m), false), ((decide (m ≥ lo)), false), ((decide ((marksI lo hi sp) > 0)), true), (((markV lo hi sp i) != 0), false), (((markE lo hi sp i) != 5), false), ((decide (i ≥ (marksI lo hi sp))), true), ((decide (i < 0)), false), (((marksI lo hi sp) != (marksI lo hi sp)), false), (true, true)]) := by kernel_rfl
theorem j5_b2 (nm : List Nat) (kd lo hi sp ju le dr tl sc : Int) (i m : Int) : jFn (run giv6 tbl 2) pf5 [panA nm kd lo hi sp ju le dr tl sc, .d (.int .i64 i), .d (.int .i64 m)] cx0 st0 [true, false, false, true, false, false, true, true, false, false] = some (.ret (.d (.bool true)), st0, [((onG lo hi sp m), false), ((decide (m ≤ hi)), false), ((decide (m ≥ lo)), true), ((decide ((marksI lo hi sp) > 0)), true), (((markV lo hi sp i) != 0), false), (((markE lo hi sp i) != 5), false), ((decide (i ≥ (marksI lo hi sp))), true), ((decide (i < 0)), false), (((marksI lo hi sp) != (marksI lo hi sp)), false), (true, true)]) := by kernel_rfl
theorem j5_b3 (nm : List Nat) (kd lo hi sp ju le dr tl sc : Int) (i m : Int) : jFn (run giv6 tbl 2) pf5 [panA nm kd lo hi sp ju le dr tl sc, .d (.int .i64 i), .d (.int .i64 m)] cx0 st0 [true, false, false, true, false, false, true, true, true, false, false] = some (.ret (.d (.bool true)), st0, [((onG lo hi sp m), false), (((Int.tmod (IntKind.wrap .i64 (m - lo)) sp) == 0), false), (decide (sp = 0), false), ((decide (m ≤ hi)), true), ((decide (m ≥ lo)), true), ((decide ((marksI lo hi sp) > 0)), true), (((markV lo hi sp i) != 0), false), (((markE lo hi sp i) != 5), false), ((decide (i ≥ (marksI lo hi sp))), true), ((decide (i < 0)), false), (((marksI lo hi sp) != (marksI lo hi sp)), false), (true, true)]) := by kernel_rfl
theorem j5_b4 (nm : List Nat) (kd lo hi sp ju le dr tl sc : Int) (i m : Int) : jFn (run giv6 tbl 2) pf5 [panA nm kd lo hi sp ju le dr tl sc, .d (.int .i64 i), .d (.int .i64 m)] cx0 st0 [true, false, false, true, false, false, true, true, true, true, true] = some (.ret (.d (.bool true)), st0, [((onG lo hi sp m), true), (((Int.tmod (IntKind.wrap .i64 (m - lo)) sp) == 0), true), (decide (sp = 0), false), ((decide (m ≤ hi)), true), ((decide (m ≥ lo)), true), ((decide ((marksI lo hi sp) > 0)), true), (((markV lo hi sp i) != 0), false), (((markE lo hi sp i) != 5), false), ((decide (i ≥ (marksI lo hi sp))), true), ((decide (i < 0)), false), (((marksI lo hi sp) != (marksI lo hi sp)), false), (true, true)]) := by kernel_rfl
theorem j5_c0 (nm : List Nat) (kd lo hi sp ju le dr tl sc : Int) (i m : Int) : jFn (run giv6 tbl 2) pf5 [panA nm kd lo hi sp ju le dr tl sc, .d (.int .i64 i), .d (.int .i64 m)] cx0 st0 [true, false, false, false, false, false, true, false, false] = some (.ret (.d (.bool true)), st0, [((onG lo hi sp m), false), ((decide ((marksI lo hi sp) > 0)), false), ((onG lo hi sp (markV lo hi sp i)), true), (((markV lo hi sp i) != (IntKind.wrap .i64 (lo + (IntKind.wrap .i64 (i * sp))))), false), (((markE lo hi sp i) != 0), false), ((decide (i ≥ (marksI lo hi sp))), false), ((decide (i < 0)), false), (((marksI lo hi sp) != (marksI lo hi sp)), false), (true, true)]) := by kernel_rfl
theorem j5_c1 (nm : List Nat) (kd lo hi sp ju le dr tl sc : Int) (i m : Int) : jFn (run giv6 tbl 2) pf5 [panA nm kd lo hi sp ju le dr tl sc, .d (.int .i64 i), .d (.int .i64 m)] cx0 st0 [true, false, false, false, false, false, true, true, false, false] = some (.ret (.d (.bool true)), st0, [((onG lo hi sp m), false), ((decide (m ≥ lo)), false), ((decide ((marksI lo hi sp) > 0)), true), ((onG lo hi sp (markV lo hi sp i)), true), (((markV lo hi sp i) != (IntKind.wrap .i64 (lo + (IntKind.wrap .i64 (i * sp))))), false), (((markE lo hi sp i) != 0), false), ((decide (i ≥ (marksI lo hi sp))), false), ((decide (i < 0)), false), (((marksI lo hi sp) != (marksI lo hi sp)), false), (true, true)]) := by kernel_rfl
theorem j5_c2 (nm : List Nat) (kd lo hi sp ju le dr tl sc : Int) (i m : Int) : jFn (run giv6 tbl 2) pf5 [panA nm kd lo hi sp ju le dr tl sc, .d (.int .i64 i), .d (.int .i64 m)] cx0 st0 [true, false, false, false, false, false, true, true, true, false, false] = some (.ret (.d (.bool true)), st0, [((onG lo hi sp m), false), ((decide (m ≤ hi)), false), ((decide (m ≥ lo)), true), ((decide ((marksI lo hi sp) > 0)), true), ((onG lo hi sp (markV lo hi sp i)), true), (((markV lo hi sp i) != (IntKind.wrap .i64 (lo + (IntKind.wrap .i64 (i * sp))))), false), (((markE lo hi sp i) != 0), false), ((decide (i ≥ (marksI lo hi sp))), false), ((decide (i < 0)), false), (((marksI lo hi sp) != (marksI lo hi sp)), false), (true, true)]) := by kernel_rfl
theorem j5_c3 (nm : List Nat) (kd lo hi sp ju le dr tl sc : Int) (i m : Int) : jFn (run giv6 tbl 2) pf5 [panA nm kd lo hi sp ju le dr tl sc, .d (.int .i64 i), .d (.int .i64 m)] cx0 st0 [true, false, false, false, false, false, true, true, true, true, false, false] = some (.ret (.d (.bool true)), st0, [((onG lo hi sp m), false), (((Int.tmod (IntKind.wrap .i64 (m - lo)) sp) == 0), false), (decide (sp = 0), false), ((decide (m ≤ hi)), true), ((decide (m ≥ lo)), true), ((decide ((marksI lo hi sp) > 0)), true), ((onG lo hi sp (markV lo hi sp i)), true), (((markV lo hi sp i) != (IntKind.wrap .i64 (lo + (IntKind.wrap .i64 (i * sp))))), false), (((markE lo hi sp i) != 0), false), ((decide (i ≥ (marksI lo hi sp))), false), ((decide (i < 0)), false), (((marksI lo hi sp) != (marksI lo hi sp)), false), (true, true)]) := by kernel_rfl
theorem j5_c4 (nm : List Nat) (kd lo hi sp ju le dr tl sc : Int) (i m : Int) : jFn (run giv6 tbl 2) pf5 [panA nm kd lo hi sp ju le dr tl sc, .d (.int .i64 i), .d (.int .i64 m)] cx0 st0 [true, false, false, false, false, false, true, true, true, true, true, true] = some (.ret (.d (.bool true)), st0, [((onG lo hi sp m), true), (((Int.tmod (IntKind.wrap .i64 (m - lo)) sp) == 0), true), (decide (sp = 0), false), ((decide (m ≤ hi)), true), ((decide (m ≥ lo)), true), ((decide ((marksI lo hi sp) > 0)), true), ((onG lo hi sp (markV lo hi sp i)), true), (((markV lo hi sp i) != (IntKind.wrap .i64 (lo + (IntKind.wrap .i64 (i * sp))))), false), (((markE lo hi sp i) != 0), false), ((decide (i ≥ (marksI lo hi sp))), false), ((decide (i < 0)), false), (((marksI lo hi sp) != (marksI lo hi sp)), false), (true, true)]) := by kernel_rfl
end Go.Rf

namespace Go.Rf
open Go.Proofs
set_option maxRecDepth 100000
set_option linter.unusedVariables false
theorem mark_in {lo hi sp i : Int} (h1 : ¬ i < 0) (h2 : ¬ i ≥ marksI lo hi sp) : markV lo hi sp i = lo + i * sp ∧ IntKind.wrap .i64 (lo + IntKind.wrap .i64 (i * sp)) = lo + i * sp ∧ lo + i * sp ≤ hi ∧ 0 ≤ i * sp ∧ onG lo hi sp (lo + i * sp) = true := by
  have hp : marksI lo hi sp > 0 := by omega
  obtain ⟨p1, p2, p3, p4, p5⟩ := marks_pos hp
  rw [p5] at h2
  have e : Int.tdiv (hi - lo) sp = (hi - lo) / sp := Int.tdiv_eq_ediv_of_nonneg (by omega)
  rw [e] at h2
  have k1 : i * sp ≤ (hi - lo) / sp * sp := Int.mul_le_mul_of_nonneg_right (by omega) (by omega)
  have k2 : (hi - lo) / sp * sp ≤ hi - lo := Int.ediv_mul_le _ (by omega)
  have k3 : 0 ≤ i * sp := Int.mul_nonneg (by omega) (by omega)
  have w1 : IntKind.wrap .i64 (i * sp) = i * sp := by rw [IntKind.wrap_i64]; omega
  have w2 : IntKind.wrap .i64 (lo + i * sp) = lo + i * sp := by rw [IntKind.wrap_i64]; omega
  refine ⟨?_, ?_, by omega, k3, ?_⟩
  · unfold markV
    rw [if_neg h1, if_neg (by rw [p5, e]; exact h2), w1, w2]
  · rw [w1, w2]
  · unfold onG
    rw [if_pos hp, if_pos (by omega), if_pos (by omega)]
    have : lo + i * sp - lo = i * sp := by omega
    rw [this, w1]
    simp
theorem LogOk.nil : LogOk [] := fun p h => by simp at h
theorem LogOk.cons {a b : Bool} {l : Log} (h : a = b) (t : LogOk l) : LogOk ((a, b) :: l) := fun p hp => by
  rcases List.mem_cons.1 hp with rfl | hp
  · exact h
  · exact t p hp
theorem grid_run (nm : List Nat) (kd lo hi sp ju le dr tl sc i m : Int) : run giv6 tbl 3 5 [panA nm kd lo hi sp ju le dr tl sc, .d (.int .i64 i), .d (.int .i64 m)] cx0 st0 = some (.ret (.d (.bool true)), st0) := by
  have hon : onG lo hi sp m = if marksI lo hi sp > 0 then (if m ≥ lo then (if m ≤ hi then Int.tmod (IntKind.wrap .i64 (m - lo)) sp == 0 else false) else false) else false := rfl
  have hsp : marksI lo hi sp > 0 → decide (sp = 0) = false := fun h => by have := (marks_pos h).1; exact decide_eq_false (by omega)
  have hself : (marksI lo hi sp != marksI lo hi sp) = false := by simp
  by_cases a1 : i < 0
  · have v : (markV lo hi sp i != 0) = false := by unfold markV; rw [if_pos a1]; rfl
    have e : (markE lo hi sp i != 5) = false := by unfold markE; rw [if_pos a1]; rfl
    by_cases h1 : marksI lo hi sp > 0
    · rw [if_pos h1] at hon
      by_cases h2 : m ≥ lo
      · rw [if_pos h2] at hon
        by_cases h3 : m ≤ hi
        · rw [if_pos h3] at hon
          cases h4 : (Int.tmod (IntKind.wrap .i64 (m - lo)) sp == 0) with
          | false => rw [h4] at hon; exact jFn_ok rfl rfl (j5_a3 nm kd lo hi sp ju le dr tl sc i m) (by repeat (first | exact LogOk.nil | refine LogOk.cons (by first | rfl | assumption | exact hself | exact v | exact e | exact decide_eq_true a1 | exact decide_eq_true h1 | exact decide_eq_true h2 | exact decide_eq_true h3 | exact hsp h1 | exact hon | exact h4) ?_))
          | true => rw [h4] at hon; exact jFn_ok rfl rfl (j5_a4 nm kd lo hi sp ju le dr tl sc i m) (by repeat (first | exact LogOk.nil | refine LogOk.cons (by first | rfl | assumption | exact hself | exact v | exact e | exact decide_eq_true a1 | exact decide_eq_true h1 | exact decide_eq_true h2 | exact decide_eq_true h3 | exact hsp h1 | exact hon | exact h4) ?_))
        · rw [if_neg h3] at hon; exact jFn_ok rfl rfl (j5_a2 nm kd lo hi sp ju le dr tl sc i m) (by repeat (first | exact LogOk.nil | refine LogOk.cons (by first | rfl | assumption | exact hself | exact v | exact e | exact decide_eq_true a1 | exact decide_eq_true h1 | exact decide_eq_true h2 | exact decide_eq_false h3 | exact hon) ?_))
      · rw [if_neg h2] at hon; exact jFn_ok rfl rfl (j5_a1 nm kd lo hi sp ju le dr tl sc i m) (by repeat (first | exact LogOk.nil | refine LogOk.cons (by first | rfl | assumption | exact hself | exact v | exact e | exact decide_eq_true a1 | exact decide_eq_true h1 | exact decide_eq_false h2 | exact hon) ?_))
    · rw [if_neg h1] at hon; exact jFn_ok rfl rfl (j5_a0 nm kd lo hi sp ju le dr tl sc i m) (by repeat (first | exact LogOk.nil | refine LogOk.cons (by first | rfl | assumption | exact hself | exact v | exact e | exact decide_eq_true a1 | exact decide_eq_false h1 | exact hon) ?_))
  by_cases a2 : i ≥ marksI lo hi sp
  · have v : (markV lo hi sp i != 0) = false := by unfold markV; rw [if_neg a1, if_pos a2]; rfl
    have e : (markE lo hi sp i != 5) = false := by unfold markE; rw [if_neg a1, if_pos a2]; rfl
    by_cases h1 : marksI lo hi sp > 0
    · rw [if_pos h1] at hon
      by_cases h2 : m ≥ lo
      · rw [if_pos h2] at hon
        by_cases h3 : m ≤ hi
        · rw [if_pos h3] at hon
          cases h4 : (Int.tmod (IntKind.wrap .i64 (m - lo)) sp == 0) with
          | false => rw [h4] at hon; exact jFn_ok rfl rfl (j5_b3 nm kd lo hi sp ju le dr tl sc i m) (by repeat (first | exact LogOk.nil | refine LogOk.cons (by first | rfl | assumption | exact hself | exact v | exact e | exact decide_eq_false a1 | exact decide_eq_true a2 | exact decide_eq_true h1 | exact decide_eq_true h2 | exact decide_eq_true h3 | exact hsp h1 | exact hon | exact h4) ?_))
          | true => rw [h4] at hon; exact jFn_ok rfl rfl (j5_b4 nm kd lo hi sp ju le dr tl sc i m) (by repeat (first | exact LogOk.nil | refine LogOk.cons (by first | rfl | assumption | exact hself | exact v | exact e | exact decide_eq_false a1 | exact decide_eq_true a2 | exact decide_eq_true h1 | exact decide_eq_true h2 | exact decide_eq_true h3 | exact hsp h1 | exact hon | exact h4) ?_))
        · rw [if_neg h3] at hon; exact jFn_ok rfl rfl (j5_b2 nm kd lo hi sp ju le dr tl sc i m) (by repeat (first | exact LogOk.nil | refine LogOk.cons (by first | rfl | assumption | exact hself | exact v | exact e | exact decide_eq_false a1 | exact decide_eq_true a2 | exact decide_eq_true h1 | exact decide_eq_true h2 | exact decide_eq_false h3 | exact hon) ?_))
      · rw [if_neg h2] at hon; exact jFn_ok rfl rfl (j5_b1 nm kd lo hi sp ju le dr tl sc i m) (by repeat (first | exact LogOk.nil | refine LogOk.cons (by first | rfl | assumption | exact hself | exact v | exact e | exact decide_eq_false a1 | exact decide_eq_true a2 | exact decide_eq_true h1 | exact decide_eq_false h2 | exact hon) ?_))
    · rw [if_neg h1] at hon; exact jFn_ok rfl rfl (j5_b0 nm kd lo hi sp ju le dr tl sc i m) (by repeat (first | exact LogOk.nil | refine LogOk.cons (by first | rfl | assumption | exact hself | exact v | exact e | exact decide_eq_false a1 | exact decide_eq_true a2 | exact decide_eq_false h1 | exact hon) ?_))
  obtain ⟨k1, k2, k3, k4, k5⟩ := mark_in a1 a2
  have v : (markV lo hi sp i != IntKind.wrap .i64 (lo + IntKind.wrap .i64 (i * sp))) = false := by rw [k1, k2]; simp
  have e : (markE lo hi sp i != 0) = false := by unfold markE; rw [if_neg a1, if_neg a2]; rfl
  have g : onG lo hi sp (markV lo hi sp i) = true := by rw [k1]; exact k5
  by_cases h1 : marksI lo hi sp > 0
  · rw [if_pos h1] at hon
    by_cases h2 : m ≥ lo
    · rw [if_pos h2] at hon
      by_cases h3 : m ≤ hi
      · rw [if_pos h3] at hon
        cases h4 : (Int.tmod (IntKind.wrap .i64 (m - lo)) sp == 0) with
        | false => rw [h4] at hon; exact jFn_ok rfl rfl (j5_c3 nm kd lo hi sp ju le dr tl sc i m) (by repeat (first | exact LogOk.nil | refine LogOk.cons (by first | rfl | assumption | exact hself | exact v | exact e | exact g | exact decide_eq_false a1 | exact decide_eq_false a2 | exact decide_eq_true h1 | exact decide_eq_true h2 | exact decide_eq_true h3 | exact hsp h1 | exact hon | exact h4) ?_))
        | true => rw [h4] at hon; exact jFn_ok rfl rfl (j5_c4 nm kd lo hi sp ju le dr tl sc i m) (by repeat (first | exact LogOk.nil | refine LogOk.cons (by first | rfl | assumption | exact hself | exact v | exact e | exact g | exact decide_eq_false a1 | exact decide_eq_false a2 | exact decide_eq_true h1 | exact decide_eq_true h2 | exact decide_eq_true h3 | exact hsp h1 | exact hon | exact h4) ?_))
      · rw [if_neg h3] at hon; exact jFn_ok rfl rfl (j5_c2 nm kd lo hi sp ju le dr tl sc i m) (by repeat (first | exact LogOk.nil | refine LogOk.cons (by first | rfl | assumption | exact hself | exact v | exact e | exact g | exact decide_eq_false a1 | exact decide_eq_false a2 | exact decide_eq_true h1 | exact decide_eq_true h2 | exact decide_eq_false h3 | exact hon) ?_))
    · rw [if_neg h2] at hon; exact jFn_ok rfl rfl (j5_c1 nm kd lo hi sp ju le dr tl sc i m) (by repeat (first | exact LogOk.nil | refine LogOk.cons (by first | rfl | assumption | exact hself | exact v | exact e | exact g | exact decide_eq_false a1 | exact decide_eq_false a2 | exact decide_eq_true h1 | exact decide_eq_false h2 | exact hon) ?_))
  · rw [if_neg h1] at hon; exact jFn_ok rfl rfl (j5_c0 nm kd lo hi sp ju le dr tl sc i m) (by repeat (first | exact LogOk.nil | refine LogOk.cons (by first | rfl | assumption | exact hself | exact v | exact e | exact g | exact decide_eq_false a1 | exact decide_eq_false a2 | exact decide_eq_false h1 | exact hon) ?_))
end Go.Rf
