/- Nearest as a given function; SegmentNearest answers true at the empty state. -/
import Derived.Test.YtpenabnichgidaaGreatDoorSpec
namespace Go.Rf
open Go.Proofs
set_option maxRecDepth 100000
set_option linter.unusedVariables false
def lastI (lo hi sp : Int) : Int := IntKind.wrap .i64 (lo + IntKind.wrap .i64 (IntKind.wrap .i64 (marksI lo hi sp - 1) * sp))
def clampI (lo hi sp n : Int) : Int := if lastI lo hi sp < (if lo > n then lo else n) then lastI lo hi sp else (if lo > n then lo else n)
def belowI (lo sp n : Int) : Int := IntKind.wrap .i64 (n - Int.tmod (IntKind.wrap .i64 (n - lo)) sp)
def nearV (lo hi sp n : Int) : Int := if marksI lo hi sp = 0 then 0 else if n ≤ lo then clampI lo hi sp n else if n ≥ lastI lo hi sp then clampI lo hi sp n else
  if IntKind.wrap .i64 (n - belowI lo sp n) > IntKind.wrap .i64 (IntKind.wrap .i64 (belowI lo sp n + sp) - n) then IntKind.wrap .i64 (belowI lo sp n + sp) else belowI lo sp n
def nearE (lo hi sp : Int) : Int := if marksI lo hi sp = 0 then 5 else 0
def sp22 : List AV → Option AV
  | [.agg [.d (.str nm), .d (.int .i64 kd), .d (.int .i64 lo), .d (.int .i64 hi), .d (.int .i64 sp), .d (.int .i64 ju), .d (.int .i64 le), .d (.int .i64 dr), .d (.int .i64 tl), .d (.int .i64 sc)], .d (.int .i64 n)] => some (.tup [.d (.int .i64 (nearV lo hi sp n)), .d (.int .i64 (nearE lo hi sp))])
  | _ => none
noncomputable def giv7 : Nat → Option (List AV → Cx → St → Option (Out × St)) := addG giv6 22 sp22

theorem marks_ge (lo hi sp : Int) : 0 ≤ marksI lo hi sp := by
  unfold marksI
  split
  · omega
  rename_i h1
  split
  · omega
  rename_i h2
  split
  · omega
  rename_i h3
  split
  · omega
  rename_i h4
  have e1 : IntKind.wrap .i64 (hi - lo) = hi - lo := by rw [IntKind.wrap_i64]; omega
  have hq0 : 0 ≤ Int.tdiv (hi - lo) sp := Int.tdiv_nonneg (by omega) (by omega)
  have hq1 : Int.tdiv (hi - lo) sp ≤ hi - lo := Int.tdiv_le_self _ (by omega)
  have e3 : IntKind.wrap .i64 (Int.tdiv (hi - lo) sp) = Int.tdiv (hi - lo) sp := by rw [IntKind.wrap_i64]; omega
  have e2 : IntKind.wrap .i64 (Int.tdiv (hi - lo) sp + 1) = Int.tdiv (hi - lo) sp + 1 := by rw [IntKind.wrap_i64]; omega
  rw [e1, e3, e2]; omega
theorem w64 {x : Int} (h0 : -9223372036854775808 ≤ x) (h1 : x ≤ 9223372036854775807) : IntKind.wrap .i64 x = x := by rw [IntKind.wrap_i64]; omega
/-- The greatest mark. -/
theorem last_facts {lo hi sp : Int} (hK : marksI lo hi sp ≠ 0) : lastI lo hi sp = lo + (marksI lo hi sp - 1) * sp ∧ lo ≤ lastI lo hi sp ∧ lastI lo hi sp ≤ hi ∧ hi < lastI lo hi sp + sp ∧ onG lo hi sp (lastI lo hi sp) = true ∧
    markV lo hi sp (IntKind.wrap .i64 (marksI lo hi sp - 1)) = lastI lo hi sp ∧ markE lo hi sp (IntKind.wrap .i64 (marksI lo hi sp - 1)) = 0 := by
  have hp : marksI lo hi sp > 0 := by have := marks_ge lo hi sp; omega
  obtain ⟨p1, p2, p3, p4, p5⟩ := marks_pos hp
  have hq1 : Int.tdiv (hi - lo) sp ≤ hi - lo := Int.tdiv_le_self _ (by omega)
  have w : IntKind.wrap .i64 (marksI lo hi sp - 1) = marksI lo hi sp - 1 := w64 (by omega) (by omega)
  obtain ⟨k1, k2, k3, k4, k5⟩ := mark_in (lo := lo) (hi := hi) (sp := sp) (i := marksI lo hi sp - 1) (by omega) (by omega)
  have hl : lastI lo hi sp = lo + (marksI lo hi sp - 1) * sp := by unfold lastI; rw [w, k2]
  rw [w, k1, hl]
  refine ⟨rfl, by omega, k3, ?_, k5, rfl, ?_⟩
  · have e : Int.tdiv (hi - lo) sp = (hi - lo) / sp := Int.tdiv_eq_ediv_of_nonneg (by omega)
    have h1 : marksI lo hi sp - 1 = (hi - lo) / sp := by rw [p5, e]; omega
    rw [h1]
    have h2 := Int.lt_ediv_add_one_mul_self (hi - lo) (show 0 < sp by omega)
    rw [Int.add_mul, Int.one_mul] at h2
    omega
  · unfold markE; rw [if_neg (by omega), if_neg (by omega)]
/-- What Nearest hands back is a mark, and as near as can be. -/
theorem near_facts {lo hi sp n : Int} (hK : marksI lo hi sp ≠ 0) : onG lo hi sp (nearV lo hi sp n) = true ∧ (n ≤ lo → nearV lo hi sp n = lo) ∧ (n ≥ lastI lo hi sp → ¬ n ≤ lo → nearV lo hi sp n = lastI lo hi sp) ∧
    (¬ n ≤ lo → ¬ n ≥ lastI lo hi sp → lo ≤ nearV lo hi sp n ∧ nearV lo hi sp n ≤ hi ∧ (nearV lo hi sp n ≤ n → 2 * (n - nearV lo hi sp n) ≤ sp) ∧ (nearV lo hi sp n > n → 2 * (nearV lo hi sp n - n) < sp)) := by
  have hp : marksI lo hi sp > 0 := by have := marks_ge lo hi sp; omega
  obtain ⟨p1, p2, p3, p4, p5⟩ := marks_pos hp
  obtain ⟨l1, l2, l3, l4, l5, l6, l7⟩ := last_facts hK
  by_cases h1 : n ≤ lo
  · have e : nearV lo hi sp n = lo := by
      unfold nearV
      rw [if_neg hK, if_pos h1]
      unfold clampI
      by_cases h2 : lo > n
      · simp only [if_pos h2]; rw [if_neg (by omega)]
      · simp only [if_neg h2]; rw [if_neg (by omega)]; omega
    have g : onG lo hi sp lo = true := by
      obtain ⟨-, -, -, -, k5⟩ := mark_in (lo := lo) (hi := hi) (sp := sp) (i := 0) (by omega) (by omega)
      simpa using k5
    rw [e]
    exact ⟨g, fun _ => rfl, fun _ h => absurd h1 h, fun h => absurd h1 h⟩
  · by_cases h2 : n ≥ lastI lo hi sp
    · have e : nearV lo hi sp n = lastI lo hi sp := by
        unfold nearV
        rw [if_neg hK, if_neg h1, if_pos h2]
        unfold clampI
        have : ¬ lo > n := by omega
        simp only [if_neg this]
        by_cases h3 : lastI lo hi sp < n
        · rw [if_pos h3]
        · rw [if_neg h3]; omega
      rw [e]
      exact ⟨l5, fun h => absurd h h1, fun _ _ => rfl, fun _ h => absurd h2 h⟩
    · -- between the least and the greatest mark
      have w0 : IntKind.wrap .i64 (n - lo) = n - lo := w64 (by omega) (by omega)
      have hm : Int.tmod (n - lo) sp = (n - lo) % sp := Int.tmod_eq_emod_of_nonneg (by omega)
      have r0 : 0 ≤ (n - lo) % sp := Int.emod_nonneg _ (by omega)
      have r1 : (n - lo) % sp < sp := Int.emod_lt_of_pos _ (by omega)
      have hd : (n - lo) / sp * sp + (n - lo) % sp = n - lo := Int.ediv_mul_add_emod (n - lo) sp
      have ht0 : 0 ≤ (n - lo) / sp := Int.ediv_nonneg (by omega) (by omega)
      have hT : 0 ≤ (n - lo) / sp * sp := Int.mul_nonneg ht0 (by omega)
      have hb : belowI lo sp n = lo + (n - lo) / sp * sp := by
        unfold belowI
        rw [w0, hm, w64 (by omega) (by omega)]
        omega
      have htq : (n - lo) / sp < marksI lo hi sp - 1 := by
        refine Int.lt_of_mul_lt_mul_right (a := sp) ?_ (by omega)
        omega
      obtain ⟨-, -, a3, a4, a5⟩ := mark_in (lo := lo) (hi := hi) (sp := sp) (i := (n - lo) / sp) (by omega) (by omega)
      obtain ⟨-, -, b3, b4, b5⟩ := mark_in (lo := lo) (hi := hi) (sp := sp) (i := (n - lo) / sp + 1) (by omega) (by omega)
      rw [Int.add_mul, Int.one_mul] at b3 b4 b5
      have eN : nearV lo hi sp n = if (n - lo) % sp > sp - (n - lo) % sp then lo + (n - lo) / sp * sp + sp else lo + (n - lo) / sp * sp := by
        unfold nearV
        rw [if_neg hK, if_neg h1, if_neg h2, hb]
        generalize (n - lo) / sp * sp = T at *
        have e1 : IntKind.wrap .i64 (n - (lo + T)) = (n - lo) % sp := by rw [w64 (by omega) (by omega)]; omega
        have e2 : IntKind.wrap .i64 (lo + T + sp) = lo + T + sp := w64 (by omega) (by omega)
        have e3 : IntKind.wrap .i64 (lo + T + sp - n) = sp - (n - lo) % sp := by rw [w64 (by omega) (by omega)]; omega
        rw [e1, e2, e3]
      rw [eN]
      generalize (n - lo) / sp * sp = T at *
      by_cases h3 : (n - lo) % sp > sp - (n - lo) % sp
      · rw [if_pos h3]
        refine ⟨?_, fun h => absurd h h1, fun h => absurd h h2, fun _ _ => ⟨by omega, by omega, fun _ => by omega, fun _ => by omega⟩⟩
        have : lo + T + sp = lo + (T + sp) := by omega
        rw [this]; exact b5
      · rw [if_neg h3]
        exact ⟨a5, fun h => absurd h h1, fun h => absurd h h2, fun _ _ => ⟨by omega, by omega, fun _ => by omega, fun _ => by omega⟩⟩
end Go.Rf

namespace Go.Rf
open Go.Proofs
set_option maxRecDepth 100000
set_option linter.unusedVariables false
theorem j22_0 (nm : List Nat) (kd lo hi sp ju le dr tl sc : Int) (n : Int) : jFn (run giv6 tbl 2) pf22 [panA nm kd lo hi sp ju le dr tl sc, .d (.int .i64 n)] cx0 st0 [true] = some (.ret (.tup [.d (.int .i64 0), .d (.int .i64 5)]), st0, [(((marksI lo hi sp) == 0), true)]) := by kernel_rfl
theorem j22_1 (nm : List Nat) (kd lo hi sp ju le dr tl sc : Int) (n : Int) : jFn (run giv6 tbl 2) pf22 [panA nm kd lo hi sp ju le dr tl sc, .d (.int .i64 n)] cx0 st0 [false, true] = some (.ret (.tup [.d (.int .i64 (if (IntKind.wrap .i64 (lo + (IntKind.wrap .i64 ((IntKind.wrap .i64 ((marksI lo hi sp) - 1)) * sp)))) < (if lo > n then lo else n) then (IntKind.wrap .i64 (lo + (IntKind.wrap .i64 ((IntKind.wrap .i64 ((marksI lo hi sp) - 1)) * sp)))) else (if lo > n then lo else n))), .d (.int .i64 0)]), st0, [((decide (n ≤ lo)), true), (((marksI lo hi sp) == 0), false)]) := by kernel_rfl
theorem j22_2 (nm : List Nat) (kd lo hi sp ju le dr tl sc : Int) (n : Int) : jFn (run giv6 tbl 2) pf22 [panA nm kd lo hi sp ju le dr tl sc, .d (.int .i64 n)] cx0 st0 [false, false, true] = some (.ret (.tup [.d (.int .i64 (if (IntKind.wrap .i64 (lo + (IntKind.wrap .i64 ((IntKind.wrap .i64 ((marksI lo hi sp) - 1)) * sp)))) < (if lo > n then lo else n) then (IntKind.wrap .i64 (lo + (IntKind.wrap .i64 ((IntKind.wrap .i64 ((marksI lo hi sp) - 1)) * sp)))) else (if lo > n then lo else n))), .d (.int .i64 0)]), st0, [((decide (n ≥ (IntKind.wrap .i64 (lo + (IntKind.wrap .i64 ((IntKind.wrap .i64 ((marksI lo hi sp) - 1)) * sp)))))), true), ((decide (n ≤ lo)), false), (((marksI lo hi sp) == 0), false)]) := by kernel_rfl
theorem j22_3 (nm : List Nat) (kd lo hi sp ju le dr tl sc : Int) (n : Int) : jFn (run giv6 tbl 2) pf22 [panA nm kd lo hi sp ju le dr tl sc, .d (.int .i64 n)] cx0 st0 [false, false, false, true] = some (.ret (.tup [.d (.int .i64 (IntKind.wrap .i64 ((IntKind.wrap .i64 (n - (Int.tmod (IntKind.wrap .i64 (n - lo)) sp))) + sp))), .d (.int .i64 0)]), st0, [((decide ((IntKind.wrap .i64 (n - (IntKind.wrap .i64 (n - (Int.tmod (IntKind.wrap .i64 (n - lo)) sp))))) > (IntKind.wrap .i64 ((IntKind.wrap .i64 ((IntKind.wrap .i64 (n - (Int.tmod (IntKind.wrap .i64 (n - lo)) sp))) + sp)) - n)))), true), (decide (sp = 0), false), ((decide (n ≥ (IntKind.wrap .i64 (lo + (IntKind.wrap .i64 ((IntKind.wrap .i64 ((marksI lo hi sp) - 1)) * sp)))))), false), ((decide (n ≤ lo)), false), (((marksI lo hi sp) == 0), false)]) := by kernel_rfl
theorem j22_4 (nm : List Nat) (kd lo hi sp ju le dr tl sc : Int) (n : Int) : jFn (run giv6 tbl 2) pf22 [panA nm kd lo hi sp ju le dr tl sc, .d (.int .i64 n)] cx0 st0 [false, false, false, false] = some (.ret (.tup [.d (.int .i64 (IntKind.wrap .i64 (n - (Int.tmod (IntKind.wrap .i64 (n - lo)) sp)))), .d (.int .i64 0)]), st0, [((decide ((IntKind.wrap .i64 (n - (IntKind.wrap .i64 (n - (Int.tmod (IntKind.wrap .i64 (n - lo)) sp))))) > (IntKind.wrap .i64 ((IntKind.wrap .i64 ((IntKind.wrap .i64 (n - (Int.tmod (IntKind.wrap .i64 (n - lo)) sp))) + sp)) - n)))), false), (decide (sp = 0), false), ((decide (n ≥ (IntKind.wrap .i64 (lo + (IntKind.wrap .i64 ((IntKind.wrap .i64 ((marksI lo hi sp) - 1)) * sp)))))), false), ((decide (n ≤ lo)), false), (((marksI lo hi sp) == 0), false)]) := by kernel_rfl
theorem j6_0 (nm : List Nat) (kd lo hi sp ju le dr tl sc : Int) (n : Int) : jFn (run giv7 tbl 2) pf6 [panA nm kd lo hi sp ju le dr tl sc, .d (.int .i64 n)] cx0 st0 [true, true, true, true] = some (.ret (.d (.bool true)), st0, [(((nearV lo hi sp n) == 0), true), (((nearE lo hi sp) == 5), true), (((marksI lo hi sp) == 0), true), (true, true)]) := by kernel_rfl
theorem j6_1 (nm : List Nat) (kd lo hi sp ju le dr tl sc : Int) (n : Int) : jFn (run giv7 tbl 2) pf6 [panA nm kd lo hi sp ju le dr tl sc, .d (.int .i64 n)] cx0 st0 [true, false, false, true, true, true] = some (.ret (.d (.bool true)), st0, [(((nearV lo hi sp n) == lo), true), ((decide (n ≤ lo)), true), ((onG lo hi sp (nearV lo hi sp n)), true), (((nearE lo hi sp) != 0), false), (((marksI lo hi sp) == 0), false), (true, true)]) := by kernel_rfl
theorem j6_2 (nm : List Nat) (kd lo hi sp ju le dr tl sc : Int) (n : Int) : jFn (run giv7 tbl 2) pf6 [panA nm kd lo hi sp ju le dr tl sc, .d (.int .i64 n)] cx0 st0 [true, false, false, true, false, true, true, true] = some (.ret (.d (.bool true)), st0, [(((nearV lo hi sp n) == (markV lo hi sp (IntKind.wrap .i64 ((marksI lo hi sp) - 1)))), true), (((markE lo hi sp (IntKind.wrap .i64 ((marksI lo hi sp) - 1))) == 0), true), ((decide (n ≥ hi)), true), ((decide (n ≤ lo)), false), ((onG lo hi sp (nearV lo hi sp n)), true), (((nearE lo hi sp) != 0), false), (((marksI lo hi sp) == 0), false), (true, true)]) := by kernel_rfl
theorem j6_3 (nm : List Nat) (kd lo hi sp ju le dr tl sc : Int) (n : Int) : jFn (run giv7 tbl 2) pf6 [panA nm kd lo hi sp ju le dr tl sc, .d (.int .i64 n)] cx0 st0 [true, false, false, true, false, false, true, false, true, true] = some (.ret (.d (.bool true)), st0, [((decide ((if (IntKind.wrap .i64 ((IntKind.wrap .i64 (n - (nearV lo hi sp n))) - sp)) > (IntKind.wrap .i64 ((IntKind.wrap .i64 ((nearV lo hi sp n) + sp)) - n)) then (IntKind.wrap .i64 ((IntKind.wrap .i64 (n - (nearV lo hi sp n))) - sp)) else (IntKind.wrap .i64 ((IntKind.wrap .i64 ((nearV lo hi sp n) + sp)) - n))) ≥ (if (IntKind.wrap .i64 (n - (nearV lo hi sp n))) > (IntKind.wrap .i64 ((nearV lo hi sp n) - n)) then (IntKind.wrap .i64 (n - (nearV lo hi sp n))) else (IntKind.wrap .i64 ((nearV lo hi sp n) - n))))), true), ((onG lo hi sp (IntKind.wrap .i64 ((nearV lo hi sp n) + sp))), true), ((decide ((if (IntKind.wrap .i64 ((IntKind.wrap .i64 (n - (nearV lo hi sp n))) + sp)) > (IntKind.wrap .i64 ((IntKind.wrap .i64 ((nearV lo hi sp n) - sp)) - n)) then (IntKind.wrap .i64 ((IntKind.wrap .i64 (n - (nearV lo hi sp n))) + sp)) else (IntKind.wrap .i64 ((IntKind.wrap .i64 ((nearV lo hi sp n) - sp)) - n))) ≤ (if (IntKind.wrap .i64 (n - (nearV lo hi sp n))) > (IntKind.wrap .i64 ((nearV lo hi sp n) - n)) then (IntKind.wrap .i64 (n - (nearV lo hi sp n))) else (IntKind.wrap .i64 ((nearV lo hi sp n) - n))))), false), ((onG lo hi sp (IntKind.wrap .i64 ((nearV lo hi sp n) - sp))), true), ((decide (n ≥ hi)), false), ((decide (n ≤ lo)), false), ((onG lo hi sp (nearV lo hi sp n)), true), (((nearE lo hi sp) != 0), false), (((marksI lo hi sp) == 0), false), (true, true)]) := by kernel_rfl
theorem j6_4 (nm : List Nat) (kd lo hi sp ju le dr tl sc : Int) (n : Int) : jFn (run giv7 tbl 2) pf6 [panA nm kd lo hi sp ju le dr tl sc, .d (.int .i64 n)] cx0 st0 [true, false, false, true, false, false, true, false, false] = some (.ret (.d (.bool true)), st0, [((onG lo hi sp (IntKind.wrap .i64 ((nearV lo hi sp n) + sp))), false), ((decide ((if (IntKind.wrap .i64 ((IntKind.wrap .i64 (n - (nearV lo hi sp n))) + sp)) > (IntKind.wrap .i64 ((IntKind.wrap .i64 ((nearV lo hi sp n) - sp)) - n)) then (IntKind.wrap .i64 ((IntKind.wrap .i64 (n - (nearV lo hi sp n))) + sp)) else (IntKind.wrap .i64 ((IntKind.wrap .i64 ((nearV lo hi sp n) - sp)) - n))) ≤ (if (IntKind.wrap .i64 (n - (nearV lo hi sp n))) > (IntKind.wrap .i64 ((nearV lo hi sp n) - n)) then (IntKind.wrap .i64 (n - (nearV lo hi sp n))) else (IntKind.wrap .i64 ((nearV lo hi sp n) - n))))), false), ((onG lo hi sp (IntKind.wrap .i64 ((nearV lo hi sp n) - sp))), true), ((decide (n ≥ hi)), false), ((decide (n ≤ lo)), false), ((onG lo hi sp (nearV lo hi sp n)), true), (((nearE lo hi sp) != 0), false), (((marksI lo hi sp) == 0), false), (true, true)]) := by kernel_rfl
theorem j6_5 (nm : List Nat) (kd lo hi sp ju le dr tl sc : Int) (n : Int) : jFn (run giv7 tbl 2) pf6 [panA nm kd lo hi sp ju le dr tl sc, .d (.int .i64 n)] cx0 st0 [true, false, false, true, false, false, false, true, true] = some (.ret (.d (.bool true)), st0, [((decide ((if (IntKind.wrap .i64 ((IntKind.wrap .i64 (n - (nearV lo hi sp n))) - sp)) > (IntKind.wrap .i64 ((IntKind.wrap .i64 ((nearV lo hi sp n) + sp)) - n)) then (IntKind.wrap .i64 ((IntKind.wrap .i64 (n - (nearV lo hi sp n))) - sp)) else (IntKind.wrap .i64 ((IntKind.wrap .i64 ((nearV lo hi sp n) + sp)) - n))) ≥ (if (IntKind.wrap .i64 (n - (nearV lo hi sp n))) > (IntKind.wrap .i64 ((nearV lo hi sp n) - n)) then (IntKind.wrap .i64 (n - (nearV lo hi sp n))) else (IntKind.wrap .i64 ((nearV lo hi sp n) - n))))), true), ((onG lo hi sp (IntKind.wrap .i64 ((nearV lo hi sp n) + sp))), true), ((onG lo hi sp (IntKind.wrap .i64 ((nearV lo hi sp n) - sp))), false), ((decide (n ≥ hi)), false), ((decide (n ≤ lo)), false), ((onG lo hi sp (nearV lo hi sp n)), true), (((nearE lo hi sp) != 0), false), (((marksI lo hi sp) == 0), false), (true, true)]) := by kernel_rfl
theorem j6_6 (nm : List Nat) (kd lo hi sp ju le dr tl sc : Int) (n : Int) : jFn (run giv7 tbl 2) pf6 [panA nm kd lo hi sp ju le dr tl sc, .d (.int .i64 n)] cx0 st0 [true, false, false, true, false, false, false, false] = some (.ret (.d (.bool true)), st0, [((onG lo hi sp (IntKind.wrap .i64 ((nearV lo hi sp n) + sp))), false), ((onG lo hi sp (IntKind.wrap .i64 ((nearV lo hi sp n) - sp))), false), ((decide (n ≥ hi)), false), ((decide (n ≤ lo)), false), ((onG lo hi sp (nearV lo hi sp n)), true), (((nearE lo hi sp) != 0), false), (((marksI lo hi sp) == 0), false), (true, true)]) := by kernel_rfl
end Go.Rf

namespace Go.Rf
open Go.Proofs
set_option maxRecDepth 100000
set_option linter.unusedVariables false
theorem run22 (nm : List Nat) (kd lo hi sp ju le dr tl sc n : Int) : run giv6 tbl 3 22 [panA nm kd lo hi sp ju le dr tl sc, .d (.int .i64 n)] cx0 st0 = some (.ret (.tup [.d (.int .i64 (nearV lo hi sp n)), .d (.int .i64 (nearE lo hi sp))]), st0) := by
  unfold nearV nearE clampI
  by_cases h1 : marksI lo hi sp = 0
  · rw [if_pos h1, if_pos h1]; exact jFn_ok rfl rfl (j22_0 nm kd lo hi sp ju le dr tl sc n) (LogOk.cons (by simp [h1]) LogOk.nil)
  rw [if_neg h1, if_neg h1]
  have e1 : (marksI lo hi sp == 0) = false := by simp [h1]
  by_cases h2 : n ≤ lo
  · rw [if_pos h2]; exact jFn_ok rfl rfl (j22_1 nm kd lo hi sp ju le dr tl sc n) (LogOk.cons (decide_eq_true h2) (LogOk.cons e1 LogOk.nil))
  rw [if_neg h2]
  by_cases h3 : n ≥ lastI lo hi sp
  · rw [if_pos h3]; exact jFn_ok rfl rfl (j22_2 nm kd lo hi sp ju le dr tl sc n) (LogOk.cons (decide_eq_true h3) (LogOk.cons (decide_eq_false h2) (LogOk.cons e1 LogOk.nil)))
  rw [if_neg h3]
  have hs : decide (sp = 0) = false := by
    have := marks_ge lo hi sp
    have := (marks_pos (lo := lo) (hi := hi) (sp := sp) (by omega)).1
    exact decide_eq_false (by omega)
  by_cases h4 : IntKind.wrap .i64 (n - belowI lo sp n) > IntKind.wrap .i64 (IntKind.wrap .i64 (belowI lo sp n + sp) - n)
  · rw [if_pos h4]; exact jFn_ok rfl rfl (j22_3 nm kd lo hi sp ju le dr tl sc n) (LogOk.cons (decide_eq_true h4) (LogOk.cons hs (LogOk.cons (decide_eq_false h3) (LogOk.cons (decide_eq_false h2) (LogOk.cons e1 LogOk.nil)))))
  · rw [if_neg h4]; exact jFn_ok rfl rfl (j22_4 nm kd lo hi sp ju le dr tl sc n) (LogOk.cons (decide_eq_false h4) (LogOk.cons hs (LogOk.cons (decide_eq_false h3) (LogOk.cons (decide_eq_false h2) (LogOk.cons e1 LogOk.nil)))))
theorem giv7_ok : GivOk Tryz.prog loud giv7 := by
  refine addG_ok (n := 3) mixedT giv6_ok ckTbl fun args v h => ?_
  unfold sp22 at h
  split at h
  · injection h with h; subst h
    exact ⟨run22 _ _ _ _ _ _ _ _ _ _ _, rfl, rfl⟩
  · exact absurd h (by simp)
theorem onG_out {lo hi sp m : Int} (h : m < lo ∨ m > hi) : onG lo hi sp m = false := by
  unfold onG
  split
  · split
    · split
      · omega
      · rfl
    · rfl
  · rfl
theorem near_run (nm : List Nat) (kd lo hi sp ju le dr tl sc n : Int) (hspb : sp ≤ 9223372036854775807) : run giv7 tbl 3 6 [panA nm kd lo hi sp ju le dr tl sc, .d (.int .i64 n)] cx0 st0 = some (.ret (.d (.bool true)), st0) := by
  by_cases hK : marksI lo hi sp = 0
  · have v : (nearV lo hi sp n == 0) = true := by unfold nearV; rw [if_pos hK]; rfl
    have e : (nearE lo hi sp == 5) = true := by unfold nearE; rw [if_pos hK]; rfl
    exact jFn_ok rfl rfl (j6_0 nm kd lo hi sp ju le dr tl sc n) (LogOk.cons v (LogOk.cons e (LogOk.cons (by simp [hK]) (LogOk.cons rfl LogOk.nil))))
  have hz : (marksI lo hi sp == 0) = false := by simp [hK]
  have e : (nearE lo hi sp != 0) = false := by unfold nearE; rw [if_neg hK]; rfl
  have hp : marksI lo hi sp > 0 := by have := marks_ge lo hi sp; omega
  obtain ⟨p1, p2, p3, p4, p5⟩ := marks_pos hp
  obtain ⟨f1, f2, f3, f4⟩ := near_facts (n := n) hK
  obtain ⟨l1, l2, l3, l4, l5, l6, l7⟩ := last_facts hK
  by_cases h1 : n ≤ lo
  · have v : (nearV lo hi sp n == lo) = true := by rw [f2 h1]; simp
    exact jFn_ok rfl rfl (j6_1 nm kd lo hi sp ju le dr tl sc n) (LogOk.cons v (LogOk.cons (decide_eq_true h1) (LogOk.cons f1 (LogOk.cons e (LogOk.cons hz (LogOk.cons rfl LogOk.nil))))))
  by_cases h2 : n ≥ hi
  · have v : (nearV lo hi sp n == markV lo hi sp (IntKind.wrap .i64 (marksI lo hi sp - 1))) = true := by rw [f3 (by omega) h1, l6]; simp
    have ve : (markE lo hi sp (IntKind.wrap .i64 (marksI lo hi sp - 1)) == 0) = true := by rw [l7]; rfl
    exact jFn_ok rfl rfl (j6_2 nm kd lo hi sp ju le dr tl sc n) (LogOk.cons v (LogOk.cons ve (LogOk.cons (decide_eq_true h2) (LogOk.cons (decide_eq_false h1) (LogOk.cons f1 (LogOk.cons e (LogOk.cons hz (LogOk.cons rfl LogOk.nil))))))))
  have hb : lo ≤ nearV lo hi sp n ∧ nearV lo hi sp n ≤ hi := by
    by_cases h3 : n ≥ lastI lo hi sp
    · rw [f3 h3 h1]; exact ⟨l2, l3⟩
    · exact ⟨(f4 h1 h3).1, (f4 h1 h3).2.1⟩
  have d1 : decide (n ≥ hi) = false := decide_eq_false h2
  have d2 : decide (n ≤ lo) = false := decide_eq_false h1
  by_cases hsp : sp ≤ 2000000
  · have w1 : IntKind.wrap .i64 (nearV lo hi sp n - sp) = nearV lo hi sp n - sp := w64 (by omega) (by omega)
    have w2 : IntKind.wrap .i64 (nearV lo hi sp n + sp) = nearV lo hi sp n + sp := w64 (by omega) (by omega)
    have w3 : IntKind.wrap .i64 (n - nearV lo hi sp n) = n - nearV lo hi sp n := w64 (by omega) (by omega)
    have w4 : IntKind.wrap .i64 (nearV lo hi sp n - n) = nearV lo hi sp n - n := w64 (by omega) (by omega)
    have w5 : IntKind.wrap .i64 (n - nearV lo hi sp n + sp) = n - nearV lo hi sp n + sp := w64 (by omega) (by omega)
    have w6 : IntKind.wrap .i64 (n - nearV lo hi sp n - sp) = n - nearV lo hi sp n - sp := w64 (by omega) (by omega)
    have w7 : IntKind.wrap .i64 (nearV lo hi sp n - sp - n) = nearV lo hi sp n - sp - n := w64 (by omega) (by omega)
    have w8 : IntKind.wrap .i64 (nearV lo hi sp n + sp - n) = nearV lo hi sp n + sp - n := w64 (by omega) (by omega)
    have c1 : (decide ((if (IntKind.wrap .i64 ((IntKind.wrap .i64 (n - (nearV lo hi sp n))) + sp)) > (IntKind.wrap .i64 ((IntKind.wrap .i64 ((nearV lo hi sp n) - sp)) - n)) then (IntKind.wrap .i64 ((IntKind.wrap .i64 (n - (nearV lo hi sp n))) + sp)) else (IntKind.wrap .i64 ((IntKind.wrap .i64 ((nearV lo hi sp n) - sp)) - n))) ≤ (if (IntKind.wrap .i64 (n - (nearV lo hi sp n))) > (IntKind.wrap .i64 ((nearV lo hi sp n) - n)) then (IntKind.wrap .i64 (n - (nearV lo hi sp n))) else (IntKind.wrap .i64 ((nearV lo hi sp n) - n))))) = false := by
      rw [w1, w3, w4, w5, w7]
      refine decide_eq_false ?_
      by_cases h3 : n ≥ lastI lo hi sp
      · rw [f3 h3 h1]; split <;> split <;> omega
      · obtain ⟨-, -, q1, q2⟩ := f4 h1 h3
        generalize nearV lo hi sp n = m at *
        rcases Int.lt_or_le n m with hm | hm
        · have := q2 hm; split <;> split <;> omega
        · have := q1 hm; split <;> split <;> omega
    cases g1 : onG lo hi sp (IntKind.wrap .i64 (nearV lo hi sp n - sp)) with
    | true =>
      cases g2 : onG lo hi sp (IntKind.wrap .i64 (nearV lo hi sp n + sp)) with
      | true =>
        have c2 : (decide ((if (IntKind.wrap .i64 ((IntKind.wrap .i64 (n - (nearV lo hi sp n))) - sp)) > (IntKind.wrap .i64 ((IntKind.wrap .i64 ((nearV lo hi sp n) + sp)) - n)) then (IntKind.wrap .i64 ((IntKind.wrap .i64 (n - (nearV lo hi sp n))) - sp)) else (IntKind.wrap .i64 ((IntKind.wrap .i64 ((nearV lo hi sp n) + sp)) - n))) ≥ (if (IntKind.wrap .i64 (n - (nearV lo hi sp n))) > (IntKind.wrap .i64 ((nearV lo hi sp n) - n)) then (IntKind.wrap .i64 (n - (nearV lo hi sp n))) else (IntKind.wrap .i64 ((nearV lo hi sp n) - n))))) = true := by
          rw [w2, w3, w4, w6, w8]
          refine decide_eq_true ?_
          by_cases h3 : n ≥ lastI lo hi sp
          · exfalso
            rw [w2, f3 h3 h1] at g2
            rw [onG_out (by omega)] at g2
            exact Bool.false_ne_true g2
          · obtain ⟨-, -, q1, q2⟩ := f4 h1 h3
            generalize nearV lo hi sp n = m at *
            rcases Int.lt_or_le n m with hm | hm
            · have := q2 hm; split <;> split <;> omega
            · have := q1 hm; split <;> split <;> omega
        exact jFn_ok rfl rfl (j6_3 nm kd lo hi sp ju le dr tl sc n) (LogOk.cons c2 (LogOk.cons g2 (LogOk.cons c1 (LogOk.cons g1 (LogOk.cons d1 (LogOk.cons d2 (LogOk.cons f1 (LogOk.cons e (LogOk.cons hz (LogOk.cons rfl LogOk.nil))))))))))
      | false => exact jFn_ok rfl rfl (j6_4 nm kd lo hi sp ju le dr tl sc n) (LogOk.cons g2 (LogOk.cons c1 (LogOk.cons g1 (LogOk.cons d1 (LogOk.cons d2 (LogOk.cons f1 (LogOk.cons e (LogOk.cons hz (LogOk.cons rfl LogOk.nil)))))))))
    | false =>
      cases g2 : onG lo hi sp (IntKind.wrap .i64 (nearV lo hi sp n + sp)) with
      | true =>
        have c2 : (decide ((if (IntKind.wrap .i64 ((IntKind.wrap .i64 (n - (nearV lo hi sp n))) - sp)) > (IntKind.wrap .i64 ((IntKind.wrap .i64 ((nearV lo hi sp n) + sp)) - n)) then (IntKind.wrap .i64 ((IntKind.wrap .i64 (n - (nearV lo hi sp n))) - sp)) else (IntKind.wrap .i64 ((IntKind.wrap .i64 ((nearV lo hi sp n) + sp)) - n))) ≥ (if (IntKind.wrap .i64 (n - (nearV lo hi sp n))) > (IntKind.wrap .i64 ((nearV lo hi sp n) - n)) then (IntKind.wrap .i64 (n - (nearV lo hi sp n))) else (IntKind.wrap .i64 ((nearV lo hi sp n) - n))))) = true := by
          rw [w2, w3, w4, w6, w8]
          refine decide_eq_true ?_
          by_cases h3 : n ≥ lastI lo hi sp
          · exfalso
            rw [w2, f3 h3 h1] at g2
            rw [onG_out (by omega)] at g2
            exact Bool.false_ne_true g2
          · obtain ⟨-, -, q1, q2⟩ := f4 h1 h3
            generalize nearV lo hi sp n = m at *
            rcases Int.lt_or_le n m with hm | hm
            · have := q2 hm; split <;> split <;> omega
            · have := q1 hm; split <;> split <;> omega
        exact jFn_ok rfl rfl (j6_5 nm kd lo hi sp ju le dr tl sc n) (LogOk.cons c2 (LogOk.cons g2 (LogOk.cons g1 (LogOk.cons d1 (LogOk.cons d2 (LogOk.cons f1 (LogOk.cons e (LogOk.cons hz (LogOk.cons rfl LogOk.nil)))))))))
      | false => exact jFn_ok rfl rfl (j6_6 nm kd lo hi sp ju le dr tl sc n) (LogOk.cons g2 (LogOk.cons g1 (LogOk.cons d1 (LogOk.cons d2 (LogOk.cons f1 (LogOk.cons e (LogOk.cons hz (LogOk.cons rfl LogOk.nil))))))))
  · have g1 : onG lo hi sp (IntKind.wrap .i64 (nearV lo hi sp n - sp)) = false := onG_out (by rw [IntKind.wrap_i64]; omega)
    have g2 : onG lo hi sp (IntKind.wrap .i64 (nearV lo hi sp n + sp)) = false := onG_out (by rw [IntKind.wrap_i64]; omega)
    exact jFn_ok rfl rfl (j6_6 nm kd lo hi sp ju le dr tl sc n) (LogOk.cons g2 (LogOk.cons g1 (LogOk.cons d1 (LogOk.cons d2 (LogOk.cons f1 (LogOk.cons e (LogOk.cons hz (LogOk.cons rfl LogOk.nil))))))))
end Go.Rf
