/- The table of kinds, evaluated once. -/
import Derived.Test.YtojhechepdlnhaaGreatDoorGe
namespace Go.Rf
open Go.Proofs Go.RowKit
set_option maxRecDepth 100000
set_option linter.unusedVariables false
set_option linter.unusedSimpArgs false
def kindsV : AV := .agg [.d (.int .u8 0), .d (.int .u8 0), .d (.int .u8 0), .d (.int .u8 0), .d (.int .u8 0), .d (.int .u8 0), .d (.int .u8 0), .d (.int .u8 0), .d (.int .u8 0), .d (.int .u8 1), .d (.int .u8 1), .d (.int .u8 0), .d (.int .u8 0), .d (.int .u8 1), .d (.int .u8 0), .d (.int .u8 0), .d (.int .u8 0), .d (.int .u8 0), .d (.int .u8 0), .d (.int .u8 0), .d (.int .u8 0), .d (.int .u8 0), .d (.int .u8 0), .d (.int .u8 0), .d (.int .u8 0), .d (.int .u8 0), .d (.int .u8 0), .d (.int .u8 0), .d (.int .u8 0), .d (.int .u8 0), .d (.int .u8 0), .d (.int .u8 0), .d (.int .u8 1), .d (.int .u8 0), .d (.int .u8 0), .d (.int .u8 0), .d (.int .u8 0), .d (.int .u8 0), .d (.int .u8 0), .d (.int .u8 0), .d (.int .u8 5), .d (.int .u8 5), .d (.int .u8 5), .d (.int .u8 5), .d (.int .u8 5), .d (.int .u8 5), .d (.int .u8 4), .d (.int .u8 5), .d (.int .u8 3), .d (.int .u8 3), .d (.int .u8 3), .d (.int .u8 3), .d (.int .u8 3), .d (.int .u8 3), .d (.int .u8 3), .d (.int .u8 3), .d (.int .u8 3), .d (.int .u8 3), .d (.int .u8 0), .d (.int .u8 5), .d (.int .u8 0), .d (.int .u8 5), .d (.int .u8 0), .d (.int .u8 0), .d (.int .u8 0), .d (.int .u8 2), .d (.int .u8 2), .d (.int .u8 2), .d (.int .u8 2), .d (.int .u8 2), .d (.int .u8 2), .d (.int .u8 2), .d (.int .u8 2), .d (.int .u8 2), .d (.int .u8 2), .d (.int .u8 2), .d (.int .u8 2), .d (.int .u8 2), .d (.int .u8 2), .d (.int .u8 2), .d (.int .u8 2), .d (.int .u8 2), .d (.int .u8 2), .d (.int .u8 2), .d (.int .u8 2), .d (.int .u8 2), .d (.int .u8 2), .d (.int .u8 2), .d (.int .u8 2), .d (.int .u8 2), .d (.int .u8 2), .d (.int .u8 0), .d (.int .u8 0), .d (.int .u8 0), .d (.int .u8 0), .d (.int .u8 2), .d (.int .u8 0), .d (.int .u8 2), .d (.int .u8 2), .d (.int .u8 2), .d (.int .u8 2), .d (.int .u8 2), .d (.int .u8 2), .d (.int .u8 2), .d (.int .u8 2), .d (.int .u8 2), .d (.int .u8 2), .d (.int .u8 2), .d (.int .u8 2), .d (.int .u8 2), .d (.int .u8 2), .d (.int .u8 2), .d (.int .u8 2), .d (.int .u8 2), .d (.int .u8 2), .d (.int .u8 2), .d (.int .u8 2), .d (.int .u8 2), .d (.int .u8 2), .d (.int .u8 2), .d (.int .u8 2), .d (.int .u8 2), .d (.int .u8 2), .d (.int .u8 5), .d (.int .u8 0), .d (.int .u8 5), .d (.int .u8 0), .d (.int .u8 0), .d (.int .u8 0), .d (.int .u8 0), .d (.int .u8 0), .d (.int .u8 0), .d (.int .u8 0), .d (.int .u8 0), .d (.int .u8 0), .d (.int .u8 0), .d (.int .u8 0), .d (.int .u8 0), .d (.int .u8 0), .d (.int .u8 0), .d (.int .u8 0), .d (.int .u8 0), .d (.int .u8 0), .d (.int .u8 0), .d (.int .u8 0), .d (.int .u8 0), .d (.int .u8 0), .d (.int .u8 0), .d (.int .u8 0), .d (.int .u8 0), .d (.int .u8 0), .d (.int .u8 0), .d (.int .u8 0), .d (.int .u8 0), .d (.int .u8 0), .d (.int .u8 0), .d (.int .u8 0), .d (.int .u8 0), .d (.int .u8 0), .d (.int .u8 0), .d (.int .u8 0), .d (.int .u8 0), .d (.int .u8 0), .d (.int .u8 0), .d (.int .u8 0), .d (.int .u8 0), .d (.int .u8 0), .d (.int .u8 0), .d (.int .u8 0), .d (.int .u8 0), .d (.int .u8 0), .d (.int .u8 0), .d (.int .u8 0), .d (.int .u8 0), .d (.int .u8 0), .d (.int .u8 0), .d (.int .u8 0), .d (.int .u8 0), .d (.int .u8 0), .d (.int .u8 0), .d (.int .u8 0), .d (.int .u8 0), .d (.int .u8 0), .d (.int .u8 0), .d (.int .u8 0), .d (.int .u8 0), .d (.int .u8 0), .d (.int .u8 0), .d (.int .u8 0), .d (.int .u8 0), .d (.int .u8 0), .d (.int .u8 0), .d (.int .u8 0), .d (.int .u8 0), .d (.int .u8 0), .d (.int .u8 0), .d (.int .u8 0), .d (.int .u8 0), .d (.int .u8 0), .d (.int .u8 0), .d (.int .u8 0), .d (.int .u8 0), .d (.int .u8 0), .d (.int .u8 0), .d (.int .u8 0), .d (.int .u8 0), .d (.int .u8 0), .d (.int .u8 0), .d (.int .u8 0), .d (.int .u8 0), .d (.int .u8 0), .d (.int .u8 0), .d (.int .u8 0), .d (.int .u8 0), .d (.int .u8 0), .d (.int .u8 0), .d (.int .u8 0), .d (.int .u8 0), .d (.int .u8 0), .d (.int .u8 0), .d (.int .u8 0), .d (.int .u8 0), .d (.int .u8 0), .d (.int .u8 0), .d (.int .u8 0), .d (.int .u8 0), .d (.int .u8 0), .d (.int .u8 0), .d (.int .u8 0), .d (.int .u8 0), .d (.int .u8 0), .d (.int .u8 0), .d (.int .u8 0), .d (.int .u8 0), .d (.int .u8 0), .d (.int .u8 0), .d (.int .u8 0), .d (.int .u8 0), .d (.int .u8 0), .d (.int .u8 0), .d (.int .u8 0), .d (.int .u8 0), .d (.int .u8 0), .d (.int .u8 0), .d (.int .u8 0), .d (.int .u8 0), .d (.int .u8 0), .d (.int .u8 0), .d (.int .u8 0), .d (.int .u8 0), .d (.int .u8 0), .d (.int .u8 0), .d (.int .u8 0), .d (.int .u8 0), .d (.int .u8 0), .d (.int .u8 0)]
theorem kinds_run : fRun giv1 tbl 1000 186 [] cx0 st0 = some (.ret kindsV, st0) := by kernel_rfl
def g186 : List AV → Cx → St → Option (Out × St)
  | [], _, st => some (.ret kindsV, st)
  | _, _, _ => none
noncomputable def giv2 : Nat → Option (List AV → Cx → St → Option (Out × St))
  | 186 => some g186
  | f => giv1 f
theorem giv2_ok : GivOk Tryz.prog loud giv2 := by
  intro f gf hf args cx st o st' h
  unfold giv2 at hf
  split at hf
  · injection hf with hf; subst hf
    unfold g186 at h
    split at h
    · simp only [Option.some.injEq, Prod.mk.injEq] at h
      obtain ⟨rfl, rfl⟩ := h
      have hr := kinds_run
      rw [fRun_eq] at hr
      obtain ⟨h1, h2⟩ := memo_flat (run_ok mixedP giv1_ok ckTbl 1000).1 hr rfl (by decide +kernel)
      exact ⟨h1, fun _ => rfl, fun g w vs hs hcx ha => h2 cx g _ w vs hs hcx ha⟩
    · exact absurd h (by simp)
  · exact giv1_ok f gf hf args cx st o st' h
end Go.Rf
