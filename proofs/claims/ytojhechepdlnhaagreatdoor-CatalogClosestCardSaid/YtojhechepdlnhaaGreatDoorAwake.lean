/- The chapter's example is answered: at every state, by one evaluation. -/
import Derived.Test.YtojhechepdlnhaaGreatDoorKin
namespace Go.Rf
open Go.Proofs Go.RowKit
set_option maxRecDepth 100000
set_option linter.unusedVariables false
set_option linter.unusedSimpArgs false
theorem awake_run : fRun giv2 tbl 400 12 [] cx0 st0 = some (.ret (.d (.bool true)), st0) := by kernel_rfl
def g12 : List AV → Cx → St → Option (Out × St)
  | [], _, st => some (.ret (.d (.bool true)), st)
  | _, _, _ => none
noncomputable def giv4 : Nat → Option (List AV → Cx → St → Option (Out × St))
  | 12 => some g12
  | f => giv2 f
theorem giv4_ok : GivOk Tryz.prog loud giv4 := by
  intro f gf hf args cx st o st' h
  unfold giv4 at hf
  split at hf
  · injection hf with hf; subst hf
    unfold g12 at h
    split at h
    · simp only [Option.some.injEq, Prod.mk.injEq] at h
      obtain ⟨rfl, rfl⟩ := h
      have hr := awake_run
      rw [fRun_eq] at hr
      obtain ⟨h1, h2⟩ := memo_flat (run_ok mixedP giv2_ok ckTbl 400).1 hr rfl (by decide +kernel)
      exact ⟨h1, fun _ => rfl, fun g w vs hs hcx ha => h2 cx g _ w vs hs hcx ha⟩
    · exact absurd h (by simp)
  · exact giv2_ok f gf hf args cx st o st' h
end Go.Rf
