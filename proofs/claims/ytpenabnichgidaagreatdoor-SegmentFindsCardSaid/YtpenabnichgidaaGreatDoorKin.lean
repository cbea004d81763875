/- The table of kinds, evaluated once; the formula's parser as a given function. -/
import Derived.Test.YtpenabnichgidaaGreatDoorGe
namespace Go.Rf
open Go.Proofs Go.RowKit
set_option maxRecDepth 100000
set_option linter.unusedVariables false
set_option linter.unusedSimpArgs false
def kindsV : AV := .agg [.d (.int .u8 0), .d (.int .u8 0), .d (.int .u8 0), .d (.int .u8 0), .d (.int .u8 0), .d (.int .u8 0), .d (.int .u8 0), .d (.int .u8 0), .d (.int .u8 0), .d (.int .u8 1), .d (.int .u8 1), .d (.int .u8 0), .d (.int .u8 0), .d (.int .u8 1), .d (.int .u8 0), .d (.int .u8 0), .d (.int .u8 0), .d (.int .u8 0), .d (.int .u8 0), .d (.int .u8 0), .d (.int .u8 0), .d (.int .u8 0), .d (.int .u8 0), .d (.int .u8 0), .d (.int .u8 0), .d (.int .u8 0), .d (.int .u8 0), .d (.int .u8 0), .d (.int .u8 0), .d (.int .u8 0), .d (.int .u8 0), .d (.int .u8 0), .d (.int .u8 1), .d (.int .u8 0), .d (.int .u8 0), .d (.int .u8 0), .d (.int .u8 0), .d (.int .u8 0), .d (.int .u8 0), .d (.int .u8 0), .d (.int .u8 5), .d (.int .u8 5), .d (.int .u8 5), .d (.int .u8 5), .d (.int .u8 5), .d (.int .u8 5), .d (.int .u8 4), .d (.int .u8 5), .d (.int .u8 3), .d (.int .u8 3), .d (.int .u8 3), .d (.int .u8 3), .d (.int .u8 3), .d (.int .u8 3), .d (.int .u8 3), .d (.int .u8 3), .d (.int .u8 3), .d (.int .u8 3), .d (.int .u8 0), .d (.int .u8 5), .d (.int .u8 0), .d (.int .u8 5), .d (.int .u8 0), .d (.int .u8 0), .d (.int .u8 0), .d (.int .u8 2), .d (.int .u8 2), .d (.int .u8 2), .d (.int .u8 2), .d (.int .u8 2), .d (.int .u8 2), .d (.int .u8 2), .d (.int .u8 2), .d (.int .u8 2), .d (.int .u8 2), .d (.int .u8 2), .d (.int .u8 2), .d (.int .u8 2), .d (.int .u8 2), .d (.int .u8 2), .d (.int .u8 2), .d (.int .u8 2), .d (.int .u8 2), .d (.int .u8 2), .d (.int .u8 2), .d (.int .u8 2), .d (.int .u8 2), .d (.int .u8 2), .d (.int .u8 2), .d (.int .u8 2), .d (.int .u8 2), .d (.int .u8 0), .d (.int .u8 0), .d (.int .u8 0), .d (.int .u8 0), .d (.int .u8 2), .d (.int .u8 0), .d (.int .u8 2), .d (.int .u8 2), .d (.int .u8 2), .d (.int .u8 2), .d (.int .u8 2), .d (.int .u8 2), .d (.int .u8 2), .d (.int .u8 2), .d (.int .u8 2), .d (.int .u8 2), .d (.int .u8 2), .d (.int .u8 2), .d (.int .u8 2), .d (.int .u8 2), .d (.int .u8 2), .d (.int .u8 2), .d (.int .u8 2), .d (.int .u8 2), .d (.int .u8 2), .d (.int .u8 2), .d (.int .u8 2), .d (.int .u8 2), .d (.int .u8 2), .d (.int .u8 2), .d (.int .u8 2), .d (.int .u8 2), .d (.int .u8 5), .d (.int .u8 0), .d (.int .u8 5), .d (.int .u8 0), .d (.int .u8 0), .d (.int .u8 0), .d (.int .u8 0), .d (.int .u8 0), .d (.int .u8 0), .d (.int .u8 0), .d (.int .u8 0), .d (.int .u8 0), .d (.int .u8 0), .d (.int .u8 0), .d (.int .u8 0), .d (.int .u8 0), .d (.int .u8 0), .d (.int .u8 0), .d (.int .u8 0), .d (.int .u8 0), .d (.int .u8 0), .d (.int .u8 0), .d (.int .u8 0), .d (.int .u8 0), .d (.int .u8 0), .d (.int .u8 0), .d (.int .u8 0), .d (.int .u8 0), .d (.int .u8 0), .d (.int .u8 0), .d (.int .u8 0), .d (.int .u8 0), .d (.int .u8 0), .d (.int .u8 0), .d (.int .u8 0), .d (.int .u8 0), .d (.int .u8 0), .d (.int .u8 0), .d (.int .u8 0), .d (.int .u8 0), .d (.int .u8 0), .d (.int .u8 0), .d (.int .u8 0), .d (.int .u8 0), .d (.int .u8 0), .d (.int .u8 0), .d (.int .u8 0), .d (.int .u8 0), .d (.int .u8 0), .d (.int .u8 0), .d (.int .u8 0), .d (.int .u8 0), .d (.int .u8 0), .d (.int .u8 0), .d (.int .u8 0), .d (.int .u8 0), .d (.int .u8 0), .d (.int .u8 0), .d (.int .u8 0), .d (.int .u8 0), .d (.int .u8 0), .d (.int .u8 0), .d (.int .u8 0), .d (.int .u8 0), .d (.int .u8 0), .d (.int .u8 0), .d (.int .u8 0), .d (.int .u8 0), .d (.int .u8 0), .d (.int .u8 0), .d (.int .u8 0), .d (.int .u8 0), .d (.int .u8 0), .d (.int .u8 0), .d (.int .u8 0), .d (.int .u8 0), .d (.int .u8 0), .d (.int .u8 0), .d (.int .u8 0), .d (.int .u8 0), .d (.int .u8 0), .d (.int .u8 0), .d (.int .u8 0), .d (.int .u8 0), .d (.int .u8 0), .d (.int .u8 0), .d (.int .u8 0), .d (.int .u8 0), .d (.int .u8 0), .d (.int .u8 0), .d (.int .u8 0), .d (.int .u8 0), .d (.int .u8 0), .d (.int .u8 0), .d (.int .u8 0), .d (.int .u8 0), .d (.int .u8 0), .d (.int .u8 0), .d (.int .u8 0), .d (.int .u8 0), .d (.int .u8 0), .d (.int .u8 0), .d (.int .u8 0), .d (.int .u8 0), .d (.int .u8 0), .d (.int .u8 0), .d (.int .u8 0), .d (.int .u8 0), .d (.int .u8 0), .d (.int .u8 0), .d (.int .u8 0), .d (.int .u8 0), .d (.int .u8 0), .d (.int .u8 0), .d (.int .u8 0), .d (.int .u8 0), .d (.int .u8 0), .d (.int .u8 0), .d (.int .u8 0), .d (.int .u8 0), .d (.int .u8 0), .d (.int .u8 0), .d (.int .u8 0), .d (.int .u8 0), .d (.int .u8 0), .d (.int .u8 0), .d (.int .u8 0), .d (.int .u8 0), .d (.int .u8 0), .d (.int .u8 0), .d (.int .u8 0), .d (.int .u8 0), .d (.int .u8 0)]
theorem kinds_run : fRun giv1 tbl 1000 206 [] cx0 st0 = some (.ret kindsV, st0) := by kernel_rfl
def g206 : List AV → Cx → St → Option (Out × St)
  | [], _, st => some (.ret kindsV, st)
  | _, _, _ => none
noncomputable def giv2 : Nat → Option (List AV → Cx → St → Option (Out × St))
  | 206 => some g206
  | f => giv1 f
theorem giv2_ok : GivOk Tryz.prog loud giv2 := by
  intro f gf hf args cx st o st' h
  unfold giv2 at hf
  split at hf
  · injection hf with hf; subst hf
    unfold g206 at h
    split at h
    · simp only [Option.some.injEq, Prod.mk.injEq] at h
      obtain ⟨rfl, rfl⟩ := h
      have hr := kinds_run
      rw [fRun_eq] at hr
      obtain ⟨h1, h2⟩ := memo_flat (run_ok mixedT giv1_ok ckTbl 1000).1 hr rfl (by decide +kernel)
      exact ⟨h1, fun _ => rfl, fun g w vs hs hcx ha => h2 cx g _ w vs hs hcx ha⟩
    · exact absurd h (by simp)
  · exact giv1_ok f gf hf args cx st o st' h
noncomputable def g159 (args : List AV) (cx : Cx) (st : St) : Option (Out × St) := runDef (fRun giv2 tbl 400) 400 d159 args cx st
noncomputable def giv3 : Nat → Option (List AV → Cx → St → Option (Out × St))
  | 159 => some g159
  | f => giv2 f
theorem giv3_ok : GivOk Tryz.prog loud giv3 := by
  intro f gf hf args cx st o st' h
  unfold giv3 at hf
  split at hf
  · injection hf with hf; subst hf
    unfold g159 at h
    rw [fRun_eq] at h
    obtain ⟨h1, h2⟩ := run_ok mixedT giv2_ok ckTbl 400
    obtain ⟨h3, h4⟩ := parse_ok h1 h2 400 h
    exact ⟨by kernel_rfl, fun _ => h3, h4⟩
  · exact giv2_ok f gf hf args cx st o st' h
end Go.Rf
