/- SegmentNearest answers true for every panel and every number, and leaves its arguments as they were; condition: the row's listed variables hold what the program's text lays (the card ties them). -/
import Derived.Test.YtpenabnichgidaaGreatDoorRowN
import Derived.Test.YtpenabnichgidaaGreatDoorCloN
namespace Go.Proofs.YtpenabnichgidaaGreatDoor
open Go.ChangeShapes Go.WideShapes Go.ChangeAt Go.WideMaps Go.WideElems Go.RowKit Go.Rf
theorem near_named : Tryz.pinned.checked.prog.funcNamed Rows.segmentNearestRow.func = some 6 := by kernel_rfl
theorem near_inst : Tryz.f6.isInstance Tryz.pinned.checked.prog Rows.segmentNearestRow.origin Rows.segmentNearestRow.targs := of_decide_eq_true (by kernel_rfl)
theorem near_wrap : Tryz.f6.isWrapper Tryz.pinned.checked.prog Rows.segmentNearestRow.wrapper Rows.segmentNearestRow.mainSum := by
  unfold Func.isWrapper
  first | (rw [if_pos (by decide +kernel)]; kernel_rfl) | (rw [if_neg (by decide +kernel)]; exact ⟨rfl, rfl⟩)
theorem near_said : Rows.SegmentNearestSaid :=
  OpenClaim.holds_of_wide 6 Tryz.f6 rfl rfl rfl rfl rfl rfl rfl ⟨rfl, rfl, rfl, rfl, rfl⟩ rfl rfl rfl rfl rfl near_named Tryz.func6 near_closed near_inst near_wrap
    (fun os started H enc _ => near_lifted os started H enc)

theorem near_plain (f : FuncId) (fn : Func) (hf : Tryz.pinned.checked.prog.funcNamed "salchow/salchowlaw15.SegmentNearest" = some f) (hfn : Tryz.pinned.checked.prog.funcs[f]? = some fn) :
    true = Tryz.pinned.checked.prog.looks [] ∧ ∀ (j : Nat) t, fn.params[j]? = some t → Tryz.pinned.checked.prog.wantsStandIn t = false := by
  obtain rfl : f = 6 := Option.some.inj ((show Tryz.prog.funcNamed "salchow/salchowlaw15.SegmentNearest" = some 6 by kernel_rfl).symm.trans hf) |>.symm
  obtain rfl : fn = Tryz.f6 := (Option.some.inj (Tryz.func6.symm.trans hfn)).symm
  refine ⟨by kernel_rfl, fun j t ht => ?_⟩
  rw [Tryz.params6] at ht
  match j, ht with
  | 0, ht =>
    obtain rfl : (54 : Nat) = t := by simpa using ht
    exact (show Tryz.prog.wantsStandIn 54 = false by kernel_rfl)
  | 1, ht =>
    obtain rfl : (2 : Nat) = t := by simpa using ht
    exact (show Tryz.prog.wantsStandIn 2 = false by kernel_rfl)
  | n + 2, ht => simp at ht

theorem near_card : Rows.SegmentNearestCardSaid :=
  Claim7.holds_tied_plain_at .later [] _ _ _ _ near_said (fun _ h => by cases h) (by kernel_rfl) (fun _ h => by cases h) segmentNearest_row_tie rfl ⟨rfl, rfl⟩ (by kernel_rfl) rfl near_plain (by kernel_rfl)
end Go.Proofs.YtpenabnichgidaaGreatDoor
