/- SegmentFinds answers true for every segment and every name, and leaves its arguments as they were; condition: the row's listed variables hold what the program's text lays (the card ties them). -/
import Derived.Test.YtpenabnichgidaaGreatDoorRowF
import Derived.Test.YtpenabnichgidaaGreatDoorCloF
namespace Go.Proofs.YtpenabnichgidaaGreatDoor
open Go.ChangeShapes Go.WideShapes Go.ChangeAt Go.WideMaps Go.WideElems Go.RowKit Go.Rf
theorem finds_named : Tryz.pinned.checked.prog.funcNamed Rows.segmentFindsRow.func = some 7 := by kernel_rfl
theorem finds_inst : Tryz.f7.isInstance Tryz.pinned.checked.prog Rows.segmentFindsRow.origin Rows.segmentFindsRow.targs := of_decide_eq_true (by kernel_rfl)
theorem finds_wrap : Tryz.f7.isWrapper Tryz.pinned.checked.prog Rows.segmentFindsRow.wrapper Rows.segmentFindsRow.mainSum := by
  unfold Func.isWrapper
  first | (rw [if_pos (by decide +kernel)]; kernel_rfl) | (rw [if_neg (by decide +kernel)]; exact ⟨rfl, rfl⟩)
theorem finds_said : Rows.SegmentFindsSaid :=
  OpenClaim.holds_of_wide 7 Tryz.f7 rfl rfl rfl rfl rfl rfl rfl ⟨rfl, rfl, rfl, rfl, rfl⟩ rfl rfl rfl rfl rfl finds_named Tryz.func7 finds_closed finds_inst finds_wrap
    (fun os started H enc _ => finds_lifted os started H enc)

theorem finds_plain (f : FuncId) (fn : Func) (hf : Tryz.pinned.checked.prog.funcNamed "salchow/salchowlaw15.SegmentFinds" = some f) (hfn : Tryz.pinned.checked.prog.funcs[f]? = some fn) :
    true = Tryz.pinned.checked.prog.looks [] ∧ ∀ (j : Nat) t, fn.params[j]? = some t → Tryz.pinned.checked.prog.wantsStandIn t = false := by
  obtain rfl : f = 7 := Option.some.inj ((show Tryz.prog.funcNamed "salchow/salchowlaw15.SegmentFinds" = some 7 by kernel_rfl).symm.trans hf) |>.symm
  obtain rfl : fn = Tryz.f7 := (Option.some.inj (Tryz.func7.symm.trans hfn)).symm
  refine ⟨by kernel_rfl, fun j t ht => ?_⟩
  rw [Tryz.params7] at ht
  match j, ht with
  | 0, ht =>
    obtain rfl : (44 : Nat) = t := by simpa using ht
    exact (show Tryz.prog.wantsStandIn 44 = false by kernel_rfl)
  | 1, ht =>
    obtain rfl : (9 : Nat) = t := by simpa using ht
    exact (show Tryz.prog.wantsStandIn 9 = false by kernel_rfl)
  | n + 2, ht => simp at ht

theorem finds_card : Rows.SegmentFindsCardSaid :=
  Claim7.holds_tied_plain_at .later [] _ _ _ _ finds_said (fun _ h => by cases h) (by kernel_rfl) (fun _ h => by cases h) segmentFinds_row_tie rfl ⟨rfl, rfl⟩ (by kernel_rfl) rfl finds_plain (by kernel_rfl)
end Go.Proofs.YtpenabnichgidaaGreatDoor
