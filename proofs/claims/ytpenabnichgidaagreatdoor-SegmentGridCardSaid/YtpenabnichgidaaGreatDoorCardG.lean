/- SegmentGrid answers true for every panel, every number of a mark and every mark, and leaves its arguments as they were; condition: the row's listed variables hold what the program's text lays (the card ties them). -/
import Derived.Test.YtpenabnichgidaaGreatDoorRowG
import Derived.Test.YtpenabnichgidaaGreatDoorCloG
namespace Go.Proofs.YtpenabnichgidaaGreatDoor
open Go.ChangeShapes Go.WideShapes Go.ChangeAt Go.WideMaps Go.WideElems Go.RowKit Go.Rf
theorem grid_named : Tryz.pinned.checked.prog.funcNamed Rows.segmentGridRow.func = some 5 := by kernel_rfl
theorem grid_inst : Tryz.f5.isInstance Tryz.pinned.checked.prog Rows.segmentGridRow.origin Rows.segmentGridRow.targs := of_decide_eq_true (by kernel_rfl)
theorem grid_wrap : Tryz.f5.isWrapper Tryz.pinned.checked.prog Rows.segmentGridRow.wrapper Rows.segmentGridRow.mainSum := by
  unfold Func.isWrapper
  first | (rw [if_pos (by decide +kernel)]; kernel_rfl) | (rw [if_neg (by decide +kernel)]; exact ⟨rfl, rfl⟩)
theorem grid_said : Rows.SegmentGridSaid :=
  OpenClaim.holds_of_wide 5 Tryz.f5 rfl rfl rfl rfl rfl rfl rfl ⟨rfl, rfl, rfl, rfl, rfl⟩ rfl rfl rfl rfl rfl grid_named Tryz.func5 grid_closed grid_inst grid_wrap
    (fun os started H enc _ => grid_lifted os started H enc)

theorem grid_plain (f : FuncId) (fn : Func) (hf : Tryz.pinned.checked.prog.funcNamed "salchow/salchowlaw15.SegmentGrid" = some f) (hfn : Tryz.pinned.checked.prog.funcs[f]? = some fn) :
    true = Tryz.pinned.checked.prog.looks [] ∧ ∀ (j : Nat) t, fn.params[j]? = some t → Tryz.pinned.checked.prog.wantsStandIn t = false := by
  obtain rfl : f = 5 := Option.some.inj ((show Tryz.prog.funcNamed "salchow/salchowlaw15.SegmentGrid" = some 5 by kernel_rfl).symm.trans hf) |>.symm
  obtain rfl : fn = Tryz.f5 := (Option.some.inj (Tryz.func5.symm.trans hfn)).symm
  refine ⟨by kernel_rfl, fun j t ht => ?_⟩
  rw [Tryz.params5] at ht
  match j, ht with
  | 0, ht =>
    obtain rfl : (54 : Nat) = t := by simpa using ht
    exact (show Tryz.prog.wantsStandIn 54 = false by kernel_rfl)
  | 1, ht =>
    obtain rfl : (3 : Nat) = t := by simpa using ht
    exact (show Tryz.prog.wantsStandIn 3 = false by kernel_rfl)
  | 2, ht =>
    obtain rfl : (2 : Nat) = t := by simpa using ht
    exact (show Tryz.prog.wantsStandIn 2 = false by kernel_rfl)
  | n + 3, ht => simp at ht

theorem grid_card : Rows.SegmentGridCardSaid :=
  Claim7.holds_tied_plain_at .later [] _ _ _ _ grid_said (fun _ h => by cases h) (by kernel_rfl) (fun _ h => by cases h) segmentGrid_row_tie rfl ⟨rfl, rfl⟩ (by kernel_rfl) rfl grid_plain (by kernel_rfl)
end Go.Proofs.YtpenabnichgidaaGreatDoor
