/- CatalogDistance answers true for all three strings, and leaves them as they were; condition: the row's listed variables hold what the program's text lays (the card ties them). -/
import Derived.Test.YtojhechepdlnhaaGreatDoorRowD
import Derived.Test.YtojhechepdlnhaaGreatDoorCloD
namespace Go.Proofs.YtojhechepdlnhaaGreatDoor
open Go.ChangeShapes Go.WideShapes Go.ChangeAt Go.WideMaps Go.WideElems Go.RowKit Go.Rf
theorem dist_named : Tryz.pinned.checked.prog.funcNamed Rows.catalogDistanceRow.func = some 7 := by kernel_rfl
theorem dist_inst : Tryz.f7.isInstance Tryz.pinned.checked.prog Rows.catalogDistanceRow.origin Rows.catalogDistanceRow.targs := of_decide_eq_true (by kernel_rfl)
theorem dist_wrap : Tryz.f7.isWrapper Tryz.pinned.checked.prog Rows.catalogDistanceRow.wrapper Rows.catalogDistanceRow.mainSum := by
  unfold Func.isWrapper
  first | (rw [if_pos (by decide +kernel)]; kernel_rfl) | (rw [if_neg (by decide +kernel)]; exact ⟨rfl, rfl⟩)
theorem dist_said : Rows.CatalogDistanceSaid :=
  OpenClaim.holds_of_wide 7 Tryz.f7 rfl rfl rfl rfl rfl rfl rfl ⟨rfl, rfl, rfl, rfl, rfl⟩ rfl rfl rfl rfl rfl dist_named Tryz.func7 dist_closed dist_inst dist_wrap
    (fun os started H enc _ => dist_lifted os started H enc)

theorem dist_plain (f : FuncId) (fn : Func) (hf : Tryz.pinned.checked.prog.funcNamed "salchow/salchowlaw14.CatalogDistance" = some f) (hfn : Tryz.pinned.checked.prog.funcs[f]? = some fn) :
    true = Tryz.pinned.checked.prog.looks [] ∧ ∀ (j : Nat) t, fn.params[j]? = some t → Tryz.pinned.checked.prog.wantsStandIn t = false := by
  obtain rfl : f = 7 := Option.some.inj ((show Tryz.prog.funcNamed "salchow/salchowlaw14.CatalogDistance" = some 7 by kernel_rfl).symm.trans hf) |>.symm
  obtain rfl : fn = Tryz.f7 := (Option.some.inj (Tryz.func7.symm.trans hfn)).symm
  refine ⟨by kernel_rfl, fun j t ht => ?_⟩
  rw [Tryz.params7] at ht
  match j, ht with
  | 0, ht =>
    obtain rfl : (9 : Nat) = t := by simpa using ht
    exact (show Tryz.prog.wantsStandIn 9 = false by kernel_rfl)
  | 1, ht =>
    obtain rfl : (9 : Nat) = t := by simpa using ht
    exact (show Tryz.prog.wantsStandIn 9 = false by kernel_rfl)
  | 2, ht =>
    obtain rfl : (9 : Nat) = t := by simpa using ht
    exact (show Tryz.prog.wantsStandIn 9 = false by kernel_rfl)
  | n + 3, ht => simp at ht

theorem dist_card : Rows.CatalogDistanceCardSaid :=
  Claim7.holds_tied_plain_at .later [] _ _ _ _ dist_said (fun _ h => by cases h) (by kernel_rfl) (fun _ h => by cases h) catalogDistance_row_tie rfl ⟨rfl, rfl⟩ (by kernel_rfl) rfl dist_plain (by kernel_rfl)
end Go.Proofs.YtojhechepdlnhaaGreatDoor
