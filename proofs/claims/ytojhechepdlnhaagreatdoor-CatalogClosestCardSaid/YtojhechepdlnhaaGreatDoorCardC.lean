/- CatalogClosest answers true for every catalog and string, and leaves them as they were; condition: the row's listed variables hold what the program's text lays (the card ties them). -/
import Derived.Test.YtojhechepdlnhaaGreatDoorRowC
import Derived.Test.YtojhechepdlnhaaGreatDoorCloC
namespace Go.Proofs.YtojhechepdlnhaaGreatDoor
open Go.ChangeShapes Go.WideShapes Go.ChangeAt Go.WideMaps Go.WideElems Go.RowKit Go.Rf
theorem clos_named : Tryz.pinned.checked.prog.funcNamed Rows.catalogClosestRow.func = some 8 := by kernel_rfl
theorem clos_inst : Tryz.f8.isInstance Tryz.pinned.checked.prog Rows.catalogClosestRow.origin Rows.catalogClosestRow.targs := of_decide_eq_true (by kernel_rfl)
theorem clos_wrap : Tryz.f8.isWrapper Tryz.pinned.checked.prog Rows.catalogClosestRow.wrapper Rows.catalogClosestRow.mainSum := by
  unfold Func.isWrapper
  first | (rw [if_pos (by decide +kernel)]; kernel_rfl) | (rw [if_neg (by decide +kernel)]; exact ⟨rfl, rfl⟩)
theorem clos_said : Rows.CatalogClosestSaid :=
  OpenClaim.holds_of_wide 8 Tryz.f8 rfl rfl rfl rfl rfl rfl rfl ⟨rfl, rfl, rfl, rfl, rfl⟩ rfl rfl rfl rfl rfl clos_named Tryz.func8 clos_closed clos_inst clos_wrap
    (fun os started H enc _ => clos_lifted os started H enc)

theorem clos_plain (f : FuncId) (fn : Func) (hf : Tryz.pinned.checked.prog.funcNamed "salchow/salchowlaw14.CatalogClosest" = some f) (hfn : Tryz.pinned.checked.prog.funcs[f]? = some fn) :
    true = Tryz.pinned.checked.prog.looks [] ∧ ∀ (j : Nat) t, fn.params[j]? = some t → Tryz.pinned.checked.prog.wantsStandIn t = false := by
  obtain rfl : f = 8 := Option.some.inj ((show Tryz.prog.funcNamed "salchow/salchowlaw14.CatalogClosest" = some 8 by kernel_rfl).symm.trans hf) |>.symm
  obtain rfl : fn = Tryz.f8 := (Option.some.inj (Tryz.func8.symm.trans hfn)).symm
  refine ⟨by kernel_rfl, fun j t ht => ?_⟩
  rw [Tryz.params8] at ht
  match j, ht with
  | 0, ht =>
    obtain rfl : (27 : Nat) = t := by simpa using ht
    exact (show Tryz.prog.wantsStandIn 27 = false by kernel_rfl)
  | 1, ht =>
    obtain rfl : (9 : Nat) = t := by simpa using ht
    exact (show Tryz.prog.wantsStandIn 9 = false by kernel_rfl)
  | n + 2, ht => simp at ht

theorem clos_card : Rows.CatalogClosestCardSaid :=
  Claim7.holds_tied_plain_at .later [] _ _ _ _ clos_said (fun _ h => by cases h) (by kernel_rfl) (fun _ h => by cases h) catalogClosest_row_tie rfl ⟨rfl, rfl⟩ (by kernel_rfl) rfl clos_plain (by kernel_rfl)
end Go.Proofs.YtojhechepdlnhaaGreatDoor
