/- CatalogClosest: the row's closed facts, a part. -/
import Derived.Test.YtojhechepdlnhaaGreatDoorCards
import Derived.Stop.Joined
import Derived.KernelRfl
namespace Go.Proofs.YtojhechepdlnhaaGreatDoor
theorem clos_k12 : ((Rows.catalogClosestRow.recurses == Tryz.pinned.checked.prog.recurses 8)) = true := by kernel_rfl
theorem clos_k13 : ((Rows.catalogClosestRow.named == Tryz.pinned.checked.prog.varsNamed 8)) = true := by kernel_rfl
end Go.Proofs.YtojhechepdlnhaaGreatDoor
