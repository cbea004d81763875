/- CatalogClosest: the row's closed facts, a part. -/
import Derived.Test.YtojhechepdlnhaaGreatDoorCards
import Derived.Stop.Joined
import Derived.KernelRfl
namespace Go.Proofs.YtojhechepdlnhaaGreatDoor
theorem clos_k10 : ((Rows.catalogClosestRow.inPlace == Tryz.pinned.checked.prog.inPlace 8)) = true := by kernel_rfl
theorem clos_k11 : ((Rows.catalogClosestRow.unfollowed == Tryz.pinned.checked.prog.unfollowed 8)) = true := by kernel_rfl
end Go.Proofs.YtojhechepdlnhaaGreatDoor
