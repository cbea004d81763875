/- CatalogDistance: the row's closed facts. -/
import Derived.Test.YtojhechepdlnhaaGreatDoorCards
import Derived.Stop.Joined
import Derived.KernelRfl
namespace Go.Proofs.YtojhechepdlnhaaGreatDoor
theorem dist_closed : joinedFacts Tryz.pinned.checked.prog 7 Tryz.f7 Rows.catalogDistanceSpec Rows.catalogDistanceRow = true := by kernel_rfl
end Go.Proofs.YtojhechepdlnhaaGreatDoor
