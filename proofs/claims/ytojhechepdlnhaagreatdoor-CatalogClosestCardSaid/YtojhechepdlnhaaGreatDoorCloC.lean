/- CatalogClosest: the row's closed facts. -/
import Derived.Test.YtojhechepdlnhaaGreatDoorCloCa
import Derived.Test.YtojhechepdlnhaaGreatDoorCloCb
import Derived.Test.YtojhechepdlnhaaGreatDoorCloCc
import Derived.KernelRfl
namespace Go.Proofs.YtojhechepdlnhaaGreatDoor
theorem and_t {a b : Bool} (h : a = true) (g : b = true) : (a && b) = true := by rw [h, g]; rfl
theorem clos_closed : joinedFacts Tryz.pinned.checked.prog 8 Tryz.f8 Rows.catalogClosestSpec Rows.catalogClosestRow = true := by
  unfold joinedFacts
  refine (and_t (and_t (and_t (and_t (and_t (and_t (and_t (and_t (and_t (and_t (and_t (and_t (and_t (and_t (and_t (and_t (and_t (and_t (and_t (and_t (and_t (and_t (and_t (and_t (and_t (and_t (and_t (and_t (and_t (and_t (and_t clos_k1 clos_k2) clos_k3) clos_k4) clos_k5) clos_k6) clos_k7) clos_k8) clos_k9) clos_k10) clos_k11) clos_k12) clos_k13) clos_k14) clos_k15) clos_k16) clos_k17) clos_k17b) clos_k18) clos_k19) clos_k20) clos_k21) clos_k22) clos_k23) clos_k23b) clos_k24) clos_k24b) clos_k24c) ?_) clos_k26) clos_k27) clos_k28)
  kernel_rfl
end Go.Proofs.YtojhechepdlnhaaGreatDoor
