/- SegmentFinds: the row's closed facts. -/
import Derived.Test.YtpenabnichgidaaGreatDoorCloFa
import Derived.Test.YtpenabnichgidaaGreatDoorCloFb
import Derived.Test.YtpenabnichgidaaGreatDoorCloFc
import Derived.KernelRfl
namespace Go.Proofs.YtpenabnichgidaaGreatDoor
theorem and_t {a b : Bool} (h : a = true) (g : b = true) : (a && b) = true := by rw [h, g]; rfl
theorem finds_closed : joinedFacts Tryz.pinned.checked.prog 7 Tryz.f7 Rows.segmentFindsSpec Rows.segmentFindsRow = true := by
  unfold joinedFacts
  refine (and_t (and_t (and_t (and_t (and_t (and_t (and_t (and_t (and_t (and_t (and_t (and_t (and_t (and_t (and_t (and_t (and_t (and_t (and_t (and_t (and_t (and_t (and_t (and_t (and_t (and_t (and_t (and_t (and_t (and_t (and_t finds_k1 finds_k2) finds_k3) finds_k4) finds_k5) finds_k6) finds_k7) finds_k8) finds_k9) finds_k10) finds_k11) finds_k12) finds_k13) finds_k14) finds_k15) finds_k16) finds_k17) finds_k17b) finds_k18) finds_k19) finds_k20) finds_k21) finds_k22) finds_k23) finds_k23b) finds_k24) finds_k24b) finds_k24c) ?_) finds_k26) finds_k27) finds_k28)
  kernel_rfl
end Go.Proofs.YtpenabnichgidaaGreatDoor
