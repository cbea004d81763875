/- SegmentNearest: the row's closed facts. -/
import Derived.Test.YtpenabnichgidaaGreatDoorCards
import Derived.Stop.Joined
import Derived.KernelRfl
namespace Go.Proofs.YtpenabnichgidaaGreatDoor
theorem near_closed : joinedFacts Tryz.pinned.checked.prog 6 Tryz.f6 Rows.segmentNearestSpec Rows.segmentNearestRow = true := by kernel_rfl
end Go.Proofs.YtpenabnichgidaaGreatDoor
