/- SegmentGrid: the row's closed facts. -/
import Derived.Test.YtpenabnichgidaaGreatDoorCards
import Derived.Stop.Joined
import Derived.KernelRfl
namespace Go.Proofs.YtpenabnichgidaaGreatDoor
theorem grid_closed : joinedFacts Tryz.pinned.checked.prog 5 Tryz.f5 Rows.segmentGridSpec Rows.segmentGridRow = true := by kernel_rfl
end Go.Proofs.YtpenabnichgidaaGreatDoor
