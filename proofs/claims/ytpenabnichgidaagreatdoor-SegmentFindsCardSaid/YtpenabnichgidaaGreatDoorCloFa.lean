/- SegmentFinds: the row's closed facts, a part. -/
import Derived.Test.YtpenabnichgidaaGreatDoorCards
import Derived.Stop.Joined
import Derived.KernelRfl
namespace Go.Proofs.YtpenabnichgidaaGreatDoor
theorem finds_k10 : ((Rows.segmentFindsRow.inPlace == Tryz.pinned.checked.prog.inPlace 7)) = true := by kernel_rfl
theorem finds_k11 : ((Rows.segmentFindsRow.unfollowed == Tryz.pinned.checked.prog.unfollowed 7)) = true := by kernel_rfl
end Go.Proofs.YtpenabnichgidaaGreatDoor
