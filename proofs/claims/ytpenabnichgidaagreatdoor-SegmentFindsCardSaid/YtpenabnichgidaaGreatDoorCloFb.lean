/- SegmentFinds: the row's closed facts, a part. -/
import Derived.Test.YtpenabnichgidaaGreatDoorCards
import Derived.Stop.Joined
import Derived.KernelRfl
namespace Go.Proofs.YtpenabnichgidaaGreatDoor
theorem finds_k12 : ((Rows.segmentFindsRow.recurses == Tryz.pinned.checked.prog.recurses 7)) = true := by kernel_rfl
theorem finds_k13 : ((Rows.segmentFindsRow.named == Tryz.pinned.checked.prog.varsNamed 7)) = true := by kernel_rfl
end Go.Proofs.YtpenabnichgidaaGreatDoor
