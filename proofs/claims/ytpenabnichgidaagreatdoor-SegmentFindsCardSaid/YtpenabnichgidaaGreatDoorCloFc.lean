/- SegmentFinds: the row's closed facts, a part. -/
import Derived.Test.YtpenabnichgidaaGreatDoorCards
import Derived.Stop.Joined
import Derived.KernelRfl
namespace Go.Proofs.YtpenabnichgidaaGreatDoor
theorem finds_k1 : (Rows.segmentFindsRow.wf (OpenSpec.ofChange Rows.segmentFindsSpec)) = true := by kernel_rfl
theorem finds_k2 : (laidOutB Tryz.pinned.checked.prog) = true := by kernel_rfl
theorem finds_k3 : (mapsRowed Tryz.pinned.checked.prog) = true := by kernel_rfl
theorem finds_k4 : (Tryz.f7.params.all (Tryz.pinned.checked.prog.readableRec ·)) = true := by kernel_rfl
theorem finds_k5 : (namedTie Tryz.pinned.checked.prog Rows.segmentFindsRow.named Rows.segmentFindsSpec.vars) = true := by kernel_rfl
theorem finds_k6 : ((Rows.segmentFindsRow.stops == [])) = true := by kernel_rfl
theorem finds_k7 : ((Tryz.pinned.checked.prog.stops == [])) = true := by kernel_rfl
theorem finds_k8 : ((Rows.segmentFindsRow.knobs == [])) = true := by kernel_rfl
theorem finds_k9 : ((Tryz.pinned.checked.prog.stopKnobs == [])) = true := by kernel_rfl
theorem finds_k14 : ((Rows.segmentFindsRow.maps == (Tryz.f7.params.toList ++ Rows.segmentFindsSpec.plain.varTypes Tryz.pinned.checked.prog).any (Tryz.pinned.checked.prog.mapsRec ·))) = true := by kernel_rfl
theorem finds_k15 : ((Rows.segmentFindsRow.ifaces == (Tryz.f7.params.toList ++ Rows.segmentFindsSpec.plain.varTypes Tryz.pinned.checked.prog).any (Tryz.pinned.checked.prog.ifacesRec ·))) = true := by kernel_rfl
theorem finds_k16 : ((Rows.segmentFindsRow.mapsOut == Tryz.pinned.checked.prog.mapsAmong Tryz.f7.resultTypes.toList)) = true := by kernel_rfl
theorem finds_k17 : ((Rows.segmentFindsRow.loops == (Tryz.f7.params.toList ++ Rows.segmentFindsSpec.plain.varTypes Tryz.pinned.checked.prog).any (Tryz.pinned.checked.prog.loopsFrom ·))) = true := by kernel_rfl
theorem finds_k17b : ((Rows.segmentFindsRow.wideKeys == (Tryz.f7.params.toList ++ Rows.segmentFindsSpec.plain.varTypes Tryz.pinned.checked.prog ++ Tryz.f7.resultTypes.toList).any (Tryz.pinned.checked.prog.wideKeysFrom ·))) = true := by kernel_rfl
theorem finds_k18 : (Rows.segmentFindsSpec.vars.all (Tryz.pinned.checked.prog.varReadable ·)) = true := by kernel_rfl
theorem finds_k19 : (Tryz.f7.resultTypes.all (fun t => Tryz.pinned.checked.prog.readableRec t && decide (t < Tryz.pinned.checked.prog.types.size))) = true := by kernel_rfl
theorem finds_k20 : ((Rows.segmentFindsRow.ifacesOut == Tryz.f7.resultTypes.toList.any (Tryz.pinned.checked.prog.ifacesRec ·))) = true := by kernel_rfl
theorem finds_k21 : ((Rows.segmentFindsRow.loopsOut == Tryz.f7.resultTypes.toList.any (Tryz.pinned.checked.prog.loopsFrom ·))) = true := by kernel_rfl
theorem finds_k22 : ((Rows.segmentFindsRow.plainKeys == Tryz.pinned.checked.prog.plainKeys)) = true := by kernel_rfl
theorem finds_k23 : (Rows.segmentFindsRow.shortTexts.isNone) = true := by kernel_rfl
theorem finds_k23b : (Tryz.pinned.checked.prog.stopsHeard) = true := by kernel_rfl
theorem finds_k24 : (Tryz.pinned.checked.prog.mayEnter) = true := by kernel_rfl
theorem finds_k24b : ((Rows.segmentFindsRow.lifted == Tryz.pinned.checked.prog.liftsFinal)) = true := by kernel_rfl
theorem finds_k24c : ((Tryz.pinned.checked.prog.make == some Rows.segmentFindsRow.make)) = true := by kernel_rfl
theorem finds_k26 : ((Rows.segmentFindsRow.pinned == Rows.segmentFindsRow.pinnedBy)) = true := by kernel_rfl
theorem finds_k27 : ((Rows.segmentFindsRow.veiled == (Tryz.f7.params.toList ++ Rows.segmentFindsSpec.plain.varTypes Tryz.pinned.checked.prog ++ Tryz.f7.resultTypes.toList).any (Tryz.pinned.checked.prog.veiledRec ·))) = true := by kernel_rfl
theorem finds_k28 : (Rows.segmentFindsRow.veiledFits Tryz.pinned.checked.prog Tryz.f7.params.toList (Tryz.f7.params.toList ++ Rows.segmentFindsSpec.plain.varTypes Tryz.pinned.checked.prog ++ Tryz.f7.resultTypes.toList)) = true := by kernel_rfl
end Go.Proofs.YtpenabnichgidaaGreatDoor
