/- CatalogClosest: the row's closed facts, a part. -/
import Derived.Test.YtojhechepdlnhaaGreatDoorCards
import Derived.Stop.Joined
import Derived.KernelRfl
namespace Go.Proofs.YtojhechepdlnhaaGreatDoor
theorem clos_k1 : (Rows.catalogClosestRow.wf (OpenSpec.ofChange Rows.catalogClosestSpec)) = true := by kernel_rfl
theorem clos_k2 : (laidOutB Tryz.pinned.checked.prog) = true := by kernel_rfl
theorem clos_k3 : (mapsRowed Tryz.pinned.checked.prog) = true := by kernel_rfl
theorem clos_k4 : (Tryz.f8.params.all (Tryz.pinned.checked.prog.readableRec ·)) = true := by kernel_rfl
theorem clos_k5 : (namedTie Tryz.pinned.checked.prog Rows.catalogClosestRow.named Rows.catalogClosestSpec.vars) = true := by kernel_rfl
theorem clos_k6 : ((Rows.catalogClosestRow.stops == [])) = true := by kernel_rfl
theorem clos_k7 : ((Tryz.pinned.checked.prog.stops == [])) = true := by kernel_rfl
theorem clos_k8 : ((Rows.catalogClosestRow.knobs == [])) = true := by kernel_rfl
theorem clos_k9 : ((Tryz.pinned.checked.prog.stopKnobs == [])) = true := by kernel_rfl
theorem clos_k14 : ((Rows.catalogClosestRow.maps == (Tryz.f8.params.toList ++ Rows.catalogClosestSpec.plain.varTypes Tryz.pinned.checked.prog).any (Tryz.pinned.checked.prog.mapsRec ·))) = true := by kernel_rfl
theorem clos_k15 : ((Rows.catalogClosestRow.ifaces == (Tryz.f8.params.toList ++ Rows.catalogClosestSpec.plain.varTypes Tryz.pinned.checked.prog).any (Tryz.pinned.checked.prog.ifacesRec ·))) = true := by kernel_rfl
theorem clos_k16 : ((Rows.catalogClosestRow.mapsOut == Tryz.pinned.checked.prog.mapsAmong Tryz.f8.resultTypes.toList)) = true := by kernel_rfl
theorem clos_k17 : ((Rows.catalogClosestRow.loops == (Tryz.f8.params.toList ++ Rows.catalogClosestSpec.plain.varTypes Tryz.pinned.checked.prog).any (Tryz.pinned.checked.prog.loopsFrom ·))) = true := by kernel_rfl
theorem clos_k17b : ((Rows.catalogClosestRow.wideKeys == (Tryz.f8.params.toList ++ Rows.catalogClosestSpec.plain.varTypes Tryz.pinned.checked.prog ++ Tryz.f8.resultTypes.toList).any (Tryz.pinned.checked.prog.wideKeysFrom ·))) = true := by kernel_rfl
theorem clos_k18 : (Rows.catalogClosestSpec.vars.all (Tryz.pinned.checked.prog.varReadable ·)) = true := by kernel_rfl
theorem clos_k19 : (Tryz.f8.resultTypes.all (fun t => Tryz.pinned.checked.prog.readableRec t && decide (t < Tryz.pinned.checked.prog.types.size))) = true := by kernel_rfl
theorem clos_k20 : ((Rows.catalogClosestRow.ifacesOut == Tryz.f8.resultTypes.toList.any (Tryz.pinned.checked.prog.ifacesRec ·))) = true := by kernel_rfl
theorem clos_k21 : ((Rows.catalogClosestRow.loopsOut == Tryz.f8.resultTypes.toList.any (Tryz.pinned.checked.prog.loopsFrom ·))) = true := by kernel_rfl
theorem clos_k22 : ((Rows.catalogClosestRow.plainKeys == Tryz.pinned.checked.prog.plainKeys)) = true := by kernel_rfl
theorem clos_k23 : (Rows.catalogClosestRow.shortTexts.isNone) = true := by kernel_rfl
theorem clos_k23b : (Tryz.pinned.checked.prog.stopsHeard) = true := by kernel_rfl
theorem clos_k24 : (Tryz.pinned.checked.prog.mayEnter) = true := by kernel_rfl
theorem clos_k24b : ((Rows.catalogClosestRow.lifted == Tryz.pinned.checked.prog.liftsFinal)) = true := by kernel_rfl
theorem clos_k24c : ((Tryz.pinned.checked.prog.make == some Rows.catalogClosestRow.make)) = true := by kernel_rfl
theorem clos_k26 : ((Rows.catalogClosestRow.pinned == Rows.catalogClosestRow.pinnedBy)) = true := by kernel_rfl
theorem clos_k27 : ((Rows.catalogClosestRow.veiled == (Tryz.f8.params.toList ++ Rows.catalogClosestSpec.plain.varTypes Tryz.pinned.checked.prog ++ Tryz.f8.resultTypes.toList).any (Tryz.pinned.checked.prog.veiledRec ·))) = true := by kernel_rfl
theorem clos_k28 : (Rows.catalogClosestRow.veiledFits Tryz.pinned.checked.prog Tryz.f8.params.toList (Tryz.f8.params.toList ++ Rows.catalogClosestSpec.plain.varTypes Tryz.pinned.checked.prog ++ Tryz.f8.resultTypes.toList)) = true := by kernel_rfl
end Go.Proofs.YtojhechepdlnhaaGreatDoor
