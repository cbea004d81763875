/- CatalogDistance: what the row asks of the call. -/
import Derived.Test.YtojhechepdlnhaaGreatDoorDb
import Derived.Test.YtojhechepdlnhaaGreatDoorMc
import Derived.Test.YtojhechepdlnhaaGreatDoorCards
import Derived.Test.YtojhechepdlnhaaGreatDoorTie
import Derived.ProofKit
import Derived.LaidMore
import Derived.OpenShut
import Derived.OpenVars
import Derived.Carry
import Derived.Stop.Joined
import Derived.SevenTiedAt
import Derived.Deep.Fields
import Derived.Lib.SmallJoins
namespace Go.Proofs.YtojhechepdlnhaaGreatDoor
open Go.ChangeShapes Go.WideShapes Go.ChangeAt Go.WideMaps Go.WideElems Go.RowKit Go.Rf
set_option linter.unusedVariables false

theorem dist_calls (a b c : ByteArray) (w : World) : Calls Tryz.prog 7 #[.string a, .string b, .string c] w fun e w' => e = .returned (.bool true) ∧ Below w.heap.size w w' :=
  law_calls (run_ok mixedP giv4_ok ckTbl2 102).1 (dist_run (a.data.toList.map UInt8.toNat) (b.data.toList.map UInt8.toNat) (c.data.toList.map UInt8.toNat))
    (VRs.args (.cons (vr_of_str a) (.cons (vr_of_str b) (.cons (vr_of_str c) .nil))))
theorem own : ownKnob Tryz.prog.godebug = none := by kernel_rfl
theorem door_met (os : Os) (args : Array Value) : laidMetH Tryz.prog Rows.catalogDistanceRow.laid ((World.doorLaid Tryz.prog 62 os).forCall (fun _ _ => 0) ⟨#[], args, []⟩).memory :=
  laidMetH_of_parts3 (fuel := 8) (laidMet_of_run' 8 (by kernel_rfl) (by kernel_rfl)) (by kernel_rfl) (by kernel_rfl)
theorem laid_out : laidOutB Tryz.prog = true := by kernel_rfl
theorem read9 : Tryz.prog.readableRec 9 = true := by kernel_rfl
theorem row9 : 9 < Tryz.prog.types.size := of_decide_eq_true (by kernel_rfl)

set_option maxRecDepth 100000 in
theorem dist_lifted (os : Os) (started : os.Started) (H : Type) (enc : TypeId × Value → H) :
    ReturnsInHanded {} Tryz.checked os 7 .any (fun w args => (Rows.catalogDistanceSpec.pre enc Tryz.prog Tryz.f7 [] false w args ∧ laidMetH Tryz.prog Rows.catalogDistanceRow.laid w) ∧ sizedMet enc Tryz.prog Tryz.f7 (OpenSpec.ofChange Rows.catalogDistanceSpec) false w args)
      (Rows.catalogDistanceSpec.post enc Tryz.prog Tryz.f7 false true false false) := by
  refine returnsInHanded_of_change_and (C := Tryz.checked) (X := fun w _ => laidMetH Tryz.prog Rows.catalogDistanceRow.laid w) (fun _ _ _ hh h => h.of_heap hh) own started (by kernel_rfl) Tryz.func7
    (ChangeSpec.witness_shaped (enc := enc) (C := Tryz.checked) (os := os) (X := fun w _ => laidMetH Tryz.prog Rows.catalogDistanceRow.laid w) false (World.doorLaid Tryz.prog 62 os) #[.string ⟨#[]⟩, .string ⟨#[]⟩, .string ⟨#[]⟩] 8 rfl (World.shaped_of_RefB (by kernel_rfl) (by kernel_rfl)) (by kernel_rfl) (by kernel_rfl) (by kernel_rfl) (door_met os _)) ?_
  intro W base args ds gs before hval0 hW _ _ hL _
  have hval : ∀ (j : Nat) t v, Tryz.f7.params[j]? = some t → args[j]? = some v → Value.okWide Tryz.prog W .any base t v := hval0
  have hW' := hW
  obtain ⟨p, q, hA0, hV, rfl, hfz, hnd⟩ := hW
  have hA : DataW.TrodAll enc Tryz.prog W 0 (fun _ => true) true Tryz.f7.params.toList args.toList ds p := hA0
  rw [Tryz.params7] at hA hval
  obtain ⟨v0, v1, v2, d0, d1, d2, p0, p1, p2, rfl, rfl, rfl, h0, h1, h2⟩ := trodAll_three hA
  obtain ⟨rfl, rfl⟩ := trodVars_none hV
  simp only [List.append_nil] at hW'
  obtain ⟨a, rfl, rfl, rfl, ha⟩ := Go.ChangeMaps.open_string Tryz.underlying9 (hval 0 9 v0 rfl rfl) h0
  obtain ⟨b, rfl, rfl, rfl, hb⟩ := Go.ChangeMaps.open_string Tryz.underlying9 (hval 1 9 v1 rfl rfl) h1
  obtain ⟨c, rfl, rfl, rfl, hc⟩ := Go.ChangeMaps.open_string Tryz.underlying9 (hval 2 9 v2 rfl rfl) h2
  clear hA0 hval0
  refine (dist_calls a b c W).mono fun e W' ⟨he, hb⟩ => ?_
  subst he
  refine ⟨_, rfl, _, _, _, [], [] ++ ([] ++ []), [], hW', ?_, ?_, ?_, hb.frame _, fun h => by cases h⟩
  · exact trodAll_mk1 (shut_bool Tryz.underlying4 true)
  · exact trodAll_mk3 (Below.trod laid_out read9 row9 h0 hb (fun x hx => by cases hx)) (Below.trod laid_out read9 row9 h1 hb (fun x hx => by cases hx)) (Below.trod laid_out read9 row9 h2 hb (fun x hx => by cases hx))
  · rfl
end Go.Proofs.YtojhechepdlnhaaGreatDoor
