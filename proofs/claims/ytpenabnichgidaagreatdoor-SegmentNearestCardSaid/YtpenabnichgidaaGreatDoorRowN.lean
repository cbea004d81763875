/- SegmentNearest: what the row asks of the call. -/
import Derived.Test.YtpenabnichgidaaGreatDoorNear
import Derived.Test.YtpenabnichgidaaGreatDoorMc
import Derived.Test.YtpenabnichgidaaGreatDoorCards
import Derived.Test.YtpenabnichgidaaGreatDoorTie
import Derived.ProofKit
import Derived.LaidMore
import Derived.OpenShut
import Derived.OpenVars
import Derived.Carry
import Derived.Stop.Joined
import Derived.SevenTiedAt
import Derived.Deep.Fields
import Derived.Lib.SmallJoins
import Derived.DataShut
namespace Go.Proofs.YtpenabnichgidaaGreatDoor
open Go.ChangeShapes Go.WideShapes Go.ChangeAt Go.WideMaps Go.WideElems Go.RowKit Go.Rf
set_option linter.unusedVariables false

theorem near_calls (s : ByteArray) (kd lo hi sp ju le dr tl sc n : Int) (hsp : sp ≤ 9223372036854775807) (w : World) :
    Calls Tryz.prog 6 #[.agg #[.string s, .int .i64 kd, .int .i64 lo, .int .i64 hi, .int .i64 sp, .int .i64 ju, .int .i64 le, .int .i64 dr, .int .i64 tl, .int .i64 sc], .int .i64 n] w fun e w' => e = .returned (.bool true) ∧ Below w.heap.size w w' :=
  law_calls (run_ok mixedT giv7_ok ckTbl 3).1 (near_run (s.data.toList.map UInt8.toNat) kd lo hi sp ju le dr tl sc n hsp)
    (VRs.args (.cons (VRs.agg (.cons (vr_of_str s) (.cons (vr_of_int _ _) (.cons (vr_of_int _ _) (.cons (vr_of_int _ _) (.cons (vr_of_int _ _) (.cons (vr_of_int _ _) (.cons (vr_of_int _ _) (.cons (vr_of_int _ _) (.cons (vr_of_int _ _) (.cons (vr_of_int _ _) .nil)))))))))) rfl) (.cons (vr_of_int _ _) .nil)))

theorem array10 {α : Type} {cs : Array α} (h : cs.size = 10) : ∃ c0 c1 c2 c3 c4 c5 c6 c7 c8 c9, cs = #[c0, c1, c2, c3, c4, c5, c6, c7, c8, c9] := by
  obtain ⟨l⟩ := cs
  match l, h with
  | [c0, c1, c2, c3, c4, c5, c6, c7, c8, c9], _ => exact ⟨c0, c1, c2, c3, c4, c5, c6, c7, c8, c9, rfl⟩
theorem cells54 : Tryz.prog.cellsOf 54 = 10 := by kernel_rfl
theorem cells9 : Tryz.prog.cellsOf 9 = 1 := by kernel_rfl
theorem cells3 : Tryz.prog.cellsOf 3 = 1 := by kernel_rfl
theorem cells2 : Tryz.prog.cellsOf 2 = 1 := by kernel_rfl
theorem field_cell {H : Type} {enc : TypeId × Value → H} {P : Program} {w : World} {base : Nat} {sp : Nat → Bool} {held : Bool} {t : TypeId} {fs : Array Field} {fuel : Nat} {cs : List Value} {x : DataW H × List MemPlace} (ht : P.underlying t = some (.struct fs)) (h : DataW.trod enc P w base sp held fuel t cs = some x) :
    ∃ n, ∀ (i : Nat) (f : Field) (c : Value), fs[i]? = some f → cs[f.offset]? = some c → P.cellsOf f.type = 1 → ∃ y, DataW.trod enc P w base sp held n f.type [c] = some y := by
  obtain ⟨xs, n, _, _, _, hlen, hfl⟩ := DataW.trod_struct ht h
  refine ⟨n, fun i f c hi hc h1 => ?_⟩
  have := hfl i f hi
  rw [h1] at this
  have hx : i < xs.length := by rw [hlen]; exact (Array.getElem?_eq_some_iff.1 hi).1
  rw [List.getElem?_eq_getElem hx] at this
  refine ⟨xs[i], ?_⟩
  rw [← this]
  congr 1
  have hlt := (List.getElem?_eq_some_iff.1 hc).1
  rw [List.drop_eq_getElem_cons hlt, (List.getElem?_eq_some_iff.1 hc).2]
  rfl
set_option maxHeartbeats 2000000 in
set_option maxRecDepth 100000 in
theorem open_panel {H : Type} {enc : TypeId × Value → H} {w : World} {base : Nat} {sp : Nat → Bool} {held : Bool} {r : Reach} {b0 : Nat} {v : Value} {d : DataW H} {p : List MemPlace}
    (hv : Value.okWide Tryz.prog w r b0 54 v) (h : DataW.Trod enc Tryz.prog w base sp held 54 v d p) :
    ∃ (s : ByteArray) (kd lo hi st ju le dr tl sc : Int), v = .agg #[.string s, .int .i64 kd, .int .i64 lo, .int .i64 hi, .int .i64 st, .int .i64 ju, .int .i64 le, .int .i64 dr, .int .i64 tl, .int .i64 sc] ∧ st ≤ 9223372036854775807 := by
  obtain ⟨cs, rfl, hsz⟩ := okWide_struct Tryz.underlying54 hv
  obtain ⟨c0, c1, c2, c3, c4, c5, c6, c7, c8, c9, rfl⟩ := array10 (hsz.trans cells54)
  obtain ⟨fuel, hf⟩ := h
  obtain ⟨n, g⟩ := field_cell Tryz.underlying54 hf
  have str : ∀ (c : Value), (∃ x, DataW.trod enc Tryz.prog w base sp held n 9 [c] = some x) → ∃ s, c = .string s := fun c ⟨x, hx⟩ => by
    obtain ⟨s, e, _⟩ := DataW.trod_string Tryz.underlying9 hx
    exact ⟨s, by simpa using e⟩
  have int3 : ∀ (c : Value), (∃ x, DataW.trod enc Tryz.prog w base sp held n 3 [c] = some x) → ∃ k, c = .int .i64 k := fun c ⟨x, hx⟩ => by
    obtain ⟨k, e, _⟩ := DataW.trod_int Tryz.underlying3 hx
    exact ⟨k, by simpa using e⟩
  have int2 : ∀ (c : Value), (∃ x, DataW.trod enc Tryz.prog w base sp held n 2 [c] = some x) → ∃ k, c = .int .i64 k ∧ k ≤ 9223372036854775807 := fun c ⟨x, hx⟩ => by
    obtain ⟨k, e, _, hk⟩ := DataW.trod_int Tryz.underlying2 hx
    refine ⟨k, by simpa using e, ?_⟩
    have := (Go.Lit.wf_int_iff .i64 k).1 hk
    have := this.2
    rw [IntKind.max_i64] at this
    omega
  obtain ⟨s, rfl⟩ := str c0 (g 0 _ _ rfl rfl cells9)
  obtain ⟨k1, rfl⟩ := int3 c1 (g 1 _ _ rfl rfl cells3)
  obtain ⟨k2, rfl, b2⟩ := int2 c2 (g 2 _ _ rfl rfl cells2)
  obtain ⟨k3, rfl, b3⟩ := int2 c3 (g 3 _ _ rfl rfl cells2)
  obtain ⟨k4, rfl, b4⟩ := int2 c4 (g 4 _ _ rfl rfl cells2)
  obtain ⟨k5, rfl⟩ := int3 c5 (g 5 _ _ rfl rfl cells3)
  obtain ⟨k6, rfl⟩ := int3 c6 (g 6 _ _ rfl rfl cells3)
  obtain ⟨k7, rfl⟩ := int3 c7 (g 7 _ _ rfl rfl cells3)
  obtain ⟨k8, rfl, b8⟩ := int2 c8 (g 8 _ _ rfl rfl cells2)
  obtain ⟨k9, rfl, b9⟩ := int2 c9 (g 9 _ _ rfl rfl cells2)
  exact ⟨s, k1, k2, k3, k4, k5, k6, k7, k8, k9, rfl, b4⟩

theorem own : ownKnob Tryz.prog.godebug = none := by kernel_rfl
theorem door_met (os : Os) (args : Array Value) : laidMetH Tryz.prog Rows.segmentNearestRow.laid ((World.doorLaid Tryz.prog 72 os).forCall (fun _ _ => 0) ⟨#[], args, []⟩).memory :=
  laidMetH_of_parts3 (fuel := 8) (laidMet_of_run' 8 (by kernel_rfl) (by kernel_rfl)) (by kernel_rfl) (by kernel_rfl)
theorem laid_out : laidOutB Tryz.prog = true := by kernel_rfl
theorem read54 : Tryz.prog.readableRec 54 = true := by kernel_rfl
theorem read3 : Tryz.prog.readableRec 3 = true := by kernel_rfl
theorem read2 : Tryz.prog.readableRec 2 = true := by kernel_rfl
theorem row54 : 54 < Tryz.prog.types.size := of_decide_eq_true (by kernel_rfl)
theorem row3 : 3 < Tryz.prog.types.size := of_decide_eq_true (by kernel_rfl)
theorem row2 : 2 < Tryz.prog.types.size := of_decide_eq_true (by kernel_rfl)

set_option maxRecDepth 100000 in
theorem near_lifted (os : Os) (started : os.Started) (H : Type) (enc : TypeId × Value → H) :
    ReturnsInHanded {} Tryz.checked os 6 .any (fun w args => (Rows.segmentNearestSpec.pre enc Tryz.prog Tryz.f6 [] false w args ∧ laidMetH Tryz.prog Rows.segmentNearestRow.laid w) ∧ sizedMet enc Tryz.prog Tryz.f6 (OpenSpec.ofChange Rows.segmentNearestSpec) false w args)
      (Rows.segmentNearestSpec.post enc Tryz.prog Tryz.f6 false true false false) := by
  refine returnsInHanded_of_change_and (C := Tryz.checked) (X := fun w _ => laidMetH Tryz.prog Rows.segmentNearestRow.laid w) (fun _ _ _ hh h => h.of_heap hh) own started (by kernel_rfl) Tryz.func6
    (ChangeSpec.witness_shaped (enc := enc) (C := Tryz.checked) (os := os) (X := fun w _ => laidMetH Tryz.prog Rows.segmentNearestRow.laid w) false (World.doorLaid Tryz.prog 72 os) #[.agg #[.string ⟨#[]⟩, .int .i64 0, .int .i64 0, .int .i64 0, .int .i64 0, .int .i64 0, .int .i64 0, .int .i64 0, .int .i64 0, .int .i64 0], .int .i64 0] 8 rfl (World.shaped_of_RefB (by kernel_rfl) (by kernel_rfl)) (by kernel_rfl) (by kernel_rfl) (by kernel_rfl) (door_met os _)) ?_
  intro W base args ds gs before hval0 hW _ _ hL _
  have hval : ∀ (j : Nat) t v, Tryz.f6.params[j]? = some t → args[j]? = some v → Value.okWide Tryz.prog W .any base t v := hval0
  have hW' := hW
  have hlt := hW.lt
  obtain ⟨p, q, hA0, hV, rfl, hfz, hnd⟩ := hW
  have hA : DataW.TrodAll enc Tryz.prog W 0 (fun _ => true) true Tryz.f6.params.toList args.toList ds p := hA0
  rw [Tryz.params6] at hA hval
  obtain ⟨v0, v1, d0, d1, p0, p1, rfl, rfl, rfl, h0, h1⟩ := trodAll_two hA
  obtain ⟨rfl, rfl⟩ := trodVars_none hV
  simp only [List.append_nil] at hW' hlt
  obtain ⟨s, kd, lo, hi, sp, ju, le, dr, tl, sc, rfl, hsp⟩ := open_panel (hval 0 54 v0 rfl rfl) h0
  obtain ⟨n, rfl, rfl, rfl, hn1⟩ := open_int Tryz.underlying2 (hval 1 2 v1 rfl rfl) h1
  clear hA0 hval0
  refine (near_calls s kd lo hi sp ju le dr tl sc n hsp W).mono fun e W' ⟨he, hb⟩ => ?_
  subst he
  have hl0 : ∀ x ∈ p0, x.block < W.heap.size := fun x hx => hlt x (by simp [hx])
  refine ⟨_, rfl, _, _, _, [], p0 ++ [], [], hW', ?_, ?_, ?_, hb.frame _, fun h => by cases h⟩
  · exact trodAll_mk1 (shut_bool Tryz.underlying4 true)
  · exact trodAll_mk2 (Below.trod laid_out read54 row54 h0 hb hl0) (Below.trod laid_out read2 row2 h1 hb (fun x hx => by cases hx))
  · rfl
end Go.Proofs.YtpenabnichgidaaGreatDoor
