/- CatalogClosest: what the row asks of the call. -/
import Derived.Test.YtojhechepdlnhaaGreatDoorCu
import Derived.Test.YtojhechepdlnhaaGreatDoorTx
import Derived.Test.YtojhechepdlnhaaGreatDoorOp
import Derived.Test.YtojhechepdlnhaaGreatDoorCards
import Derived.Test.YtojhechepdlnhaaGreatDoorTie
import Derived.ProofKit
import Derived.LaidMore
import Derived.OpenShut
import Derived.OpenVars
import Derived.Carry
import Derived.Stop.Joined
import Derived.SevenTiedAt
import Derived.Deep.Fields
import Derived.Lib.SmallJoins
import Derived.DataShut
namespace Go.Proofs.YtojhechepdlnhaaGreatDoor
open Go.ChangeShapes Go.WideShapes Go.ChangeAt Go.WideMaps Go.WideElems Go.RowKit Go.Rf
set_option linter.unusedVariables false

def ts27 : List TypeId := [2, 3, 9, 22, 23, 24, 25]
theorem okT27 : okT Tryz.prog ts27 = true := by kernel_rfl
theorem atoms27 : atoms Tryz.prog 8 27 = some [22, 23, 24, 25] := by kernel_rfl
theorem atoms65 : atoms Tryz.prog 8 65 = some [9, 3, 2] := by kernel_rfl
theorem atoms9 : atoms Tryz.prog 8 9 = some [9] := by kernel_rfl
theorem atoms47 : atoms Tryz.prog 8 47 = some [9, 9, 2, 9, 9] := by kernel_rfl
theorem atoms73 : atoms Tryz.prog 8 73 = some [9, 9, 2] := by kernel_rfl
theorem sh9 {d : D} (h : Sh Tryz.prog 9 d) : ∃ s : List UInt8, d = .str (s.map UInt8.toNat) := by
  cases h with
  | int hu _ => rw [Tryz.underlying9] at hu; cases hu
  | bool hu => rw [Tryz.underlying9] at hu; cases hu
  | sl hu => rw [Tryz.underlying9] at hu; cases hu
  | str _ _ => exact ⟨_, rfl⟩
theorem sh_i64 {t : TypeId} (ht : Tryz.prog.underlying t = some (.int .i64)) {d : D} (h : Sh Tryz.prog t d) : ∃ n : Int, d = .int .i64 n := by
  cases h with
  | int hu _ =>
    rw [ht] at hu
    injection hu with hu
    injection hu with hu
    subst hu
    exact ⟨_, rfl⟩
  | bool hu => rw [ht] at hu; cases hu
  | sl hu => rw [ht] at hu; cases hu
  | str hu _ => rw [ht] at hu; cases hu
theorem sh_sl {t e : TypeId} {ats : List TypeId} (ht : Tryz.prog.underlying t = some (.slice e)) (ha : atoms Tryz.prog 8 e = some ats) {d : D} (h : Sh Tryz.prog t d) :
    ∃ rows, d = .sl rows ∧ rows.length < 9223372036854775808 ∧ (∀ r, r ∈ rows → r.length = ats.length) ∧ ∀ r, r ∈ rows → ∀ (i : Nat) (a : TypeId) (c : D), ats[i]? = some a → r[i]? = some c → Sh Tryz.prog a c := by
  cases h with
  | int hu _ => rw [ht] at hu; cases hu
  | bool hu => rw [ht] at hu; cases hu
  | str hu _ => rw [ht] at hu; cases hu
  | sl hu hat hl h1 h2 =>
    rw [ht] at hu
    injection hu with hu
    injection hu with hu
    subst hu
    rw [ha] at hat
    injection hat with hat
    subst hat
    exact ⟨_, rfl, by have : maxLen = 9223372036854775807 := rfl; omega, h1, h2⟩
theorem len3 {α : Type} {r : List α} (h : r.length = 3) : ∃ a b c, r = [a, b, c] := by
  match r, h with
  | [a, b, c], _ => exact ⟨a, b, c, rfl⟩
theorem len5 {α : Type} {r : List α} (h : r.length = 5) : ∃ a b c d e, r = [a, b, c, d, e] := by
  match r, h with
  | [a, b, c, d, e], _ => exact ⟨a, b, c, d, e, rfl⟩
theorem len1 {α : Type} {r : List α} (h : r.length = 1) : ∃ a, r = [a] := by
  match r, h with
  | [a], _ => exact ⟨a, rfl⟩
theorem array4 {α : Type} {cs : Array α} (h : cs.size = 4) : ∃ c0 c1 c2 c3, cs = #[c0, c1, c2, c3] := by
  obtain ⟨l⟩ := cs
  match l, h with
  | [c0, c1, c2, c3], _ => exact ⟨c0, c1, c2, c3, rfl⟩
theorem cells27 : Tryz.prog.cellsOf 27 = 4 := by kernel_rfl
theorem map_of {α : Type} {f : α → List D} : ∀ {rows : List (List D)}, (∀ r, r ∈ rows → ∃ x, r = f x) → ∃ xs : List α, rows = xs.map f
  | [], _ => ⟨[], rfl⟩
  | r :: rows, h => by
    obtain ⟨x, rfl⟩ := h r (by simp)
    obtain ⟨xs, rfl⟩ := map_of (f := f) (rows := rows) (fun r hr => h r (List.mem_cons_of_mem _ hr))
    exact ⟨x :: xs, rfl⟩
theorem grp_of {r : List D} (hl : r.length = 3) (h : ∀ (i : Nat) (a : TypeId) (c : D), ([9, 3, 2] : List TypeId)[i]? = some a → r[i]? = some c → Sh Tryz.prog a c) : ∃ g : Gp, r = g.row := by
  obtain ⟨c0, c1, c2, rfl⟩ := len3 hl
  obtain ⟨s, rfl⟩ := sh9 (h 0 _ _ rfl rfl)
  obtain ⟨k1, rfl⟩ := sh_i64 Tryz.underlying3 (h 1 _ _ rfl rfl)
  obtain ⟨k2, rfl⟩ := sh_i64 Tryz.underlying2 (h 2 _ _ rfl rfl)
  exact ⟨⟨_, _, _⟩, rfl⟩
theorem cls_of {r : List D} (hl : r.length = 1) (h : ∀ (i : Nat) (a : TypeId) (c : D), ([9] : List TypeId)[i]? = some a → r[i]? = some c → Sh Tryz.prog a c) : ∃ s : List Nat, r = strRow s := by
  obtain ⟨c0, rfl⟩ := len1 hl
  obtain ⟨s, rfl⟩ := sh9 (h 0 _ _ rfl rfl)
  exact ⟨_, rfl⟩
theorem elm_of {r : List D} (hl : r.length = 5) (h : ∀ (i : Nat) (a : TypeId) (c : D), ([9, 9, 2, 9, 9] : List TypeId)[i]? = some a → r[i]? = some c → Sh Tryz.prog a c) : ∃ g : Elm, r = g.row := by
  obtain ⟨c0, c1, c2, c3, c4, rfl⟩ := len5 hl
  obtain ⟨s0, rfl⟩ := sh9 (h 0 _ _ rfl rfl)
  obtain ⟨s1, rfl⟩ := sh9 (h 1 _ _ rfl rfl)
  obtain ⟨k2, rfl⟩ := sh_i64 Tryz.underlying2 (h 2 _ _ rfl rfl)
  obtain ⟨s3, rfl⟩ := sh9 (h 3 _ _ rfl rfl)
  obtain ⟨s4, rfl⟩ := sh9 (h 4 _ _ rfl rfl)
  exact ⟨⟨_, _, _, _, _⟩, rfl⟩
theorem cnn_of {r : List D} (hl : r.length = 3) (h : ∀ (i : Nat) (a : TypeId) (c : D), ([9, 9, 2] : List TypeId)[i]? = some a → r[i]? = some c → Sh Tryz.prog a c) : ∃ g : Cnn, r = g.row := by
  obtain ⟨c0, c1, c2, rfl⟩ := len3 hl
  obtain ⟨s0, rfl⟩ := sh9 (h 0 _ _ rfl rfl)
  obtain ⟨s1, rfl⟩ := sh9 (h 1 _ _ rfl rfl)
  obtain ⟨k2, rfl⟩ := sh_i64 Tryz.underlying2 (h 2 _ _ rfl rfl)
  exact ⟨⟨_, _, _⟩, rfl⟩
set_option maxHeartbeats 2000000 in
set_option maxRecDepth 100000 in
/-- A catalog handed in, as data. -/
theorem cat_arg {H : Type} {enc : TypeId × Value → H} {w : World} {base : Nat} {sp : Nat → Bool} {held : Bool} {r : Reach} {b0 : Nat} {v : Value} {d : DataW H} {p : List MemPlace}
    (hv : Value.okWide Tryz.prog w r b0 27 v) (h : DataW.Trod enc Tryz.prog w base sp held 27 v d p) : ∃ c : Cat, VR ghostF (Go.Rf.Safe ghostF st0 w) w (.agg c.cells) v := by
  obtain ⟨cs, rfl, hsz⟩ := okWide_struct Tryz.underlying27 hv
  obtain ⟨c0, c1, c2, c3, rfl⟩ := array4 (hsz.trans cells27)
  obtain ⟨fuel, hf⟩ := h
  obtain ⟨_, g⟩ := atoms_trod 8 27 _ atoms27 _ _ _ hf
  have cell : ∀ (i : Nat) (a : TypeId) (c : Value), ([22, 23, 24, 25] : List TypeId)[i]? = some a → a ∈ ts27 → [c0, c1, c2, c3][i]? = some c →
      ∃ d, Sh Tryz.prog a d ∧ DR (Go.Rf.Safe ghostF st0 w) w d c ∧ d.one = true := by
    intro i a c ha hin hc
    obtain ⟨c', m, y, _, hc', ht⟩ := g i a ha
    have he : c' = c := by
      have h2 : [c0, c1, c2, c3][i]? = some c' := hc'
      rw [hc] at h2
      exact (Option.some.inj h2).symm
    subst he
    exact sh_of_trod okT27 (fun b off hb => ghostF_safe hb) m a c' y hin ht
  obtain ⟨d0, q0, e0, o0⟩ := cell 0 _ _ rfl (by decide) rfl
  obtain ⟨d1, q1, e1, o1⟩ := cell 1 _ _ rfl (by decide) rfl
  obtain ⟨d2, q2, e2, o2⟩ := cell 2 _ _ rfl (by decide) rfl
  obtain ⟨d3, q3, e3, o3⟩ := cell 3 _ _ rfl (by decide) rfl
  obtain ⟨g0, rfl, l0, m0, n0⟩ := sh_sl Tryz.underlying22 atoms65 q0
  obtain ⟨g1, rfl, l1, m1, n1⟩ := sh_sl Tryz.underlying23 atoms9 q1
  obtain ⟨g2, rfl, l2, m2, n2⟩ := sh_sl Tryz.underlying24 atoms47 q2
  obtain ⟨g3, rfl, l3, m3, n3⟩ := sh_sl Tryz.underlying25 atoms73 q3
  obtain ⟨x0, rfl⟩ := map_of (f := Gp.row) (fun r hr => grp_of (m0 r hr) (n0 r hr))
  obtain ⟨x1, rfl⟩ := map_of (f := strRow) (fun r hr => cls_of (m1 r hr) (n1 r hr))
  obtain ⟨x2, rfl⟩ := map_of (f := Elm.row) (fun r hr => elm_of (m2 r hr) (n2 r hr))
  obtain ⟨x3, rfl⟩ := map_of (f := Cnn.row) (fun r hr => cnn_of (m3 r hr) (n3 r hr))
  exact ⟨⟨x0, x1, x2, x3⟩, VRs.agg (.cons (.d _ _ e0) (.cons (.d _ _ e1) (.cons (.d _ _ e2) (.cons (.d _ _ e3) .nil)))) rfl⟩
set_option maxRecDepth 100000 in
theorem clos_calls {H : Type} {enc : TypeId × Value → H} {w : World} {base : Nat} {sp : Nat → Bool} {held : Bool} {r : Reach} {b0 : Nat} {v : Value} {d : DataW H} {p : List MemPlace} (s : ByteArray)
    (hv : Value.okWide Tryz.prog w r b0 27 v) (h : DataW.Trod enc Tryz.prog w base sp held 27 v d p) :
    Calls Tryz.prog 8 #[v, .string s] w fun e w' => e = .returned (.bool true) ∧ Below w.heap.size w w' := by
  obtain ⟨c, hc⟩ := cat_arg hv h
  exact law_calls (run_ok mixedP giv5_ok ckTbl3 102).1 (closest_run c (s.data.toList.map UInt8.toNat)) (VRs.args (.cons hc (.cons (vr_of_str s) .nil)))

theorem own : ownKnob Tryz.prog.godebug = none := by kernel_rfl
theorem door_met (os : Os) (args : Array Value) : laidMetH Tryz.prog Rows.catalogClosestRow.laid ((World.doorLaid Tryz.prog 62 os).forCall (fun _ _ => 0) ⟨#[], args, []⟩).memory :=
  laidMetH_of_parts3 (fuel := 8) (laidMet_of_run' 8 (by kernel_rfl) (by kernel_rfl)) (by kernel_rfl) (by kernel_rfl)
theorem laid_out : laidOutB Tryz.prog = true := by kernel_rfl
theorem read27 : Tryz.prog.readableRec 27 = true := by kernel_rfl
theorem read9 : Tryz.prog.readableRec 9 = true := by kernel_rfl
theorem row27 : 27 < Tryz.prog.types.size := of_decide_eq_true (by kernel_rfl)
theorem row9 : 9 < Tryz.prog.types.size := of_decide_eq_true (by kernel_rfl)

set_option maxRecDepth 100000 in
theorem clos_lifted (os : Os) (started : os.Started) (H : Type) (enc : TypeId × Value → H) :
    ReturnsInHanded {} Tryz.checked os 8 .any (fun w args => (Rows.catalogClosestSpec.pre enc Tryz.prog Tryz.f8 [] false w args ∧ laidMetH Tryz.prog Rows.catalogClosestRow.laid w) ∧ sizedMet enc Tryz.prog Tryz.f8 (OpenSpec.ofChange Rows.catalogClosestSpec) false w args)
      (Rows.catalogClosestSpec.post enc Tryz.prog Tryz.f8 false true false false) := by
  refine returnsInHanded_of_change_and (C := Tryz.checked) (X := fun w _ => laidMetH Tryz.prog Rows.catalogClosestRow.laid w) (fun _ _ _ hh h => h.of_heap hh) own started (by kernel_rfl) Tryz.func8
    (ChangeSpec.witness_shaped (enc := enc) (C := Tryz.checked) (os := os) (X := fun w _ => laidMetH Tryz.prog Rows.catalogClosestRow.laid w) false (World.doorLaid Tryz.prog 62 os) #[.agg #[.slice none 0 0, .slice none 0 0, .slice none 0 0, .slice none 0 0], .string ⟨#[]⟩] 8 rfl (World.shaped_of_RefB (by kernel_rfl) (by kernel_rfl)) (by kernel_rfl) (by kernel_rfl) (by kernel_rfl) (door_met os _)) ?_
  intro W base args ds gs before hval0 hW _ _ hL _
  have hval : ∀ (j : Nat) t v, Tryz.f8.params[j]? = some t → args[j]? = some v → Value.okWide Tryz.prog W .any base t v := hval0
  have hW' := hW
  have hlt := hW.lt
  obtain ⟨p, q, hA0, hV, rfl, hfz, hnd⟩ := hW
  have hA : DataW.TrodAll enc Tryz.prog W 0 (fun _ => true) true Tryz.f8.params.toList args.toList ds p := hA0
  rw [Tryz.params8] at hA hval
  obtain ⟨v0, v1, d0, d1, p0, p1, rfl, rfl, rfl, h0, h1⟩ := trodAll_two hA
  obtain ⟨rfl, rfl⟩ := trodVars_none hV
  simp only [List.append_nil] at hW' hlt
  obtain ⟨s, rfl, rfl, rfl, hs⟩ := Go.ChangeMaps.open_string Tryz.underlying9 (hval 1 9 v1 rfl rfl) h1
  have hok := hval 0 27 v0 rfl rfl
  clear hA0 hval0
  refine (clos_calls s hok h0).mono fun e W' ⟨he, hb⟩ => ?_
  subst he
  have hl0 : ∀ x ∈ p0, x.block < W.heap.size := fun x hx => hlt x (by simp [hx])
  refine ⟨_, rfl, _, _, _, [], p0 ++ [], [], hW', ?_, ?_, ?_, hb.frame _, fun h => by cases h⟩
  · exact trodAll_mk1 (shut_bool Tryz.underlying4 true)
  · exact trodAll_mk2 (Below.trod laid_out read27 row27 h0 hb hl0) (Below.trod laid_out read9 row9 h1 hb (fun x hx => by cases hx))
  · rfl
end Go.Proofs.YtojhechepdlnhaaGreatDoor
