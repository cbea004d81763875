/- SegmentFinds: what the row asks of the call. -/
import Derived.Test.YtpenabnichgidaaGreatDoorFd
import Derived.Test.YtpenabnichgidaaGreatDoorOp
import Derived.Test.YtpenabnichgidaaGreatDoorCards
import Derived.Test.YtpenabnichgidaaGreatDoorTie
import Derived.ProofKit
import Derived.LaidMore
import Derived.OpenShut
import Derived.OpenVars
import Derived.Carry
import Derived.Stop.Joined
import Derived.SevenTiedAt
import Derived.Deep.Fields
import Derived.Lib.SmallJoins
import Derived.DataShut
namespace Go.Proofs.YtpenabnichgidaaGreatDoor
open Go.ChangeShapes Go.WideShapes Go.ChangeAt Go.WideMaps Go.WideElems Go.RowKit Go.Rf
set_option linter.unusedVariables false

def ts44 : List TypeId := [2, 3, 9, 37, 38, 39, 40]
theorem okT44 : okT Tryz.prog ts44 = true := by kernel_rfl
theorem atoms44 : atoms Tryz.prog 8 44 = some [9, 3, 3, 2, 37, 38, 39, 3, 9, 2, 40, 3] := by kernel_rfl
theorem atoms42 : atoms Tryz.prog 8 42 = some [3, 9, 2, 40, 3] := by kernel_rfl
theorem atoms54 : atoms Tryz.prog 8 54 = some [9, 3, 2, 2, 2, 3, 3, 3, 2, 2] := by kernel_rfl
theorem atoms63 : atoms Tryz.prog 8 63 = some [9, 2, 3] := by kernel_rfl
theorem atoms65 : atoms Tryz.prog 8 65 = some [9, 3, 2] := by kernel_rfl
theorem sh9 {d : D} (h : Sh Tryz.prog 9 d) : ∃ s : List UInt8, d = .str (s.map UInt8.toNat) := by
  cases h with
  | int hu _ => rw [Tryz.underlying9] at hu; cases hu
  | bool hu => rw [Tryz.underlying9] at hu; cases hu
  | sl hu => rw [Tryz.underlying9] at hu; cases hu
  | str _ _ => exact ⟨_, rfl⟩
theorem sh_i64 {t : TypeId} (ht : Tryz.prog.underlying t = some (.int .i64)) {d : D} (h : Sh Tryz.prog t d) : ∃ n : Int, d = .int .i64 n := by
  cases h with
  | int hu _ =>
    rw [ht] at hu
    injection hu with hu
    injection hu with hu
    subst hu
    exact ⟨_, rfl⟩
  | bool hu => rw [ht] at hu; cases hu
  | sl hu => rw [ht] at hu; cases hu
  | str hu _ => rw [ht] at hu; cases hu
theorem sh_sl {t e : TypeId} {ats : List TypeId} (ht : Tryz.prog.underlying t = some (.slice e)) (ha : atoms Tryz.prog 8 e = some ats) {d : D} (h : Sh Tryz.prog t d) :
    ∃ rows, d = .sl rows ∧ rows.length < 9223372036854775808 ∧ (∀ r, r ∈ rows → r.length = ats.length) ∧ ∀ r, r ∈ rows → ∀ (i : Nat) (a : TypeId) (c : D), ats[i]? = some a → r[i]? = some c → Sh Tryz.prog a c := by
  cases h with
  | int hu _ => rw [ht] at hu; cases hu
  | bool hu => rw [ht] at hu; cases hu
  | str hu _ => rw [ht] at hu; cases hu
  | sl hu hat hl h1 h2 =>
    rw [ht] at hu
    injection hu with hu
    injection hu with hu
    subst hu
    rw [ha] at hat
    injection hat with hat
    subst hat
    exact ⟨_, rfl, by have : maxLen = 9223372036854775807 := rfl; omega, h1, h2⟩
theorem len3 {α : Type} {r : List α} (h : r.length = 3) : ∃ a b c, r = [a, b, c] := by
  match r, h with
  | [a, b, c], _ => exact ⟨a, b, c, rfl⟩
theorem len5 {α : Type} {r : List α} (h : r.length = 5) : ∃ a b c d e, r = [a, b, c, d, e] := by
  match r, h with
  | [a, b, c, d, e], _ => exact ⟨a, b, c, d, e, rfl⟩
theorem len10 {α : Type} {r : List α} (h : r.length = 10) : ∃ c0 c1 c2 c3 c4 c5 c6 c7 c8 c9, r = [c0, c1, c2, c3, c4, c5, c6, c7, c8, c9] := by
  match r, h with
  | [c0, c1, c2, c3, c4, c5, c6, c7, c8, c9], _ => exact ⟨c0, c1, c2, c3, c4, c5, c6, c7, c8, c9, rfl⟩
theorem array12 {α : Type} {cs : Array α} (h : cs.size = 12) : ∃ c0 c1 c2 c3 c4 c5 c6 c7 c8 c9 c10 c11, cs = #[c0, c1, c2, c3, c4, c5, c6, c7, c8, c9, c10, c11] := by
  obtain ⟨l⟩ := cs
  match l, h with
  | [c0, c1, c2, c3, c4, c5, c6, c7, c8, c9, c10, c11], _ => exact ⟨c0, c1, c2, c3, c4, c5, c6, c7, c8, c9, c10, c11, rfl⟩
theorem cells44 : Tryz.prog.cellsOf 44 = 12 := by kernel_rfl
theorem row24_of {r : List D} (hl : r.length = 10) (h : ∀ (i : Nat) (a : TypeId) (c : D), ([9, 3, 2, 2, 2, 3, 3, 3, 2, 2] : List TypeId)[i]? = some a → r[i]? = some c → Sh Tryz.prog a c) : Row24 r := by
  obtain ⟨c0, c1, c2, c3, c4, c5, c6, c7, c8, c9, rfl⟩ := len10 hl
  obtain ⟨s, rfl⟩ := sh9 (h 0 _ _ rfl rfl)
  obtain ⟨k1, rfl⟩ := sh_i64 Tryz.underlying3 (h 1 _ _ rfl rfl)
  obtain ⟨k2, rfl⟩ := sh_i64 Tryz.underlying2 (h 2 _ _ rfl rfl)
  obtain ⟨k3, rfl⟩ := sh_i64 Tryz.underlying2 (h 3 _ _ rfl rfl)
  obtain ⟨k4, rfl⟩ := sh_i64 Tryz.underlying2 (h 4 _ _ rfl rfl)
  obtain ⟨k5, rfl⟩ := sh_i64 Tryz.underlying3 (h 5 _ _ rfl rfl)
  obtain ⟨k6, rfl⟩ := sh_i64 Tryz.underlying3 (h 6 _ _ rfl rfl)
  obtain ⟨k7, rfl⟩ := sh_i64 Tryz.underlying3 (h 7 _ _ rfl rfl)
  obtain ⟨k8, rfl⟩ := sh_i64 Tryz.underlying2 (h 8 _ _ rfl rfl)
  obtain ⟨k9, rfl⟩ := sh_i64 Tryz.underlying2 (h 9 _ _ rfl rfl)
  exact ⟨_, _, _, _, _, _, _, _, _, _, rfl⟩
theorem row25_of {r : List D} (hl : r.length = 3) (h : ∀ (i : Nat) (a : TypeId) (c : D), ([9, 2, 3] : List TypeId)[i]? = some a → r[i]? = some c → Sh Tryz.prog a c) : Row25 r := by
  obtain ⟨c0, c1, c2, rfl⟩ := len3 hl
  obtain ⟨s, rfl⟩ := sh9 (h 0 _ _ rfl rfl)
  obtain ⟨k1, rfl⟩ := sh_i64 Tryz.underlying2 (h 1 _ _ rfl rfl)
  obtain ⟨k2, rfl⟩ := sh_i64 Tryz.underlying3 (h 2 _ _ rfl rfl)
  exact ⟨_, _, _, rfl⟩
theorem row26_of {r : List D} (hl : r.length = 3) (h : ∀ (i : Nat) (a : TypeId) (c : D), ([9, 3, 2] : List TypeId)[i]? = some a → r[i]? = some c → Sh Tryz.prog a c) : Row26 r := by
  obtain ⟨c0, c1, c2, rfl⟩ := len3 hl
  obtain ⟨s, rfl⟩ := sh9 (h 0 _ _ rfl rfl)
  obtain ⟨k1, rfl⟩ := sh_i64 Tryz.underlying3 (h 1 _ _ rfl rfl)
  obtain ⟨k2, rfl⟩ := sh_i64 Tryz.underlying2 (h 2 _ _ rfl rfl)
  exact ⟨_, _, _, rfl⟩
theorem xpr_of {t : TypeId} {d : D} (h : Sh Tryz.prog t d) : t = 40 → ∀ rows, d = .sl rows → ∀ r, r ∈ rows → XprR r := by
  induction h with
  | int => exact fun _ rows e => by cases e
  | bool => exact fun _ rows e => by cases e
  | str => exact fun _ rows e => by cases e
  | @sl t e ats rows hu hat hl h1 h2 ih =>
    intro ht rows' he r hr
    subst ht
    injection he with he
    subst he
    rw [Tryz.underlying40] at hu
    injection hu with hu
    injection hu with hu
    subst hu
    rw [atoms42] at hat
    injection hat with hat
    subst hat
    obtain ⟨c0, c1, c2, c3, c4, rfl⟩ := len5 (h1 r hr)
    obtain ⟨k0, rfl⟩ := sh_i64 Tryz.underlying3 (h2 _ hr 0 _ _ rfl rfl)
    obtain ⟨s, rfl⟩ := sh9 (h2 _ hr 1 _ _ rfl rfl)
    obtain ⟨k2, rfl⟩ := sh_i64 Tryz.underlying2 (h2 _ hr 2 _ _ rfl rfl)
    obtain ⟨rows3, rfl, hl3, _, _⟩ := sh_sl Tryz.underlying40 atoms42 (h2 _ hr 3 _ _ rfl rfl)
    obtain ⟨k4, rfl⟩ := sh_i64 Tryz.underlying3 (h2 _ hr 4 _ _ rfl rfl)
    exact .mk _ _ _ _ _ hl3 (ih _ hr 3 _ _ rfl rfl rfl _ rfl)

set_option maxHeartbeats 2000000 in
set_option maxRecDepth 100000 in
theorem finds_calls {H : Type} {enc : TypeId × Value → H} {w : World} {base : Nat} {sp : Nat → Bool} {held : Bool} {r : Reach} {b0 : Nat} {v : Value} {d : DataW H} {p : List MemPlace} (s : ByteArray)
    (hv : Value.okWide Tryz.prog w r b0 44 v) (h : DataW.Trod enc Tryz.prog w base sp held 44 v d p) :
    Calls Tryz.prog 7 #[v, .string s] w fun e w' => e = .returned (.bool true) ∧ Below w.heap.size w w' := by
  obtain ⟨cs, rfl, hsz⟩ := okWide_struct Tryz.underlying44 hv
  obtain ⟨c0, c1, c2, c3, c4, c5, c6, c7, c8, c9, c10, c11, rfl⟩ := array12 (hsz.trans cells44)
  obtain ⟨fuel, hf⟩ := h
  obtain ⟨_, g⟩ := atoms_trod 8 44 _ atoms44 _ _ _ hf
  have cell : ∀ (i : Nat) (a : TypeId) (c : Value), ([9, 3, 3, 2, 37, 38, 39, 3, 9, 2, 40, 3] : List TypeId)[i]? = some a → a ∈ ts44 → [c0, c1, c2, c3, c4, c5, c6, c7, c8, c9, c10, c11][i]? = some c →
      ∃ d, Sh Tryz.prog a d ∧ DR (Go.Rf.Safe ghostF st0 w) w d c ∧ d.one = true := by
    intro i a c ha hin hc
    obtain ⟨c', m, y, _, hc', ht⟩ := g i a ha
    have he : c' = c := by
      have h2 : [c0, c1, c2, c3, c4, c5, c6, c7, c8, c9, c10, c11][i]? = some c' := hc'
      rw [hc] at h2
      exact (Option.some.inj h2).symm
    subst he
    exact sh_of_trod okT44 (fun b off hb => ghostF_safe hb) m a c' y hin ht
  obtain ⟨d0, q0, e0, o0⟩ := cell 0 _ _ rfl (by decide) rfl
  obtain ⟨d1, q1, e1, o1⟩ := cell 1 _ _ rfl (by decide) rfl
  obtain ⟨d2, q2, e2, o2⟩ := cell 2 _ _ rfl (by decide) rfl
  obtain ⟨d3, q3, e3, o3⟩ := cell 3 _ _ rfl (by decide) rfl
  obtain ⟨d4, q4, e4, o4⟩ := cell 4 _ _ rfl (by decide) rfl
  obtain ⟨d5, q5, e5, o5⟩ := cell 5 _ _ rfl (by decide) rfl
  obtain ⟨d6, q6, e6, o6⟩ := cell 6 _ _ rfl (by decide) rfl
  obtain ⟨d7, q7, e7, o7⟩ := cell 7 _ _ rfl (by decide) rfl
  obtain ⟨d8, q8, e8, o8⟩ := cell 8 _ _ rfl (by decide) rfl
  obtain ⟨d9, q9, e9, o9⟩ := cell 9 _ _ rfl (by decide) rfl
  obtain ⟨d10, q10, e10, o10⟩ := cell 10 _ _ rfl (by decide) rfl
  obtain ⟨d11, q11, e11, o11⟩ := cell 11 _ _ rfl (by decide) rfl
  obtain ⟨nm, rfl⟩ := sh9 q0
  obtain ⟨ct, rfl⟩ := sh_i64 Tryz.underlying3 q1
  obtain ⟨rp, rfl⟩ := sh_i64 Tryz.underlying3 q2
  obtain ⟨cn, rfl⟩ := sh_i64 Tryz.underlying2 q3
  obtain ⟨rq, rfl, l4, m4, n4⟩ := sh_sl Tryz.underlying37 atoms65 q4
  obtain ⟨pn, rfl, l5, m5, n5⟩ := sh_sl Tryz.underlying38 atoms63 q5
  obtain ⟨pl, rfl, l6, m6, n6⟩ := sh_sl Tryz.underlying39 atoms54 q6
  obtain ⟨eo, rfl⟩ := sh_i64 Tryz.underlying3 q7
  obtain ⟨en, rfl⟩ := sh9 q8
  obtain ⟨ev, rfl⟩ := sh_i64 Tryz.underlying2 q9
  have hxp := xpr_of q10 rfl
  obtain ⟨ek, rfl, l10, m10, n10⟩ := sh_sl Tryz.underlying40 atoms42 q10
  obtain ⟨ea, rfl⟩ := sh_i64 Tryz.underlying3 q11
  obtain ⟨n, hrun⟩ := finds_all (nm.map UInt8.toNat) (s.data.toList.map UInt8.toNat) (en.map UInt8.toNat) ct rp cn eo ev ea rq pn pl ek l6 l5 l4
    (fun r hr => row24_of (m6 r hr) (n6 r hr)) (fun r hr => row25_of (m5 r hr) (n5 r hr)) (fun r hr => row26_of (m4 r hr) (n4 r hr)) (.mk _ _ _ _ _ l10 (hxp _ rfl))
  exact law_calls (run_ok mixedT giv8_ok ckTbl2 n).1 hrun
    (VRs.args (.cons (VRs.agg (.cons (.d _ _ e0) (.cons (.d _ _ e1) (.cons (.d _ _ e2) (.cons (.d _ _ e3) (.cons (.d _ _ e4) (.cons (.d _ _ e5) (.cons (.d _ _ e6) (.cons (.d _ _ e7) (.cons (.d _ _ e8) (.cons (.d _ _ e9) (.cons (.d _ _ e10) (.cons (.d _ _ e11) .nil)))))))))))) rfl) (.cons (vr_of_str s) .nil)))

theorem own : ownKnob Tryz.prog.godebug = none := by kernel_rfl
theorem door_met (os : Os) (args : Array Value) : laidMetH Tryz.prog Rows.segmentFindsRow.laid ((World.doorLaid Tryz.prog 72 os).forCall (fun _ _ => 0) ⟨#[], args, []⟩).memory :=
  laidMetH_of_parts3 (fuel := 8) (laidMet_of_run' 8 (by kernel_rfl) (by kernel_rfl)) (by kernel_rfl) (by kernel_rfl)
theorem laid_out : laidOutB Tryz.prog = true := by kernel_rfl
theorem read44 : Tryz.prog.readableRec 44 = true := by kernel_rfl
theorem read9 : Tryz.prog.readableRec 9 = true := by kernel_rfl
theorem row44 : 44 < Tryz.prog.types.size := of_decide_eq_true (by kernel_rfl)
theorem row9 : 9 < Tryz.prog.types.size := of_decide_eq_true (by kernel_rfl)

set_option maxRecDepth 100000 in
theorem finds_lifted (os : Os) (started : os.Started) (H : Type) (enc : TypeId × Value → H) :
    ReturnsInHanded {} Tryz.checked os 7 .any (fun w args => (Rows.segmentFindsSpec.pre enc Tryz.prog Tryz.f7 [] false w args ∧ laidMetH Tryz.prog Rows.segmentFindsRow.laid w) ∧ sizedMet enc Tryz.prog Tryz.f7 (OpenSpec.ofChange Rows.segmentFindsSpec) false w args)
      (Rows.segmentFindsSpec.post enc Tryz.prog Tryz.f7 false true false false) := by
  refine returnsInHanded_of_change_and (C := Tryz.checked) (X := fun w _ => laidMetH Tryz.prog Rows.segmentFindsRow.laid w) (fun _ _ _ hh h => h.of_heap hh) own started (by kernel_rfl) Tryz.func7
    (ChangeSpec.witness_shaped (enc := enc) (C := Tryz.checked) (os := os) (X := fun w _ => laidMetH Tryz.prog Rows.segmentFindsRow.laid w) false (World.doorLaid Tryz.prog 72 os) #[.agg #[.string ⟨#[]⟩, .int .i64 0, .int .i64 0, .int .i64 0, .slice none 0 0, .slice none 0 0, .slice none 0 0, .int .i64 0, .string ⟨#[]⟩, .int .i64 0, .slice none 0 0, .int .i64 0], .string ⟨#[]⟩] 8 rfl (World.shaped_of_RefB (by kernel_rfl) (by kernel_rfl)) (by kernel_rfl) (by kernel_rfl) (by kernel_rfl) (door_met os _)) ?_
  intro W base args ds gs before hval0 hW _ _ hL _
  have hval : ∀ (j : Nat) t v, Tryz.f7.params[j]? = some t → args[j]? = some v → Value.okWide Tryz.prog W .any base t v := hval0
  have hW' := hW
  have hlt := hW.lt
  obtain ⟨p, q, hA0, hV, rfl, hfz, hnd⟩ := hW
  have hA : DataW.TrodAll enc Tryz.prog W 0 (fun _ => true) true Tryz.f7.params.toList args.toList ds p := hA0
  rw [Tryz.params7] at hA hval
  obtain ⟨v0, v1, d0, d1, p0, p1, rfl, rfl, rfl, h0, h1⟩ := trodAll_two hA
  obtain ⟨rfl, rfl⟩ := trodVars_none hV
  simp only [List.append_nil] at hW' hlt
  obtain ⟨s, rfl, rfl, rfl, hs⟩ := Go.ChangeMaps.open_string Tryz.underlying9 (hval 1 9 v1 rfl rfl) h1
  have hok := hval 0 44 v0 rfl rfl
  clear hA0 hval0
  refine (finds_calls s hok h0).mono fun e W' ⟨he, hb⟩ => ?_
  subst he
  have hl0 : ∀ x ∈ p0, x.block < W.heap.size := fun x hx => hlt x (by simp [hx])
  refine ⟨_, rfl, _, _, _, [], p0 ++ [], [], hW', ?_, ?_, ?_, hb.frame _, fun h => by cases h⟩
  · exact trodAll_mk1 (shut_bool Tryz.underlying4 true)
  · exact trodAll_mk2 (Below.trod laid_out read44 row44 h0 hb hl0) (Below.trod laid_out read9 row9 h1 hb (fun x hx => by cases hx))
  · rfl
end Go.Proofs.YtpenabnichgidaaGreatDoor
