/- The package's Set as a given function; the room of an expression; SegmentFinds answers true at the empty state. -/
import Derived.Test.YtpenabnichgidaaGreatDoorFc
import Derived.Test.YtpenabnichgidaaGreatDoorGe
import Derived.Test.YtpenabnichgidaaGreatDoorAwake
import Derived.Test.YtpenabnichgidaaGreatDoorFb
import Derived.Test.YtpenabnichgidaaGreatDoorFa
import Derived.Test.YtpenabnichgidaaGreatDoorTc
namespace Go.Rf
set_option linter.unusedVariables false
set_option linter.unusedSimpArgs false
def enc (s : List UInt8) : List D := [.str (s.map UInt8.toNat)]
def insS (x : List UInt8) : List (List UInt8) → List (List UInt8)
  | [] => [x]
  | a :: O => if a < x then a :: insS x O else if a = x then a :: O else x :: a :: O
theorem insR_t {x : List Nat} {r : List D} {O : List (List D)} (h : lessR x r = true) : insR x (r :: O) = r :: insR x O := by
  have hp : posR x (r :: O) = posR x O + 1 := by unfold posR; rw [List.takeWhile_cons, h]; rfl
  unfold insR
  rw [hp, List.getElem?_cons_succ, List.take_succ_cons, List.drop_succ_cons]
  split <;> rfl
theorem insR_f {x : List Nat} {r : List D} {O : List (List D)} (h : lessR x r = false) : insR x (r :: O) = if sameR x (some r) then r :: O else [.str x] :: r :: O := by
  have hp : posR x (r :: O) = 0 := by unfold posR; rw [List.takeWhile_cons, h]; rfl
  unfold insR
  rw [hp]
  rfl
theorem insR_enc (x : List UInt8) : ∀ (O : List (List UInt8)), insR (x.map UInt8.toNat) (O.map enc) = (insS x O).map enc
  | [] => rfl
  | a :: O => by
    have hb : lessR (x.map UInt8.toNat) (enc a) = decide (a < x) := by
      show bless (a.map UInt8.toNat) (x.map UInt8.toNat) = _
      rw [bless_map, Go.Proofs.bytesLess_eq]
    simp only [List.map_cons, insS]
    by_cases h : a < x
    · rw [insR_t (by rw [hb]; simp [h]), insR_enc x O, if_pos h]; rfl
    · rw [insR_f (by rw [hb]; simp [h]), if_neg h]
      have hs : sameR (x.map UInt8.toNat) (some (enc a)) = beqN (a.map UInt8.toNat) (x.map UInt8.toNat) := rfl
      by_cases h2 : a = x
      · subst h2
        have : beqN (a.map UInt8.toNat) (a.map UInt8.toNat) = true := by rw [beqN_map]; simp
        rw [hs, this, if_pos rfl, if_pos rfl]; rfl
      · rw [hs, if_neg h2, if_neg (fun e => h2 (map_toNat_inj (beqN_eq' e)))]; rfl
theorem setR_enc (ss : List (List UInt8)) : setR (ss.map enc) = (ss.foldl (fun O x => insS x O) []).map enc := by
  have key : ∀ (ss O : List (List UInt8)), (ss.map enc).foldl (fun O r => insR (strD r) O) (O.map enc) = (ss.foldl (fun O x => insS x O) O).map enc := by
    intro ss
    induction ss with
    | nil => exact fun O => rfl
    | cons s ss ih =>
      intro O
      simp only [List.map_cons, List.foldl_cons]
      rw [← ih, ← insR_enc]
      rfl
  exact key ss []
theorem lt_of_not {a x : List UInt8} (h : ¬ a < x) (h2 : a ≠ x) : x < a := by
  apply Classical.byContradiction
  intro h3
  exact h2 (List.le_antisymm (List.not_lt.1 h3) (List.not_lt.1 h))
theorem insS_mem (x y : List UInt8) : ∀ (O : List (List UInt8)), y ∈ insS x O ↔ y = x ∨ y ∈ O
  | [] => by simp [insS]
  | a :: O => by
    simp only [insS]
    split
    · simp only [List.mem_cons, insS_mem x y O]
      constructor
      · rintro (h | h | h)
        · exact .inr (.inl h)
        · exact .inl h
        · exact .inr (.inr h)
      · rintro (h | h | h)
        · exact .inr (.inl h)
        · exact .inl h
        · exact .inr (.inr h)
    · split
      · rename_i h; subst h; simp
      · simp
theorem insS_lt (x : List UInt8) : ∀ (O : List (List UInt8)), O.Pairwise (· < ·) → (insS x O).Pairwise (· < ·)
  | [], _ => by simp [insS]
  | a :: O, h => by
    rw [List.pairwise_cons] at h
    simp only [insS]
    split
    · rename_i hlt
      rw [List.pairwise_cons]
      refine ⟨fun y hy => ?_, insS_lt x O h.2⟩
      rcases (insS_mem x y O).1 hy with rfl | hy
      · exact hlt
      · exact h.1 y hy
    · rename_i hn
      split
      · exact List.pairwise_cons.2 h
      · rename_i hne
        have hxa := lt_of_not hn hne
        rw [List.pairwise_cons]
        refine ⟨fun y hy => ?_, List.pairwise_cons.2 h⟩
        rcases List.mem_cons.1 hy with rfl | hy
        · exact hxa
        · exact List.lt_trans hxa (h.1 y hy)
theorem foldS (ss : List (List UInt8)) : (ss.foldl (fun O x => insS x O) []).Pairwise (· < ·) ∧ ∀ y, y ∈ ss.foldl (fun O x => insS x O) [] ↔ y ∈ ss := by
  have key : ∀ (ss O : List (List UInt8)), O.Pairwise (· < ·) → (ss.foldl (fun O x => insS x O) O).Pairwise (· < ·) ∧ ∀ y, y ∈ ss.foldl (fun O x => insS x O) O ↔ y ∈ ss ∨ y ∈ O := by
    intro ss
    induction ss with
    | nil => exact fun O h => ⟨h, fun y => by simp⟩
    | cons s ss ih =>
      intro O h
      obtain ⟨h1, h2⟩ := ih (insS s O) (insS_lt s O h)
      refine ⟨h1, fun y => ?_⟩
      rw [List.foldl_cons, h2 y, insS_mem]
      simp only [List.mem_cons]
      constructor
      · rintro (h | h | h)
        · exact .inl (.inr h)
        · exact .inl (.inl h)
        · exact .inr h
      · rintro ((h | h) | h)
        · exact .inr (.inl h)
        · exact .inl h
        · exact .inr (.inr h)
  obtain ⟨h1, h2⟩ := key ss [] List.Pairwise.nil
  exact ⟨h1, fun y => by rw [h2]; simp⟩
theorem compactS (zs : List (List UInt8)) (hs : zs.Pairwise (fun x y => decide (x ≤ y) = true)) : (Lib.compact zs).Pairwise (· < ·) ∧ ∀ y, y ∈ Lib.compact zs ↔ y ∈ zs := by
  have hle : ∀ (i j : Nat), i < j → j < zs.length → zs.toArray[i]! ≤ zs.toArray[j]! := by
    intro i j hij hj
    have := List.pairwise_iff_getElem.1 hs i j (by omega) hj hij
    rw [getElem!_pos zs.toArray i (by simp; omega), getElem!_pos zs.toArray j (by simpa using hj)]
    simpa using this
  have key : ∀ m, m ≤ zs.length → (Lib.compactUpTo zs.toArray m).Pairwise (· < ·) ∧ (∀ y, y ∈ Lib.compactUpTo zs.toArray m ↔ ∃ j, j < m ∧ zs.toArray[j]! = y) := by
    intro m
    induction m with
    | zero => exact fun _ => ⟨List.Pairwise.nil, fun y => by simp [Lib.compactUpTo]⟩
    | succ m ih =>
      intro hm
      obtain ⟨h1, h2⟩ := ih (by omega)
      rw [Lib.compactUpTo_succ]
      cases hk : Lib.keeps zs.toArray m with
      | true =>
        have hk' : m = 0 ∨ zs.toArray[m]! ≠ zs.toArray[m - 1]! := by simpa [Lib.keeps] using hk
        simp only [if_true]
        refine ⟨List.pairwise_append.2 ⟨h1, by simp, fun a ha b hb => ?_⟩, fun y => ?_⟩
        · obtain ⟨j, hj, rfl⟩ := (h2 a).1 ha
          obtain rfl : b = zs.toArray[m]! := by simpa using hb
          rcases hk' with h0 | hne
          · omega
          · have hA : zs.toArray[j]! ≤ zs.toArray[m - 1]! := by
              rcases Nat.lt_or_ge j (m - 1) with h | h
              · exact hle j (m - 1) h (by omega)
              · have : j = m - 1 := by omega
                rw [this]; exact List.le_refl _
            have hB : zs.toArray[m - 1]! ≤ zs.toArray[m]! := hle (m - 1) m (by omega) (by omega)
            apply Classical.byContradiction
            intro h3
            have hC : zs.toArray[m]! ≤ zs.toArray[j]! := List.not_lt.1 h3
            exact hne (List.le_antisymm (List.le_trans hC hA) hB)
        · rw [List.mem_append, h2]
          constructor
          · rintro (⟨j, hj, h⟩ | h)
            · exact ⟨j, by omega, h⟩
            · exact ⟨m, by omega, by simpa [eq_comm] using h⟩
          · rintro ⟨j, hj, h⟩
            rcases Nat.lt_or_ge j m with h' | h'
            · exact .inl ⟨j, h', h⟩
            · have : j = m := by omega
              subst this
              exact .inr (by simp [h])
      | false =>
        have hk' : ¬ (m = 0 ∨ zs.toArray[m]! ≠ zs.toArray[m - 1]!) := by simpa [Lib.keeps] using hk
        have hm0 : m ≠ 0 := fun h => hk' (.inl h)
        have heq : zs.toArray[m]! = zs.toArray[m - 1]! := Classical.byContradiction fun h => hk' (.inr h)
        simp only [Bool.false_eq_true, if_false, List.append_nil]
        refine ⟨h1, fun y => ?_⟩
        rw [h2]
        constructor
        · rintro ⟨j, hj, h⟩
          exact ⟨j, by omega, h⟩
        · rintro ⟨j, hj, h⟩
          rcases Nat.lt_or_ge j m with h' | h'
          · exact ⟨j, h', h⟩
          · have : j = m := by omega
            subst this
            exact ⟨j - 1, by omega, by rw [← heq]; exact h⟩
  obtain ⟨h1, h2⟩ := key zs.length (Nat.le_refl _)
  refine ⟨h1, fun y => ?_⟩
  show y ∈ Lib.compactUpTo zs.toArray zs.length ↔ _
  rw [h2, List.mem_iff_getElem]
  constructor
  · rintro ⟨j, hj, rfl⟩
    exact ⟨j, hj, by rw [getElem!_pos zs.toArray j (by simpa using hj)]; simp⟩
  · rintro ⟨j, hj, rfl⟩
    exact ⟨j, hj, by rw [getElem!_pos zs.toArray j (by simpa using hj)]; simp⟩
theorem pairwise_ext {a b : List (List UInt8)} (ha : a.Pairwise (· < ·)) (hb : b.Pairwise (· < ·)) (h : ∀ y, y ∈ a ↔ y ∈ b) : a = b := by
  have hn : ∀ {l : List (List UInt8)}, l.Pairwise (· < ·) → l.Nodup := fun hl => hl.imp fun h e => by subst e; exact List.lt_irrefl _ h
  have hp : a.Perm b := (List.perm_ext_iff_of_nodup (hn ha) (hn hb)).2 h
  exact hp.eq_of_pairwise (fun x y _ _ h1 h2 => absurd (List.lt_trans h1 h2) (List.lt_irrefl _)) ha hb
theorem setR_sorted (ss : List (List UInt8)) : setR (ss.map enc) = (Lib.compact (ss.mergeSort fun x y => decide (x ≤ y))).map enc := by
  rw [setR_enc]
  congr 1
  have hs : (ss.mergeSort fun x y => decide (x ≤ y)).Pairwise (fun x y => decide (x ≤ y) = true) :=
    List.pairwise_mergeSort (fun a b c h1 h2 => by simp only [decide_eq_true_eq] at *; exact List.le_trans h1 h2) (fun a b => by simp only [Bool.or_eq_true, decide_eq_true_eq]; exact List.le_total a b) _
  obtain ⟨h1, h2⟩ := compactS _ hs
  obtain ⟨h3, h4⟩ := foldS ss
  refine pairwise_ext h3 h1 fun y => ?_
  rw [h4, h2, List.mem_mergeSort]
end Go.Rf

namespace Go.Rf
open Go.Proofs Go.RowKit
set_option maxRecDepth 100000
set_option linter.unusedVariables false
set_option linter.unusedSimpArgs false
def strRowB : List D → Bool
  | [.str _] => true
  | _ => false
def g60b : List AV → Cx → St → Option (Out × St)
  | [v], _, st => match v.rows with
    | some rows => if rows.isEmpty = false ∧ rows.all strRowB = true ∧ rows.length ≤ 10000 then some (.ret (.d (.sl (setR rows))), st) else none
    | none => none
  | _, _, _ => none
theorem strRowB_eq {r : List D} (h : strRowB r = true) : ∃ a, r = [.str a] := by
  unfold strRowB at h
  split at h
  · exact ⟨_, rfl⟩
  · exact absurd h (by simp)
theorem giv60b {args : List AV} {cx : Cx} {st st' : St} {o : Out} (h : g60b args cx st = some (o, st')) : st' = st ∧ ∀ g w vs, SR g st w → CxOk cx st → ArgsR g (Safe g st w) w args vs → CallR Tryz.prog cx g st w 60 vs o st' := by
  unfold g60b at h
  split at h
  · rename_i v
    split at h
    · rename_i rows hrows
      split at h
      · rename_i hc
        obtain ⟨hne, hall, hlen⟩ := hc
        simp only [Option.some.injEq, Prod.mk.injEq] at h
        obtain ⟨rfl, rfl⟩ := h
        refine ⟨rfl, fun g w vs hs hcx hargs => ?_⟩
        obtain ⟨u, rfl, hu⟩ := args1 hargs
        have hd := vr_rows hu hrows
        have hrow : ∀ r, r ∈ rows → ∃ a, r = [.str a] := fun r hr => strRowB_eq (List.all_eq_true.1 hall r hr)
        cases hd with
        | sl0 => simp at hne
        | sl _ b off cap sz vals hcap h1 h2 h3 =>
          have hsz : sz = 1 := by
            cases hrs : rows with
            | nil => rw [hrs] at hne; simp at hne
            | cons r rs =>
              have hm : r ∈ rows := by rw [hrs]; simp
              obtain ⟨a, rfl⟩ := hrow r hm
              exact (h1 _ hm).symm
          subst hsz
          have hz : ∀ j, ∃ s : ByteArray, j < rows.length → rows[j]? = some (enc s.data.toList) ∧ cellA w b (off + j) = some (.string s) := by
            intro j
            rcases Nat.lt_or_ge j rows.length with hj | hj
            · obtain ⟨a, ha⟩ := hrow _ (List.getElem_mem hj)
              have hr : rows[j]? = some [.str a] := by rw [List.getElem?_eq_getElem hj, ha]
              obtain ⟨s, e, hsl⟩ := dr_str (h3 j [.str a] 0 (.str a) hr rfl)
              have hcell := (h2 j [.str a] 0 (.str a) hr rfl).1
              refine ⟨s, fun _ => ⟨by rw [hr, ← hsl]; rfl, ?_⟩⟩
              rw [e] at hcell
              simpa using hcell
            · exact ⟨⟨#[]⟩, fun h' => absurd h' (by omega)⟩
          obtain ⟨zf, hzf⟩ := Classical.axiomOfChoice hz
          generalize hzs : (List.range rows.length).map zf = zs
          have hzl : zs.length = rows.length := by rw [← hzs]; simp
          have hrw : rows = (zs.map (·.data.toList)).map enc := by
            apply List.ext_getElem?
            intro j
            rcases Nat.lt_or_ge j rows.length with hj | hj
            · rw [(hzf j hj).1, ← hzs]
              simp [List.getElem?_map, List.getElem?_range hj]
            · rw [List.getElem?_eq_none hj, List.getElem?_eq_none (by simp [hzl]; omega)]
          have hcall := Tryz.set_any b off rows.length cap zs w (by omega) (by omega) (fun j hj => by
            have hj' : j < rows.length := by omega
            have := (hzf j hj').2
            rw [← hzs]
            simpa [cellA, List.getElem?_range hj'] using this)
          rw [List.take_of_length_le (by omega)] at hcall
          rw [show setR rows = _ from (congrArg setR hrw).trans (setR_sorted (zs.map (·.data.toList)))]
          refine callR_below hs hcx (hcall.mono fun e w' ⟨gb, cp, he, hown, hbel⟩ => ⟨hbel, _, he, fun g' hg' => ?_⟩)
          generalize Lib.compact ((zs.map (·.data.toList)).mergeSort fun x y => decide (x ≤ y)) = cs at hown ⊢
          rcases hown.2 with ⟨h0, _⟩ | ⟨gb', cap', cur, hv, hbase, hblk, hn, hm, hsz, htk⟩
          · cases h0
          · cases hv
            have hcells : ∀ j x, (cs.map encStr)[j]? = some x → cellA w' gb (0 + j * 1 + 0) = some x := by
              intro j x hx
              rw [← htk] at hx
              rw [List.getElem?_take] at hx
              split at hx
              · simp only [cellA, World.cell?, hblk]
                simpa using hx
              · exact absurd hx (by simp)
            have hblt : gb < w'.heap.size := by
              rcases Nat.lt_or_ge gb w'.heap.size with h' | h'
              · exact h'
              · rw [Array.getElem?_eq_none h'] at hblk; cases hblk
            have hsafe : ∀ o, Safe g' st w' gb o := fun o => ⟨hblt, .inl (hg' gb hbase)⟩
            have hcell1 : ∀ (j : Nat) (r : List D) (i : Nat) (c : D), (cs.map enc)[j]? = some r → r[i]? = some c → ∃ s, cs[j]? = some s ∧ i = 0 ∧ c = .str (s.map UInt8.toNat) := by
              intro j r i c hj hi
              rw [List.getElem?_map] at hj
              cases hs' : cs[j]? with
              | none => rw [hs'] at hj; cases hj
              | some s =>
                rw [hs'] at hj
                simp only [Option.map_some, Option.some.injEq] at hj
                subst hj
                cases i with
                | zero => exact ⟨s, rfl, rfl, by simpa [enc] using hi.symm⟩
                | succ i => simp [enc] at hi
            have key : DR (Safe g' st w') w' (.sl (cs.map enc)) (.slice (some ⟨gb, 0, none⟩) (cs.map enc).length cp) := by
              refine .sl _ gb 0 cp 1 (fun j _ => (cs.map encStr).getD j default) (by simpa using hn) (fun r hr => ?_) (fun j r i c hj hi => ?_) (fun j r i c hj hi => ?_)
              · obtain ⟨s, _, rfl⟩ := List.mem_map.1 hr
                rfl
              · obtain ⟨s, e, rfl, rfl⟩ := hcell1 j r i c hj hi
                have hx : (cs.map encStr)[j]? = some (encStr s) := by rw [List.getElem?_map, e]; rfl
                exact ⟨by rw [hcells j _ hx]; simp [List.getD, hx], hsafe _, rfl⟩
              · obtain ⟨s, e, rfl, rfl⟩ := hcell1 j r i c hj hi
                have hx : (cs.map encStr)[j]? = some (encStr s) := by rw [List.getElem?_map, e]; rfl
                rw [show (cs.map encStr).getD j default = encStr s by simp [List.getD, hx]]
                exact .str _ ⟨s.toArray⟩ rfl
            rw [List.length_map] at key
            exact .d _ _ key
      · exact absurd h (by simp)
    · exact absurd h (by simp)
  · exact absurd h (by simp)
end Go.Rf

namespace Go.Rf
set_option maxRecDepth 100000
set_option linter.unusedVariables false
set_option linter.unusedSimpArgs false
theorem m_a {callee : Callee} {cx : Cx} (B : List (List AV)) (T : List (Nat × Nat)) (M : List (List (D × D))) (en : List Nat) (eo ev ea : Int) (ek : List (List D)) (m : Int) : kC callee cx (pcL pf120.body) [.agg [.d (.int .i64 eo), .d (.str en), .d (.int .i64 ev), .d (.sl ek), .d (.int .i64 ea)], .d (.int .i64 m), undefA, undefA, undefA, undefA, undefA, undefA, undefA, undefA, undefA, undefA, undefA, undefA, undefA, undefA, undefA, undefA, undefA, undefA, undefA, undefA, undefA, undefA, undefA, undefA, undefA, undefA, undefA, undefA, undefA, undefA] ⟨B, T, M⟩ [] [] = some (.normal, [.agg [.d (.int .i64 eo), .d (.str en), .d (.int .i64 ev), .d (.sl ek), .d (.int .i64 ea)], .d (.int .i64 m), .ptr (List.length B) 0, undefA, .d (.int .i64 0), undefA, undefA, undefA, undefA, undefA, undefA, undefA, undefA, undefA, undefA, undefA, undefA, undefA, undefA, undefA, undefA, undefA, undefA, undefA, undefA, undefA, undefA, undefA, undefA, undefA, undefA, undefA], ⟨(B ++ [[.d (.int .i64 eo), .d (.str en), .d (.int .i64 ev), .d (.sl ek), .d (.int .i64 ea)]]), T, M⟩, [], []) := by kernel_rfl
theorem m_long {callee : Callee} {cx : Cx} (B : List (List AV)) (T : List (Nat × Nat)) (M : List (List (D × D))) (en : List Nat) (eo ev ea : Int) (ek : List (List D)) (m : Int) (N0 : Nat) : kC callee cx (pcL (pcR pf120.body)) [.agg [.d (.int .i64 eo), .d (.str en), .d (.int .i64 ev), .d (.sl ek), .d (.int .i64 ea)], .d (.int .i64 m), .ptr N0 0, undefA, .d (.int .i64 0), undefA, undefA, undefA, undefA, undefA, undefA, undefA, undefA, undefA, undefA, undefA, undefA, undefA, undefA, undefA, undefA, undefA, undefA, undefA, undefA, undefA, undefA, undefA, undefA, undefA, undefA, undefA] ⟨B, T, M⟩ [.c [.d (.int .i64 eo), .d (.str en), .d (.int .i64 ev), .d (.sl ek), .d (.int .i64 ea)], .b true] [] = some (.ret, [.agg [.d (.int .i64 eo), .d (.str en), .d (.int .i64 ev), .d (.sl ek), .d (.int .i64 ea)], .d (.int .i64 m), .ptr N0 0, undefA, .d (.int .i64 (-1)), undefA, undefA, .ptr N0 1, .d (.str en), .d (.int .i64 ((List.length en : Nat) : Int)), .d (.bool true), undefA, undefA, undefA, undefA, undefA, undefA, undefA, undefA, undefA, undefA, undefA, undefA, undefA, undefA, undefA, undefA, undefA, undefA, undefA, undefA, undefA], ⟨B, T, M⟩, [], [(decide (((List.length en : Nat) : Int) > 40)) = true, B[N0]? = some [.d (.int .i64 eo), .d (.str en), .d (.int .i64 ev), .d (.sl ek), .d (.int .i64 ea)]]) := by kernel_rfl
theorem m_short {callee : Callee} {cx : Cx} (B : List (List AV)) (T : List (Nat × Nat)) (M : List (List (D × D))) (en : List Nat) (eo ev ea : Int) (ek : List (List D)) (m : Int) (N0 : Nat) : kC callee cx (pcL (pcR pf120.body)) [.agg [.d (.int .i64 eo), .d (.str en), .d (.int .i64 ev), .d (.sl ek), .d (.int .i64 ea)], .d (.int .i64 m), .ptr N0 0, undefA, .d (.int .i64 0), undefA, undefA, undefA, undefA, undefA, undefA, undefA, undefA, undefA, undefA, undefA, undefA, undefA, undefA, undefA, undefA, undefA, undefA, undefA, undefA, undefA, undefA, undefA, undefA, undefA, undefA, undefA] ⟨B, T, M⟩ [.c [.d (.int .i64 eo), .d (.str en), .d (.int .i64 ev), .d (.sl ek), .d (.int .i64 ea)], .b false] [] = some (.normal, [.agg [.d (.int .i64 eo), .d (.str en), .d (.int .i64 ev), .d (.sl ek), .d (.int .i64 ea)], .d (.int .i64 m), .ptr N0 0, undefA, .d (.int .i64 0), undefA, undefA, .ptr N0 1, .d (.str en), .d (.int .i64 ((List.length en : Nat) : Int)), .d (.bool false), undefA, undefA, undefA, undefA, undefA, undefA, undefA, undefA, undefA, undefA, undefA, undefA, undefA, undefA, undefA, undefA, undefA, undefA, undefA, undefA, undefA], ⟨B, T, M⟩, [], [(decide (((List.length en : Nat) : Int) > 40)) = false, B[N0]? = some [.d (.int .i64 eo), .d (.str en), .d (.int .i64 ev), .d (.sl ek), .d (.int .i64 ea)]]) := by kernel_rfl
theorem m_i {callee : Callee} {cx : Cx} (B : List (List AV)) (T : List (Nat × Nat)) (M : List (List (D × D))) (en : List Nat) (eo ev ea : Int) (ek : List (List D)) (m : Int) (N0 : Nat) : kC callee cx (pcL (pcR (pcR pf120.body))) [.agg [.d (.int .i64 eo), .d (.str en), .d (.int .i64 ev), .d (.sl ek), .d (.int .i64 ea)], .d (.int .i64 m), .ptr N0 0, undefA, .d (.int .i64 0), undefA, undefA, .ptr N0 1, .d (.str en), .d (.int .i64 ((List.length en : Nat) : Int)), .d (.bool false), undefA, undefA, undefA, undefA, undefA, undefA, undefA, undefA, undefA, undefA, undefA, undefA, undefA, undefA, undefA, undefA, undefA, undefA, undefA, undefA, undefA] ⟨B, T, M⟩ [] [] = some (.normal, [.agg [.d (.int .i64 eo), .d (.str en), .d (.int .i64 ev), .d (.sl ek), .d (.int .i64 ea)], .d (.int .i64 m), .ptr N0 0, undefA, .d (.int .i64 0), .d (.int .i64 (IntKind.wrap .i64 (m - 1))), undefA, .ptr N0 1, .d (.str en), .d (.int .i64 ((List.length en : Nat) : Int)), .d (.bool false), .d (.int .i64 m), .d (.int .i64 (IntKind.wrap .i64 (m - 1))), undefA, undefA, undefA, undefA, undefA, undefA, undefA, undefA, undefA, undefA, undefA, undefA, undefA, undefA, undefA, undefA, undefA, undefA, undefA], ⟨B, T, M⟩, [], []) := by kernel_rfl
theorem m_j {callee : Callee} {cx : Cx} (B : List (List AV)) (T : List (Nat × Nat)) (M : List (List (D × D))) (en : List Nat) (eo ev ea : Int) (ek : List (List D)) (m : Int) (N0 : Nat) : kC callee cx (pcL (pcL (pcR (pcR (pcR pf120.body))))) [.agg [.d (.int .i64 eo), .d (.str en), .d (.int .i64 ev), .d (.sl ek), .d (.int .i64 ea)], .d (.int .i64 m), .ptr N0 0, undefA, .d (.int .i64 0), .d (.int .i64 (IntKind.wrap .i64 (m - 1))), undefA, .ptr N0 1, .d (.str en), .d (.int .i64 ((List.length en : Nat) : Int)), .d (.bool false), .d (.int .i64 m), .d (.int .i64 (IntKind.wrap .i64 (m - 1))), undefA, undefA, undefA, undefA, undefA, undefA, undefA, undefA, undefA, undefA, undefA, undefA, undefA, undefA, undefA, undefA, undefA, undefA, undefA] ⟨B, T, M⟩ [] [] = some (.normal, [.agg [.d (.int .i64 eo), .d (.str en), .d (.int .i64 ev), .d (.sl ek), .d (.int .i64 ea)], .d (.int .i64 m), .ptr N0 0, undefA, .d (.int .i64 0), .d (.int .i64 (IntKind.wrap .i64 (m - 1))), .d (.int .i64 0), .ptr N0 1, .d (.str en), .d (.int .i64 ((List.length en : Nat) : Int)), .d (.bool false), .d (.int .i64 m), .d (.int .i64 (IntKind.wrap .i64 (m - 1))), undefA, undefA, undefA, undefA, undefA, undefA, undefA, undefA, undefA, undefA, undefA, undefA, undefA, undefA, undefA, undefA, undefA, undefA, undefA], ⟨B, T, M⟩, [], []) := by kernel_rfl
def E120 (en : List Nat) (eo ev ea : Int) (ek : List (List D)) (m : Int) (N0 : Nat) (q k : Int) (u13 u14 u15 u16 u17 u18 u19 u20 u21 u22 u23 u24 u25 u26 u27 u28 u29 u30 : AV) : Env := [.agg [.d (.int .i64 eo), .d (.str en), .d (.int .i64 ev), .d (.sl ek), .d (.int .i64 ea)], .d (.int .i64 m), .ptr N0 0, undefA, .d (.int .i64 0), .d (.int .i64 q), .d (.int .i64 k), .ptr N0 1, .d (.str en), .d (.int .i64 ((List.length en : Nat) : Int)), .d (.bool false), .d (.int .i64 m), .d (.int .i64 (IntKind.wrap .i64 (m - 1))), u13, u14, u15, u16, u17, u18, u19, u20, u21, u22, u23, u24, u25, u26, u27, u28, u29, u30, undefA]
theorem m_end {callee : Callee} {cx : Cx} (B : List (List AV)) (T : List (Nat × Nat)) (M : List (List (D × D))) (en : List Nat) (eo ev ea : Int) (ek : List (List D)) (m : Int) (N0 : Nat) (q k : Int) (u13 u14 u15 u16 u17 u18 u19 u20 u21 u22 u23 u24 u25 u26 u27 u28 u29 u30 : AV) : kC callee cx (pcO (pcB (pcR (pcL (pcR (pcR (pcR pf120.body))))))) [.agg [.d (.int .i64 eo), .d (.str en), .d (.int .i64 ev), .d (.sl ek), .d (.int .i64 ea)], .d (.int .i64 m), .ptr N0 0, undefA, .d (.int .i64 0), .d (.int .i64 q), .d (.int .i64 k), .ptr N0 1, .d (.str en), .d (.int .i64 ((List.length en : Nat) : Int)), .d (.bool false), .d (.int .i64 m), .d (.int .i64 (IntKind.wrap .i64 (m - 1))), u13, u14, u15, u16, u17, u18, u19, u20, u21, u22, u23, u24, u25, u26, u27, u28, u29, u30, undefA] ⟨B, T, M⟩ [.c [.d (.int .i64 eo), .d (.str en), .d (.int .i64 ev), .d (.sl ek), .d (.int .i64 ea)], .b false] [] = some (.exit 0, [.agg [.d (.int .i64 eo), .d (.str en), .d (.int .i64 ev), .d (.sl ek), .d (.int .i64 ea)], .d (.int .i64 m), .ptr N0 0, undefA, .d (.int .i64 0), .d (.int .i64 q), .d (.int .i64 k), .ptr N0 1, .d (.str en), .d (.int .i64 ((List.length en : Nat) : Int)), .d (.bool false), .d (.int .i64 m), .d (.int .i64 (IntKind.wrap .i64 (m - 1))), .d (.int .i64 k), .ptr N0 3, .d (.sl ek), .d (.int .i64 ((List.length ek : Nat) : Int)), .d (.bool false), .d (.bool false), undefA, undefA, .d (.bool false), u22, u23, u24, u25, u26, u27, u28, u29, u30, undefA], ⟨B, T, M⟩, [], [(decide (k < ((List.length ek : Nat) : Int))) = false, B[N0]? = some [.d (.int .i64 eo), .d (.str en), .d (.int .i64 ev), .d (.sl ek), .d (.int .i64 ea)]]) := by kernel_rfl
theorem m_neg {callee : Callee} {cx : Cx} (B : List (List AV)) (T : List (Nat × Nat)) (M : List (List (D × D))) (en : List Nat) (eo ev ea : Int) (ek : List (List D)) (m : Int) (N0 : Nat) (q k : Int) (u13 u14 u15 u16 u17 u18 u19 u20 u21 u22 u23 u24 u25 u26 u27 u28 u29 u30 : AV) : kC callee cx (pcO (pcB (pcR (pcL (pcR (pcR (pcR pf120.body))))))) [.agg [.d (.int .i64 eo), .d (.str en), .d (.int .i64 ev), .d (.sl ek), .d (.int .i64 ea)], .d (.int .i64 m), .ptr N0 0, undefA, .d (.int .i64 0), .d (.int .i64 q), .d (.int .i64 k), .ptr N0 1, .d (.str en), .d (.int .i64 ((List.length en : Nat) : Int)), .d (.bool false), .d (.int .i64 m), .d (.int .i64 (IntKind.wrap .i64 (m - 1))), u13, u14, u15, u16, u17, u18, u19, u20, u21, u22, u23, u24, u25, u26, u27, u28, u29, u30, undefA] ⟨B, T, M⟩ [.c [.d (.int .i64 eo), .d (.str en), .d (.int .i64 ev), .d (.sl ek), .d (.int .i64 ea)], .b true, .b false] [] = some (.exit 0, [.agg [.d (.int .i64 eo), .d (.str en), .d (.int .i64 ev), .d (.sl ek), .d (.int .i64 ea)], .d (.int .i64 m), .ptr N0 0, undefA, .d (.int .i64 0), .d (.int .i64 q), .d (.int .i64 k), .ptr N0 1, .d (.str en), .d (.int .i64 ((List.length en : Nat) : Int)), .d (.bool false), .d (.int .i64 m), .d (.int .i64 (IntKind.wrap .i64 (m - 1))), .d (.int .i64 k), .ptr N0 3, .d (.sl ek), .d (.int .i64 ((List.length ek : Nat) : Int)), .d (.bool true), .d (.bool true), .d (.int .i64 q), .d (.bool false), .d (.bool false), u22, u23, u24, u25, u26, u27, u28, u29, u30, undefA], ⟨B, T, M⟩, [], [(decide (q ≥ 0)) = false, (decide (k < ((List.length ek : Nat) : Int))) = true, B[N0]? = some [.d (.int .i64 eo), .d (.str en), .d (.int .i64 ev), .d (.sl ek), .d (.int .i64 ea)]]) := by kernel_rfl
theorem m_go {callee : Callee} {cx : Cx} (B : List (List AV)) (T : List (Nat × Nat)) (M : List (List (D × D))) (en : List Nat) (eo ev ea : Int) (ek : List (List D)) (m : Int) (N0 : Nat) (q k : Int) (u13 u14 u15 u16 u17 u18 u19 u20 u21 u22 u23 u24 u25 u26 u27 u28 u29 u30 : AV) (a1 : List Nat) (o1 n1 t1 : Int) (k1 : List (List D)) (w : Int) : kC callee cx (pcO (pcB (pcR (pcL (pcR (pcR (pcR pf120.body))))))) [.agg [.d (.int .i64 eo), .d (.str en), .d (.int .i64 ev), .d (.sl ek), .d (.int .i64 ea)], .d (.int .i64 m), .ptr N0 0, undefA, .d (.int .i64 0), .d (.int .i64 q), .d (.int .i64 k), .ptr N0 1, .d (.str en), .d (.int .i64 ((List.length en : Nat) : Int)), .d (.bool false), .d (.int .i64 m), .d (.int .i64 (IntKind.wrap .i64 (m - 1))), u13, u14, u15, u16, u17, u18, u19, u20, u21, u22, u23, u24, u25, u26, u27, u28, u29, u30, undefA] ⟨B, T, M⟩ [.c [.d (.int .i64 eo), .d (.str en), .d (.int .i64 ev), .d (.sl ek), .d (.int .i64 ea)], .b true, .b true, .c [.d (.int .i64 eo), .d (.str en), .d (.int .i64 ev), .d (.sl ek), .d (.int .i64 ea)], .r [.int .i64 o1, .str a1, .int .i64 n1, .sl k1, .int .i64 t1], .v (.d (.int .i64 w))] [] = some (.normal, [.agg [.d (.int .i64 eo), .d (.str en), .d (.int .i64 ev), .d (.sl ek), .d (.int .i64 ea)], .d (.int .i64 m), .ptr N0 0, undefA, .d (.int .i64 0), .d (.int .i64 w), .d (.int .i64 (IntKind.wrap .i64 (k + 1))), .ptr N0 1, .d (.str en), .d (.int .i64 ((List.length en : Nat) : Int)), .d (.bool false), .d (.int .i64 m), .d (.int .i64 (IntKind.wrap .i64 (m - 1))), .d (.int .i64 k), .ptr N0 3, .d (.sl ek), .d (.int .i64 ((List.length ek : Nat) : Int)), .d (.bool true), .d (.bool true), .d (.int .i64 q), .d (.bool true), .d (.bool true), .d (.int .i64 k), .d (.int .i64 (IntKind.wrap .i64 (k + 1))), .ptr N0 3, .d (.sl ek), .d (.int .i64 k), .cptr [.int .i64 o1, .str a1, .int .i64 n1, .sl k1, .int .i64 t1], .agg [.d (.int .i64 o1), .d (.str a1), .d (.int .i64 n1), .d (.sl k1), .d (.int .i64 t1)], .d (.int .i64 q), .d (.int .i64 w), undefA], ⟨B, T, M⟩, [], [callee 120 [.agg [.d (.int .i64 o1), .d (.str a1), .d (.int .i64 n1), .d (.sl k1), .d (.int .i64 t1)], .d (.int .i64 q)] cx ⟨B, T, M⟩ = some (.ret (.d (.int .i64 w)), ⟨B, T, M⟩), 0 ≤ k ∧ ek[Int.toNat k]? = some [.int .i64 o1, .str a1, .int .i64 n1, .sl k1, .int .i64 t1], B[N0]? = some [.d (.int .i64 eo), .d (.str en), .d (.int .i64 ev), .d (.sl ek), .d (.int .i64 ea)], (decide (q ≥ 0)) = true, (decide (k < ((List.length ek : Nat) : Int))) = true, B[N0]? = some [.d (.int .i64 eo), .d (.str en), .d (.int .i64 ev), .d (.sl ek), .d (.int .i64 ea)]]) := by kernel_rfl
theorem m_z {callee : Callee} {cx : Cx} (B : List (List AV)) (T : List (Nat × Nat)) (M : List (List (D × D))) (en : List Nat) (eo ev ea : Int) (ek : List (List D)) (m : Int) (N0 : Nat) (q k : Int) (u13 u14 u15 u16 u17 u18 u19 u20 u21 u22 u23 u24 u25 u26 u27 u28 u29 u30 : AV) : kC callee cx (pcR (pcR (pcR (pcR pf120.body)))) [.agg [.d (.int .i64 eo), .d (.str en), .d (.int .i64 ev), .d (.sl ek), .d (.int .i64 ea)], .d (.int .i64 m), .ptr N0 0, undefA, .d (.int .i64 0), .d (.int .i64 q), .d (.int .i64 k), .ptr N0 1, .d (.str en), .d (.int .i64 ((List.length en : Nat) : Int)), .d (.bool false), .d (.int .i64 m), .d (.int .i64 (IntKind.wrap .i64 (m - 1))), u13, u14, u15, u16, u17, u18, u19, u20, u21, u22, u23, u24, u25, u26, u27, u28, u29, u30, undefA] ⟨B, T, M⟩ [] [] = some (.ret, [.agg [.d (.int .i64 eo), .d (.str en), .d (.int .i64 ev), .d (.sl ek), .d (.int .i64 ea)], .d (.int .i64 m), .ptr N0 0, undefA, .d (.int .i64 q), .d (.int .i64 q), .d (.int .i64 k), .ptr N0 1, .d (.str en), .d (.int .i64 ((List.length en : Nat) : Int)), .d (.bool false), .d (.int .i64 m), .d (.int .i64 (IntKind.wrap .i64 (m - 1))), u13, u14, u15, u16, u17, u18, u19, u20, u21, u22, u23, u24, u25, u26, u27, u28, u29, u30, .d (.int .i64 q)], ⟨B, T, M⟩, [], []) := by kernel_rfl
inductive XprR : List D → Prop
  | mk (en : List Nat) (eo ev ea : Int) (ek : List (List D)) : ek.length < 9223372036854775808 → (∀ r, r ∈ ek → XprR r) → XprR [.int .i64 eo, .str en, .int .i64 ev, .sl ek, .int .i64 ea]
def P120 (giv : Nat → Option (List AV → Cx → St → Option (Out × St))) (r : List D) : Prop :=
  ∀ m : Int, ∃ (N : Nat) (v : Int), ∀ n, N ≤ n → ∀ cx st, run giv tbl2 n 120 [.agg (r.map .d), .d (.int .i64 m)] cx st = some (.ret (.d (.int .i64 v)), st)
theorem loop120 {giv : Nat → Option (List AV → Cx → St → Option (Out × St))} (en : List Nat) (eo ev ea : Int) (ek : List (List D)) (hlen : ek.length < 9223372036854775808) (hP : ∀ r, r ∈ ek → XprR r ∧ P120 giv r) (m : Int) :
    ∀ (j k : Nat) (q : Int), k + j = ek.length → ∃ (N : Nat) (v : Int), ∀ n, N ≤ n → ∀ (lf c : Nat), j < c → ∀ (cx : Cx) (N0 : Nat) (B : List (List AV)) (T : List (Nat × Nat)) (M : List (List (D × D))) (u13 u14 u15 u16 u17 u18 u19 u20 u21 u22 u23 u24 u25 u26 u27 u28 u29 u30 : AV), B[N0]? = some [.d (.int .i64 eo), .d (.str en), .d (.int .i64 ev), .d (.sl ek), .d (.int .i64 ea)] →
      ∃ (k' : Int) (w : List AV), (∃ u13 u14 u15 u16 u17 u18 u19 u20 u21 u22 u23 u24 u25 u26 u27 u28 u29 u30 : AV, w = E120 en eo ev ea ek m N0 v k' u13 u14 u15 u16 u17 u18 u19 u20 u21 u22 u23 u24 u25 u26 u27 u28 u29 u30) ∧ iter (fun e s => runC (run giv tbl2 n) lf cx (pcO (pcB (pcR (pcL (pcR (pcR (pcR pf120.body))))))) e s) c (E120 en eo ev ea ek m N0 q (k : Int) u13 u14 u15 u16 u17 u18 u19 u20 u21 u22 u23 u24 u25 u26 u27 u28 u29 u30) ⟨B, T, M⟩ = some (.exit 0, w, ⟨B, T, M⟩)
  | 0, k, q, hk => ⟨0, q, fun n _ lf c hc cx N0 B T M u13 u14 u15 u16 u17 u18 u19 u20 u21 u22 u23 u24 u25 u26 u27 u28 u29 u30 hb => by
      obtain ⟨c, rfl⟩ : ∃ c', c = c' + 1 := ⟨c - 1, by omega⟩
      have h := kC_run (lf := lf) (m_end (callee := run giv tbl2 n) (cx := cx) B T M en eo ev ea ek m N0 q (k : Int) u13 u14 u15 u16 u17 u18 u19 u20 u21 u22 u23 u24 u25 u26 u27 u28 u29 u30) (POk.cons (by simp; omega) (POk.cons hb POk.nil))
      exact ⟨_, _, ⟨_, _, _, _, _, _, _, _, _, _, _, _, _, _, _, _, _, _, rfl⟩, iter_stop (body := fun e s => runC (run giv tbl2 n) lf cx (pcO (pcB (pcR (pcL (pcR (pcR (pcR pf120.body))))))) e s) h (by simp)⟩⟩
  | j + 1, k, q, hk => by
      cases hq : decide (q ≥ 0) with
      | false =>
        refine ⟨0, q, fun n _ lf c hc cx N0 B T M u13 u14 u15 u16 u17 u18 u19 u20 u21 u22 u23 u24 u25 u26 u27 u28 u29 u30 hb => ?_⟩
        obtain ⟨c, rfl⟩ : ∃ c', c = c' + 1 := ⟨c - 1, by omega⟩
        have h := kC_run (lf := lf) (m_neg (callee := run giv tbl2 n) (cx := cx) B T M en eo ev ea ek m N0 q (k : Int) u13 u14 u15 u16 u17 u18 u19 u20 u21 u22 u23 u24 u25 u26 u27 u28 u29 u30) (POk.cons hq (POk.cons (by simp; omega) (POk.cons hb POk.nil)))
        exact ⟨_, _, ⟨_, _, _, _, _, _, _, _, _, _, _, _, _, _, _, _, _, _, rfl⟩, iter_stop (body := fun e s => runC (run giv tbl2 n) lf cx (pcO (pcB (pcR (pcL (pcR (pcR (pcR pf120.body))))))) e s) h (by simp)⟩
      | true =>
        obtain ⟨r, hr⟩ : ∃ r, ek[k]? = some r := ⟨_, List.getElem?_eq_getElem (by omega)⟩
        obtain ⟨hx, hp⟩ := hP r (List.mem_of_getElem? hr)
        obtain ⟨a1, o1, n1, t1, k1, -, -⟩ := hx
        obtain ⟨N1, w, h1⟩ := hp q
        obtain ⟨N2, v, h2⟩ := loop120 en eo ev ea ek hlen hP m j (k + 1) w (by omega)
        refine ⟨max N1 N2, v, fun n hn lf c hc cx N0 B T M u13 u14 u15 u16 u17 u18 u19 u20 u21 u22 u23 u24 u25 u26 u27 u28 u29 u30 hb => ?_⟩
        obtain ⟨c, rfl⟩ : ∃ c', c = c' + 1 := ⟨c - 1, by omega⟩
        have hcall := h1 n (by omega) cx ⟨B, T, M⟩
        have h := kC_run (lf := lf) (m_go (callee := run giv tbl2 n) (cx := cx) B T M en eo ev ea ek m N0 q (k : Int) u13 u14 u15 u16 u17 u18 u19 u20 u21 u22 u23 u24 u25 u26 u27 u28 u29 u30 a1 o1 n1 t1 k1 w) (POk.cons hcall (POk.cons ⟨by omega, by simpa using hr⟩ (POk.cons hb (POk.cons hq (POk.cons (by simp; omega) (POk.cons hb POk.nil))))))
        have hw : IntKind.wrap .i64 ((k : Int) + 1) = ((k + 1 : Nat) : Int) := by rw [wrap_small (by omega) (by omega)]; simp
        rw [hw] at h
        obtain ⟨k', w', he, hit⟩ := h2 n (by omega) lf c (by omega) cx N0 B T M _ _ _ _ _ _ _ _ _ _ _ _ _ _ _ _ _ _ hb
        refine ⟨k', w', he, ?_⟩
        simp only [iter]
        have h' : runC (run giv tbl2 n) lf cx (pcO (pcB (pcR (pcL (pcR (pcR (pcR pf120.body))))))) (E120 en eo ev ea ek m N0 q (k : Int) u13 u14 u15 u16 u17 u18 u19 u20 u21 u22 u23 u24 u25 u26 u27 u28 u29 u30) ⟨B, T, M⟩ = _ := h
        rw [h']
        exact hit
theorem room_ok {giv : Nat → Option (List AV → Cx → St → Option (Out × St))} (hg : giv 120 = none) {r : List D} (h : XprR r) : P120 giv r := by
  induction h with
  | mk en eo ev ea ek hlen hr ih =>
  intro m
  obtain ⟨N, v, hloop⟩ := loop120 en eo ev ea ek hlen (fun r h => ⟨hr r h, ih r h⟩) m ek.length 0 (IntKind.wrap .i64 (m - 1)) (by omega)
  cases hl : decide ((en.length : Int) > 40) with
  | true =>
    refine ⟨1, -1, fun n hn cx st => ?_⟩
    obtain ⟨n, rfl⟩ : ∃ n', n = n' + 1 := ⟨n - 1, by omega⟩
    obtain ⟨B, T, M⟩ := st
    have hrun : run giv tbl2 (n + 1) 120 [.agg [.d (.int .i64 eo), .d (.str en), .d (.int .i64 ev), .d (.sl ek), .d (.int .i64 ea)], .d (.int .i64 m)] cx ⟨B, T, M⟩ = leave pf120 ⟨B, T, M⟩ (runC (run giv tbl2 n) n (cxOf pf120 cx ⟨B, T, M⟩) pf120.body (enter pf120 [.agg [.d (.int .i64 eo), .d (.str en), .d (.int .i64 ev), .d (.sl ek), .d (.int .i64 ea)], .d (.int .i64 m)]) ⟨B, T, M⟩) := by
      simp only [run, hg]; rfl
    refine hrun.trans ?_
    have hcx : cxOf pf120 cx ⟨B, T, M⟩ = ⟨B.length, T.length, M.length⟩ := rfl
    rw [hcx]
    have hA := kC_run (lf := n) (m_a (callee := run giv tbl2 n) (cx := ⟨B.length, T.length, M.length⟩) B T M en eo ev ea ek m) POk.nil
    have hB := kC_run (lf := n) (m_long (callee := run giv tbl2 n) (cx := ⟨B.length, T.length, M.length⟩) (B ++ [[.d (.int .i64 eo), .d (.str en), .d (.int .i64 ev), .d (.sl ek), .d (.int .i64 ea)]]) T M en eo ev ea ek m B.length) (POk.cons hl (POk.cons (by simp) POk.nil))
    have hbody : pf120.body = .seq (pcL pf120.body) (.seq (pcL (pcR pf120.body)) (pcR (pcR pf120.body))) := rfl
    rw [hbody]
    exact (congrArg (leave pf120 ⟨B, T, M⟩) (seq_normal hA (seq_ret hB))).trans rfl
  | false =>
    refine ⟨N + ek.length + 2, v, fun n hn cx st => ?_⟩
    obtain ⟨n, rfl⟩ : ∃ n', n = n' + 1 := ⟨n - 1, by omega⟩
    obtain ⟨B, T, M⟩ := st
    have hrun : run giv tbl2 (n + 1) 120 [.agg [.d (.int .i64 eo), .d (.str en), .d (.int .i64 ev), .d (.sl ek), .d (.int .i64 ea)], .d (.int .i64 m)] cx ⟨B, T, M⟩ = leave pf120 ⟨B, T, M⟩ (runC (run giv tbl2 n) n (cxOf pf120 cx ⟨B, T, M⟩) pf120.body (enter pf120 [.agg [.d (.int .i64 eo), .d (.str en), .d (.int .i64 ev), .d (.sl ek), .d (.int .i64 ea)], .d (.int .i64 m)]) ⟨B, T, M⟩) := by
      simp only [run, hg]; rfl
    refine hrun.trans ?_
    have hcx : cxOf pf120 cx ⟨B, T, M⟩ = ⟨B.length, T.length, M.length⟩ := rfl
    rw [hcx]
    have hA := kC_run (lf := n) (m_a (callee := run giv tbl2 n) (cx := ⟨B.length, T.length, M.length⟩) B T M en eo ev ea ek m) POk.nil
    have hB0 : (B ++ [[.d (.int .i64 eo), .d (.str en), .d (.int .i64 ev), .d (.sl ek), .d (.int .i64 ea)]])[B.length]? = some [.d (.int .i64 eo), .d (.str en), .d (.int .i64 ev), .d (.sl ek), .d (.int .i64 ea)] := by simp
    have hB := kC_run (lf := n) (m_short (callee := run giv tbl2 n) (cx := ⟨B.length, T.length, M.length⟩) (B ++ [[.d (.int .i64 eo), .d (.str en), .d (.int .i64 ev), .d (.sl ek), .d (.int .i64 ea)]]) T M en eo ev ea ek m B.length) (POk.cons hl (POk.cons hB0 POk.nil))
    have hI := kC_run (lf := n) (m_i (callee := run giv tbl2 n) (cx := ⟨B.length, T.length, M.length⟩) (B ++ [[.d (.int .i64 eo), .d (.str en), .d (.int .i64 ev), .d (.sl ek), .d (.int .i64 ea)]]) T M en eo ev ea ek m B.length) POk.nil
    have hJ := kC_run (lf := n) (m_j (callee := run giv tbl2 n) (cx := ⟨B.length, T.length, M.length⟩) (B ++ [[.d (.int .i64 eo), .d (.str en), .d (.int .i64 ev), .d (.sl ek), .d (.int .i64 ea)]]) T M en eo ev ea ek m B.length) POk.nil
    obtain ⟨k', w, ⟨u13, u14, u15, u16, u17, u18, u19, u20, u21, u22, u23, u24, u25, u26, u27, u28, u29, u30, rfl⟩, hit⟩ := hloop n (by omega) n n (by omega) ⟨B.length, T.length, M.length⟩ B.length (B ++ [[.d (.int .i64 eo), .d (.str en), .d (.int .i64 ev), .d (.sl ek), .d (.int .i64 ea)]]) T M undefA undefA undefA undefA undefA undefA undefA undefA undefA undefA undefA undefA undefA undefA undefA undefA undefA undefA hB0
    have hlp := loop_exit (id := 0) hit
    have hZ := kC_run (lf := n) (m_z (callee := run giv tbl2 n) (cx := ⟨B.length, T.length, M.length⟩) (B ++ [[.d (.int .i64 eo), .d (.str en), .d (.int .i64 ev), .d (.sl ek), .d (.int .i64 ea)]]) T M en eo ev ea ek m B.length v k' u13 u14 u15 u16 u17 u18 u19 u20 u21 u22 u23 u24 u25 u26 u27 u28 u29 u30) POk.nil
    have hbody : pf120.body = .seq (pcL pf120.body) (.seq (pcL (pcR pf120.body)) (.seq (pcL (pcR (pcR pf120.body))) (.seq (.seq (pcL (pcL (pcR (pcR (pcR pf120.body))))) (.block 0 (.loop (pcO (pcB (pcR (pcL (pcR (pcR (pcR pf120.body)))))))))) (pcR (pcR (pcR (pcR pf120.body))))))) := rfl
    rw [hbody]
    exact (congrArg (leave pf120 ⟨B, T, M⟩) (seq_normal hA (seq_normal hB (seq_normal hI (seq_normal (seq_normal hJ hlp) hZ))))).trans rfl
theorem n_a {callee : Callee} {cx : Cx} (B : List (List AV)) (T : List (Nat × Nat)) (M : List (List (D × D))) (en : List Nat) (eo ev ea : Int) (ek : List (List D)) (m : Int) : kC callee cx (pcL pf59.body) [.agg [.d (.int .i64 eo), .d (.str en), .d (.int .i64 ev), .d (.sl ek), .d (.int .i64 ea)], .d (.int .i64 m), undefA, undefA, undefA, undefA, undefA, undefA, undefA] ⟨B, T, M⟩ [] [] = some (.normal, [.agg [.d (.int .i64 eo), .d (.str en), .d (.int .i64 ev), .d (.sl ek), .d (.int .i64 ea)], .d (.int .i64 m), .ptr (List.length B) 0, undefA, .d (.bool false), undefA, undefA, undefA, undefA], ⟨(B ++ [[.d (.int .i64 eo), .d (.str en), .d (.int .i64 ev), .d (.sl ek), .d (.int .i64 ea)]]), T, M⟩, [], []) := by kernel_rfl
theorem n_t {callee : Callee} {cx : Cx} (B : List (List AV)) (T : List (Nat × Nat)) (M : List (List (D × D))) (en : List Nat) (eo ev ea : Int) (ek : List (List D)) (m : Int) (N0 : Nat) (w : Int) : kC callee cx (pcR pf59.body) [.agg [.d (.int .i64 eo), .d (.str en), .d (.int .i64 ev), .d (.sl ek), .d (.int .i64 ea)], .d (.int .i64 m), .ptr N0 0, undefA, .d (.bool false), undefA, undefA, undefA, undefA] ⟨B, T, M⟩ [.c [.d (.int .i64 eo), .d (.str en), .d (.int .i64 ev), .d (.sl ek), .d (.int .i64 ea)], .v (.d (.int .i64 w)), .b true] [] = some (.ret, [.agg [.d (.int .i64 eo), .d (.str en), .d (.int .i64 ev), .d (.sl ek), .d (.int .i64 ea)], .d (.int .i64 m), .ptr N0 0, undefA, .d (.bool true), .agg [.d (.int .i64 eo), .d (.str en), .d (.int .i64 ev), .d (.sl ek), .d (.int .i64 ea)], .d (.int .i64 m), .d (.int .i64 w), .d (.bool true)], ⟨B, T, M⟩, [], [(decide (w ≥ 0)) = true, callee 120 [.agg [.d (.int .i64 eo), .d (.str en), .d (.int .i64 ev), .d (.sl ek), .d (.int .i64 ea)], .d (.int .i64 m)] cx ⟨B, T, M⟩ = some (.ret (.d (.int .i64 w)), ⟨B, T, M⟩), B[N0]? = some [.d (.int .i64 eo), .d (.str en), .d (.int .i64 ev), .d (.sl ek), .d (.int .i64 ea)]]) := by kernel_rfl
theorem n_f {callee : Callee} {cx : Cx} (B : List (List AV)) (T : List (Nat × Nat)) (M : List (List (D × D))) (en : List Nat) (eo ev ea : Int) (ek : List (List D)) (m : Int) (N0 : Nat) (w : Int) : kC callee cx (pcR pf59.body) [.agg [.d (.int .i64 eo), .d (.str en), .d (.int .i64 ev), .d (.sl ek), .d (.int .i64 ea)], .d (.int .i64 m), .ptr N0 0, undefA, .d (.bool false), undefA, undefA, undefA, undefA] ⟨B, T, M⟩ [.c [.d (.int .i64 eo), .d (.str en), .d (.int .i64 ev), .d (.sl ek), .d (.int .i64 ea)], .v (.d (.int .i64 w)), .b false] [] = some (.ret, [.agg [.d (.int .i64 eo), .d (.str en), .d (.int .i64 ev), .d (.sl ek), .d (.int .i64 ea)], .d (.int .i64 m), .ptr N0 0, undefA, .d (.bool false), .agg [.d (.int .i64 eo), .d (.str en), .d (.int .i64 ev), .d (.sl ek), .d (.int .i64 ea)], .d (.int .i64 m), .d (.int .i64 w), .d (.bool false)], ⟨B, T, M⟩, [], [(decide (w ≥ 0)) = false, callee 120 [.agg [.d (.int .i64 eo), .d (.str en), .d (.int .i64 ev), .d (.sl ek), .d (.int .i64 ea)], .d (.int .i64 m)] cx ⟨B, T, M⟩ = some (.ret (.d (.int .i64 w)), ⟨B, T, M⟩), B[N0]? = some [.d (.int .i64 eo), .d (.str en), .d (.int .i64 ev), .d (.sl ek), .d (.int .i64 ea)]]) := by kernel_rfl
theorem run59 {giv : Nat → Option (List AV → Cx → St → Option (Out × St))} (hg : giv 59 = none) (hg2 : giv 120 = none) (en : List Nat) (eo ev ea : Int) (ek : List (List D)) (m : Int) (hx : XprR [.int .i64 eo, .str en, .int .i64 ev, .sl ek, .int .i64 ea]) :
    ∃ (N : Nat) (b : Bool), ∀ n, N ≤ n → ∀ cx st, run giv tbl2 n 59 [.agg [.d (.int .i64 eo), .d (.str en), .d (.int .i64 ev), .d (.sl ek), .d (.int .i64 ea)], .d (.int .i64 m)] cx st = some (.ret (.d (.bool b)), st) := by
  obtain ⟨N, v, hv⟩ := room_ok hg2 hx m
  refine ⟨N + 1, decide (v ≥ 0), fun n hn cx st => ?_⟩
  obtain ⟨n, rfl⟩ : ∃ n', n = n' + 1 := ⟨n - 1, by omega⟩
  obtain ⟨B, T, M⟩ := st
  have hrun : run giv tbl2 (n + 1) 59 [.agg [.d (.int .i64 eo), .d (.str en), .d (.int .i64 ev), .d (.sl ek), .d (.int .i64 ea)], .d (.int .i64 m)] cx ⟨B, T, M⟩ = leave pf59 ⟨B, T, M⟩ (runC (run giv tbl2 n) n (cxOf pf59 cx ⟨B, T, M⟩) pf59.body (enter pf59 [.agg [.d (.int .i64 eo), .d (.str en), .d (.int .i64 ev), .d (.sl ek), .d (.int .i64 ea)], .d (.int .i64 m)]) ⟨B, T, M⟩) := by
    simp only [run, hg]; rfl
  refine hrun.trans ?_
  have hcx : cxOf pf59 cx ⟨B, T, M⟩ = ⟨B.length, T.length, M.length⟩ := rfl
  rw [hcx]
  have hA := kC_run (lf := n) (n_a (callee := run giv tbl2 n) (cx := ⟨B.length, T.length, M.length⟩) B T M en eo ev ea ek m) POk.nil
  have hB0 : (B ++ [[.d (.int .i64 eo), .d (.str en), .d (.int .i64 ev), .d (.sl ek), .d (.int .i64 ea)]])[B.length]? = some [.d (.int .i64 eo), .d (.str en), .d (.int .i64 ev), .d (.sl ek), .d (.int .i64 ea)] := by simp
  have hcall := hv n (by omega) ⟨B.length, T.length, M.length⟩ ⟨B ++ [[.d (.int .i64 eo), .d (.str en), .d (.int .i64 ev), .d (.sl ek), .d (.int .i64 ea)]], T, M⟩
  have hbody : pf59.body = .seq (pcL pf59.body) (pcR pf59.body) := rfl
  rw [hbody]
  cases hd : decide (v ≥ 0) with
  | true => exact (congrArg (leave pf59 ⟨B, T, M⟩) (seq_normal hA (kC_run (lf := n) (n_t (callee := run giv tbl2 n) (cx := ⟨B.length, T.length, M.length⟩) (B ++ [[.d (.int .i64 eo), .d (.str en), .d (.int .i64 ev), .d (.sl ek), .d (.int .i64 ea)]]) T M en eo ev ea ek m B.length v) (POk.cons hd (POk.cons hcall (POk.cons hB0 POk.nil)))))).trans rfl
  | false => exact (congrArg (leave pf59 ⟨B, T, M⟩) (seq_normal hA (kC_run (lf := n) (n_f (callee := run giv tbl2 n) (cx := ⟨B.length, T.length, M.length⟩) (B ++ [[.d (.int .i64 eo), .d (.str en), .d (.int .i64 ev), .d (.sl ek), .d (.int .i64 ea)]]) T M en eo ev ea ek m B.length v) (POk.cons hd (POk.cons hcall (POk.cons hB0 POk.nil)))))).trans rfl
end Go.Rf

namespace Go.Rf
set_option maxRecDepth 100000
set_option linter.unusedVariables false
set_option linter.unusedSimpArgs false
theorem o_a {callee : Callee} {cx : Cx} (B : List (List AV)) (T : List (Nat × Nat)) (M : List (List (D × D))) (nm en : List Nat) (ct rp cn eo ev ea : Int) (rq pn pl ek : List (List D)) : kC callee cx (pcL pf23.body) [.agg [.d (.str nm), .d (.int .i64 ct), .d (.int .i64 rp), .d (.int .i64 cn), .d (.sl rq), .d (.sl pn), .d (.sl pl), .d (.int .i64 eo), .d (.str en), .d (.int .i64 ev), .d (.sl ek), .d (.int .i64 ea)], undefA, undefA, undefA, undefA, undefA, undefA, undefA, undefA, undefA, undefA, undefA, undefA, undefA, undefA, undefA, undefA, undefA, undefA, undefA, undefA, undefA, undefA, undefA] ⟨B, T, M⟩ [] [] = some (.normal, [.agg [.d (.str nm), .d (.int .i64 ct), .d (.int .i64 rp), .d (.int .i64 cn), .d (.sl rq), .d (.sl pn), .d (.sl pl), .d (.int .i64 eo), .d (.str en), .d (.int .i64 ev), .d (.sl ek), .d (.int .i64 ea)], .ptr (List.length B) 0, .d (.bool false), undefA, undefA, undefA, undefA, undefA, undefA, undefA, undefA, undefA, undefA, undefA, undefA, undefA, undefA, undefA, undefA, undefA, undefA, undefA, undefA, undefA], ⟨(B ++ [[.d (.str nm), .d (.int .i64 ct), .d (.int .i64 rp), .d (.int .i64 cn), .d (.sl rq), .d (.sl pn), .d (.sl pl), .d (.int .i64 eo), .d (.str en), .d (.int .i64 ev), .d (.sl ek), .d (.int .i64 ea)]]), T, M⟩, [], []) := by kernel_rfl
theorem o_0 {callee : Callee} {cx : Cx} (B : List (List AV)) (T : List (Nat × Nat)) (M : List (List (D × D))) (nm en : List Nat) (ct rp cn eo ev ea : Int) (rq pn pl ek : List (List D)) (N0 : Nat) : kC callee cx (pcR pf23.body) [.agg [.d (.str nm), .d (.int .i64 ct), .d (.int .i64 rp), .d (.int .i64 cn), .d (.sl rq), .d (.sl pn), .d (.sl pl), .d (.int .i64 eo), .d (.str en), .d (.int .i64 ev), .d (.sl ek), .d (.int .i64 ea)], .ptr N0 0, .d (.bool false), undefA, undefA, undefA, undefA, undefA, undefA, undefA, undefA, undefA, undefA, undefA, undefA, undefA, undefA, undefA, undefA, undefA, undefA, undefA, undefA, undefA] ⟨B, T, M⟩ [.c [.d (.str nm), .d (.int .i64 ct), .d (.int .i64 rp), .d (.int .i64 cn), .d (.sl rq), .d (.sl pn), .d (.sl pl), .d (.int .i64 eo), .d (.str en), .d (.int .i64 ev), .d (.sl ek), .d (.int .i64 ea)], .b false] [] = some (.ret, [.agg [.d (.str nm), .d (.int .i64 ct), .d (.int .i64 rp), .d (.int .i64 cn), .d (.sl rq), .d (.sl pn), .d (.sl pl), .d (.int .i64 eo), .d (.str en), .d (.int .i64 ev), .d (.sl ek), .d (.int .i64 ea)], .ptr N0 0, .d (.bool false), .ptr N0 4, .d (.sl rq), .d (.int .i64 ((List.length rq : Nat) : Int)), .d (.bool false), .d (.bool false), undefA, undefA, undefA, undefA, .d (.bool false), .d (.bool false), undefA, undefA, undefA, undefA, .d (.bool false), .d (.bool false), undefA, undefA, undefA, .d (.bool false)], ⟨B, T, M⟩, [], [(decide (((List.length rq : Nat) : Int) ≤ 12)) = false, B[N0]? = some [.d (.str nm), .d (.int .i64 ct), .d (.int .i64 rp), .d (.int .i64 cn), .d (.sl rq), .d (.sl pn), .d (.sl pl), .d (.int .i64 eo), .d (.str en), .d (.int .i64 ev), .d (.sl ek), .d (.int .i64 ea)]]) := by kernel_rfl
theorem o_1 {callee : Callee} {cx : Cx} (B : List (List AV)) (T : List (Nat × Nat)) (M : List (List (D × D))) (nm en : List Nat) (ct rp cn eo ev ea : Int) (rq pn pl ek : List (List D)) (N0 : Nat) : kC callee cx (pcR pf23.body) [.agg [.d (.str nm), .d (.int .i64 ct), .d (.int .i64 rp), .d (.int .i64 cn), .d (.sl rq), .d (.sl pn), .d (.sl pl), .d (.int .i64 eo), .d (.str en), .d (.int .i64 ev), .d (.sl ek), .d (.int .i64 ea)], .ptr N0 0, .d (.bool false), undefA, undefA, undefA, undefA, undefA, undefA, undefA, undefA, undefA, undefA, undefA, undefA, undefA, undefA, undefA, undefA, undefA, undefA, undefA, undefA, undefA] ⟨B, T, M⟩ [.c [.d (.str nm), .d (.int .i64 ct), .d (.int .i64 rp), .d (.int .i64 cn), .d (.sl rq), .d (.sl pn), .d (.sl pl), .d (.int .i64 eo), .d (.str en), .d (.int .i64 ev), .d (.sl ek), .d (.int .i64 ea)], .b true, .c [.d (.str nm), .d (.int .i64 ct), .d (.int .i64 rp), .d (.int .i64 cn), .d (.sl rq), .d (.sl pn), .d (.sl pl), .d (.int .i64 eo), .d (.str en), .d (.int .i64 ev), .d (.sl ek), .d (.int .i64 ea)], .b false] [] = some (.ret, [.agg [.d (.str nm), .d (.int .i64 ct), .d (.int .i64 rp), .d (.int .i64 cn), .d (.sl rq), .d (.sl pn), .d (.sl pl), .d (.int .i64 eo), .d (.str en), .d (.int .i64 ev), .d (.sl ek), .d (.int .i64 ea)], .ptr N0 0, .d (.bool false), .ptr N0 4, .d (.sl rq), .d (.int .i64 ((List.length rq : Nat) : Int)), .d (.bool true), .d (.bool true), .ptr N0 5, .d (.sl pn), .d (.int .i64 ((List.length pn : Nat) : Int)), .d (.bool false), .d (.bool false), .d (.bool false), undefA, undefA, undefA, undefA, .d (.bool false), .d (.bool false), undefA, undefA, undefA, .d (.bool false)], ⟨B, T, M⟩, [], [(decide (((List.length pn : Nat) : Int) ≤ 20)) = false, B[N0]? = some [.d (.str nm), .d (.int .i64 ct), .d (.int .i64 rp), .d (.int .i64 cn), .d (.sl rq), .d (.sl pn), .d (.sl pl), .d (.int .i64 eo), .d (.str en), .d (.int .i64 ev), .d (.sl ek), .d (.int .i64 ea)], (decide (((List.length rq : Nat) : Int) ≤ 12)) = true, B[N0]? = some [.d (.str nm), .d (.int .i64 ct), .d (.int .i64 rp), .d (.int .i64 cn), .d (.sl rq), .d (.sl pn), .d (.sl pl), .d (.int .i64 eo), .d (.str en), .d (.int .i64 ev), .d (.sl ek), .d (.int .i64 ea)]]) := by kernel_rfl
theorem o_2 {callee : Callee} {cx : Cx} (B : List (List AV)) (T : List (Nat × Nat)) (M : List (List (D × D))) (nm en : List Nat) (ct rp cn eo ev ea : Int) (rq pn pl ek : List (List D)) (N0 : Nat) : kC callee cx (pcR pf23.body) [.agg [.d (.str nm), .d (.int .i64 ct), .d (.int .i64 rp), .d (.int .i64 cn), .d (.sl rq), .d (.sl pn), .d (.sl pl), .d (.int .i64 eo), .d (.str en), .d (.int .i64 ev), .d (.sl ek), .d (.int .i64 ea)], .ptr N0 0, .d (.bool false), undefA, undefA, undefA, undefA, undefA, undefA, undefA, undefA, undefA, undefA, undefA, undefA, undefA, undefA, undefA, undefA, undefA, undefA, undefA, undefA, undefA] ⟨B, T, M⟩ [.c [.d (.str nm), .d (.int .i64 ct), .d (.int .i64 rp), .d (.int .i64 cn), .d (.sl rq), .d (.sl pn), .d (.sl pl), .d (.int .i64 eo), .d (.str en), .d (.int .i64 ev), .d (.sl ek), .d (.int .i64 ea)], .b true, .c [.d (.str nm), .d (.int .i64 ct), .d (.int .i64 rp), .d (.int .i64 cn), .d (.sl rq), .d (.sl pn), .d (.sl pl), .d (.int .i64 eo), .d (.str en), .d (.int .i64 ev), .d (.sl ek), .d (.int .i64 ea)], .b true, .c [.d (.str nm), .d (.int .i64 ct), .d (.int .i64 rp), .d (.int .i64 cn), .d (.sl rq), .d (.sl pn), .d (.sl pl), .d (.int .i64 eo), .d (.str en), .d (.int .i64 ev), .d (.sl ek), .d (.int .i64 ea)], .b false] [] = some (.ret, [.agg [.d (.str nm), .d (.int .i64 ct), .d (.int .i64 rp), .d (.int .i64 cn), .d (.sl rq), .d (.sl pn), .d (.sl pl), .d (.int .i64 eo), .d (.str en), .d (.int .i64 ev), .d (.sl ek), .d (.int .i64 ea)], .ptr N0 0, .d (.bool false), .ptr N0 4, .d (.sl rq), .d (.int .i64 ((List.length rq : Nat) : Int)), .d (.bool true), .d (.bool true), .ptr N0 5, .d (.sl pn), .d (.int .i64 ((List.length pn : Nat) : Int)), .d (.bool true), .d (.bool true), .d (.bool true), .ptr N0 6, .d (.sl pl), .d (.int .i64 ((List.length pl : Nat) : Int)), .d (.bool false), .d (.bool false), .d (.bool false), undefA, undefA, undefA, .d (.bool false)], ⟨B, T, M⟩, [], [(decide (((List.length pl : Nat) : Int) ≤ 10)) = false, B[N0]? = some [.d (.str nm), .d (.int .i64 ct), .d (.int .i64 rp), .d (.int .i64 cn), .d (.sl rq), .d (.sl pn), .d (.sl pl), .d (.int .i64 eo), .d (.str en), .d (.int .i64 ev), .d (.sl ek), .d (.int .i64 ea)], (decide (((List.length pn : Nat) : Int) ≤ 20)) = true, B[N0]? = some [.d (.str nm), .d (.int .i64 ct), .d (.int .i64 rp), .d (.int .i64 cn), .d (.sl rq), .d (.sl pn), .d (.sl pl), .d (.int .i64 eo), .d (.str en), .d (.int .i64 ev), .d (.sl ek), .d (.int .i64 ea)], (decide (((List.length rq : Nat) : Int) ≤ 12)) = true, B[N0]? = some [.d (.str nm), .d (.int .i64 ct), .d (.int .i64 rp), .d (.int .i64 cn), .d (.sl rq), .d (.sl pn), .d (.sl pl), .d (.int .i64 eo), .d (.str en), .d (.int .i64 ev), .d (.sl ek), .d (.int .i64 ea)]]) := by kernel_rfl
theorem o_3t {callee : Callee} {cx : Cx} (B : List (List AV)) (T : List (Nat × Nat)) (M : List (List (D × D))) (nm en : List Nat) (ct rp cn eo ev ea : Int) (rq pn pl ek : List (List D)) (N0 : Nat) : kC callee cx (pcR pf23.body) [.agg [.d (.str nm), .d (.int .i64 ct), .d (.int .i64 rp), .d (.int .i64 cn), .d (.sl rq), .d (.sl pn), .d (.sl pl), .d (.int .i64 eo), .d (.str en), .d (.int .i64 ev), .d (.sl ek), .d (.int .i64 ea)], .ptr N0 0, .d (.bool false), undefA, undefA, undefA, undefA, undefA, undefA, undefA, undefA, undefA, undefA, undefA, undefA, undefA, undefA, undefA, undefA, undefA, undefA, undefA, undefA, undefA] ⟨B, T, M⟩ [.c [.d (.str nm), .d (.int .i64 ct), .d (.int .i64 rp), .d (.int .i64 cn), .d (.sl rq), .d (.sl pn), .d (.sl pl), .d (.int .i64 eo), .d (.str en), .d (.int .i64 ev), .d (.sl ek), .d (.int .i64 ea)], .b true, .c [.d (.str nm), .d (.int .i64 ct), .d (.int .i64 rp), .d (.int .i64 cn), .d (.sl rq), .d (.sl pn), .d (.sl pl), .d (.int .i64 eo), .d (.str en), .d (.int .i64 ev), .d (.sl ek), .d (.int .i64 ea)], .b true, .c [.d (.str nm), .d (.int .i64 ct), .d (.int .i64 rp), .d (.int .i64 cn), .d (.sl rq), .d (.sl pn), .d (.sl pl), .d (.int .i64 eo), .d (.str en), .d (.int .i64 ev), .d (.sl ek), .d (.int .i64 ea)], .b true, .c [.d (.str nm), .d (.int .i64 ct), .d (.int .i64 rp), .d (.int .i64 cn), .d (.sl rq), .d (.sl pn), .d (.sl pl), .d (.int .i64 eo), .d (.str en), .d (.int .i64 ev), .d (.sl ek), .d (.int .i64 ea)], .v (.d (.bool true))] [] = some (.ret, [.agg [.d (.str nm), .d (.int .i64 ct), .d (.int .i64 rp), .d (.int .i64 cn), .d (.sl rq), .d (.sl pn), .d (.sl pl), .d (.int .i64 eo), .d (.str en), .d (.int .i64 ev), .d (.sl ek), .d (.int .i64 ea)], .ptr N0 0, .d (.bool true), .ptr N0 4, .d (.sl rq), .d (.int .i64 ((List.length rq : Nat) : Int)), .d (.bool true), .d (.bool true), .ptr N0 5, .d (.sl pn), .d (.int .i64 ((List.length pn : Nat) : Int)), .d (.bool true), .d (.bool true), .d (.bool true), .ptr N0 6, .d (.sl pl), .d (.int .i64 ((List.length pl : Nat) : Int)), .d (.bool true), .d (.bool true), .d (.bool true), .ptr N0 7, .agg [.d (.int .i64 eo), .d (.str en), .d (.int .i64 ev), .d (.sl ek), .d (.int .i64 ea)], .d (.bool true), .d (.bool true)], ⟨B, T, M⟩, [], [callee 59 [.agg [.d (.int .i64 eo), .d (.str en), .d (.int .i64 ev), .d (.sl ek), .d (.int .i64 ea)], .d (.int .i64 100)] cx ⟨B, T, M⟩ = some (.ret (.d (.bool true)), ⟨B, T, M⟩), B[N0]? = some [.d (.str nm), .d (.int .i64 ct), .d (.int .i64 rp), .d (.int .i64 cn), .d (.sl rq), .d (.sl pn), .d (.sl pl), .d (.int .i64 eo), .d (.str en), .d (.int .i64 ev), .d (.sl ek), .d (.int .i64 ea)], (decide (((List.length pl : Nat) : Int) ≤ 10)) = true, B[N0]? = some [.d (.str nm), .d (.int .i64 ct), .d (.int .i64 rp), .d (.int .i64 cn), .d (.sl rq), .d (.sl pn), .d (.sl pl), .d (.int .i64 eo), .d (.str en), .d (.int .i64 ev), .d (.sl ek), .d (.int .i64 ea)], (decide (((List.length pn : Nat) : Int) ≤ 20)) = true, B[N0]? = some [.d (.str nm), .d (.int .i64 ct), .d (.int .i64 rp), .d (.int .i64 cn), .d (.sl rq), .d (.sl pn), .d (.sl pl), .d (.int .i64 eo), .d (.str en), .d (.int .i64 ev), .d (.sl ek), .d (.int .i64 ea)], (decide (((List.length rq : Nat) : Int) ≤ 12)) = true, B[N0]? = some [.d (.str nm), .d (.int .i64 ct), .d (.int .i64 rp), .d (.int .i64 cn), .d (.sl rq), .d (.sl pn), .d (.sl pl), .d (.int .i64 eo), .d (.str en), .d (.int .i64 ev), .d (.sl ek), .d (.int .i64 ea)]]) := by kernel_rfl
theorem o_3f {callee : Callee} {cx : Cx} (B : List (List AV)) (T : List (Nat × Nat)) (M : List (List (D × D))) (nm en : List Nat) (ct rp cn eo ev ea : Int) (rq pn pl ek : List (List D)) (N0 : Nat) : kC callee cx (pcR pf23.body) [.agg [.d (.str nm), .d (.int .i64 ct), .d (.int .i64 rp), .d (.int .i64 cn), .d (.sl rq), .d (.sl pn), .d (.sl pl), .d (.int .i64 eo), .d (.str en), .d (.int .i64 ev), .d (.sl ek), .d (.int .i64 ea)], .ptr N0 0, .d (.bool false), undefA, undefA, undefA, undefA, undefA, undefA, undefA, undefA, undefA, undefA, undefA, undefA, undefA, undefA, undefA, undefA, undefA, undefA, undefA, undefA, undefA] ⟨B, T, M⟩ [.c [.d (.str nm), .d (.int .i64 ct), .d (.int .i64 rp), .d (.int .i64 cn), .d (.sl rq), .d (.sl pn), .d (.sl pl), .d (.int .i64 eo), .d (.str en), .d (.int .i64 ev), .d (.sl ek), .d (.int .i64 ea)], .b true, .c [.d (.str nm), .d (.int .i64 ct), .d (.int .i64 rp), .d (.int .i64 cn), .d (.sl rq), .d (.sl pn), .d (.sl pl), .d (.int .i64 eo), .d (.str en), .d (.int .i64 ev), .d (.sl ek), .d (.int .i64 ea)], .b true, .c [.d (.str nm), .d (.int .i64 ct), .d (.int .i64 rp), .d (.int .i64 cn), .d (.sl rq), .d (.sl pn), .d (.sl pl), .d (.int .i64 eo), .d (.str en), .d (.int .i64 ev), .d (.sl ek), .d (.int .i64 ea)], .b true, .c [.d (.str nm), .d (.int .i64 ct), .d (.int .i64 rp), .d (.int .i64 cn), .d (.sl rq), .d (.sl pn), .d (.sl pl), .d (.int .i64 eo), .d (.str en), .d (.int .i64 ev), .d (.sl ek), .d (.int .i64 ea)], .v (.d (.bool false))] [] = some (.ret, [.agg [.d (.str nm), .d (.int .i64 ct), .d (.int .i64 rp), .d (.int .i64 cn), .d (.sl rq), .d (.sl pn), .d (.sl pl), .d (.int .i64 eo), .d (.str en), .d (.int .i64 ev), .d (.sl ek), .d (.int .i64 ea)], .ptr N0 0, .d (.bool false), .ptr N0 4, .d (.sl rq), .d (.int .i64 ((List.length rq : Nat) : Int)), .d (.bool true), .d (.bool true), .ptr N0 5, .d (.sl pn), .d (.int .i64 ((List.length pn : Nat) : Int)), .d (.bool true), .d (.bool true), .d (.bool true), .ptr N0 6, .d (.sl pl), .d (.int .i64 ((List.length pl : Nat) : Int)), .d (.bool true), .d (.bool true), .d (.bool true), .ptr N0 7, .agg [.d (.int .i64 eo), .d (.str en), .d (.int .i64 ev), .d (.sl ek), .d (.int .i64 ea)], .d (.bool false), .d (.bool false)], ⟨B, T, M⟩, [], [callee 59 [.agg [.d (.int .i64 eo), .d (.str en), .d (.int .i64 ev), .d (.sl ek), .d (.int .i64 ea)], .d (.int .i64 100)] cx ⟨B, T, M⟩ = some (.ret (.d (.bool false)), ⟨B, T, M⟩), B[N0]? = some [.d (.str nm), .d (.int .i64 ct), .d (.int .i64 rp), .d (.int .i64 cn), .d (.sl rq), .d (.sl pn), .d (.sl pl), .d (.int .i64 eo), .d (.str en), .d (.int .i64 ev), .d (.sl ek), .d (.int .i64 ea)], (decide (((List.length pl : Nat) : Int) ≤ 10)) = true, B[N0]? = some [.d (.str nm), .d (.int .i64 ct), .d (.int .i64 rp), .d (.int .i64 cn), .d (.sl rq), .d (.sl pn), .d (.sl pl), .d (.int .i64 eo), .d (.str en), .d (.int .i64 ev), .d (.sl ek), .d (.int .i64 ea)], (decide (((List.length pn : Nat) : Int) ≤ 20)) = true, B[N0]? = some [.d (.str nm), .d (.int .i64 ct), .d (.int .i64 rp), .d (.int .i64 cn), .d (.sl rq), .d (.sl pn), .d (.sl pl), .d (.int .i64 eo), .d (.str en), .d (.int .i64 ev), .d (.sl ek), .d (.int .i64 ea)], (decide (((List.length rq : Nat) : Int) ≤ 12)) = true, B[N0]? = some [.d (.str nm), .d (.int .i64 ct), .d (.int .i64 rp), .d (.int .i64 cn), .d (.sl rq), .d (.sl pn), .d (.sl pl), .d (.int .i64 eo), .d (.str en), .d (.int .i64 ev), .d (.sl ek), .d (.int .i64 ea)]]) := by kernel_rfl
theorem run23 {giv : Nat → Option (List AV → Cx → St → Option (Out × St))} (hg0 : giv 23 = none) (hg : giv 59 = none) (hg2 : giv 120 = none) (nm en : List Nat) (ct rp cn eo ev ea : Int) (rq pn pl ek : List (List D)) (hx : XprR [.int .i64 eo, .str en, .int .i64 ev, .sl ek, .int .i64 ea]) :
    ∃ (N : Nat) (b : Bool), (b = true → pl.length ≤ 10) ∧ ∀ n, N ≤ n → ∀ cx st, run giv tbl2 n 23 [segA nm en ct rp cn eo ev ea rq pn pl ek] cx st = some (.ret (.d (.bool b)), st) := by
  obtain ⟨N, v, hv⟩ := run59 hg hg2 en eo ev ea ek 100 hx
  refine ⟨N + 1, decide ((rq.length : Int) ≤ 12) && decide ((pn.length : Int) ≤ 20) && decide ((pl.length : Int) ≤ 10) && v, fun h => by simp at h; omega, fun n hn cx st => ?_⟩
  obtain ⟨n, rfl⟩ : ∃ n', n = n' + 1 := ⟨n - 1, by omega⟩
  obtain ⟨B, T, M⟩ := st
  have hrun : run giv tbl2 (n + 1) 23 [segA nm en ct rp cn eo ev ea rq pn pl ek] cx ⟨B, T, M⟩ = leave pf23 ⟨B, T, M⟩ (runC (run giv tbl2 n) n (cxOf pf23 cx ⟨B, T, M⟩) pf23.body (enter pf23 [segA nm en ct rp cn eo ev ea rq pn pl ek]) ⟨B, T, M⟩) := by
    simp only [run, hg0]; rfl
  refine hrun.trans ?_
  have hcx : cxOf pf23 cx ⟨B, T, M⟩ = ⟨B.length, T.length, M.length⟩ := rfl
  rw [hcx]
  have hA := kC_run (lf := n) (o_a (callee := run giv tbl2 n) (cx := ⟨B.length, T.length, M.length⟩) B T M nm en ct rp cn eo ev ea rq pn pl ek) POk.nil
  have hb : (B ++ [[.d (.str nm), .d (.int .i64 ct), .d (.int .i64 rp), .d (.int .i64 cn), .d (.sl rq), .d (.sl pn), .d (.sl pl), .d (.int .i64 eo), .d (.str en), .d (.int .i64 ev), .d (.sl ek), .d (.int .i64 ea)]])[B.length]? = some [.d (.str nm), .d (.int .i64 ct), .d (.int .i64 rp), .d (.int .i64 cn), .d (.sl rq), .d (.sl pn), .d (.sl pl), .d (.int .i64 eo), .d (.str en), .d (.int .i64 ev), .d (.sl ek), .d (.int .i64 ea)] := by simp
  have hcall := hv n (by omega) ⟨B.length, T.length, M.length⟩ ⟨B ++ [[.d (.str nm), .d (.int .i64 ct), .d (.int .i64 rp), .d (.int .i64 cn), .d (.sl rq), .d (.sl pn), .d (.sl pl), .d (.int .i64 eo), .d (.str en), .d (.int .i64 ev), .d (.sl ek), .d (.int .i64 ea)]], T, M⟩
  have hbody : pf23.body = .seq (pcL pf23.body) (pcR pf23.body) := rfl
  rw [hbody]
  cases h1 : decide ((rq.length : Int) ≤ 12) with
  | false =>
    rw [Bool.false_and, Bool.false_and, Bool.false_and]
    have hR := kC_run (lf := n) (o_0 (callee := run giv tbl2 n) (cx := ⟨B.length, T.length, M.length⟩) (B ++ [[.d (.str nm), .d (.int .i64 ct), .d (.int .i64 rp), .d (.int .i64 cn), .d (.sl rq), .d (.sl pn), .d (.sl pl), .d (.int .i64 eo), .d (.str en), .d (.int .i64 ev), .d (.sl ek), .d (.int .i64 ea)]]) T M nm en ct rp cn eo ev ea rq pn pl ek B.length) (POk.cons h1 (POk.cons hb POk.nil))
    exact (congrArg (leave pf23 ⟨B, T, M⟩) (seq_normal hA hR)).trans rfl
  | true =>
  cases h2 : decide ((pn.length : Int) ≤ 20) with
  | false =>
    rw [Bool.true_and, Bool.false_and, Bool.false_and]
    have hR := kC_run (lf := n) (o_1 (callee := run giv tbl2 n) (cx := ⟨B.length, T.length, M.length⟩) (B ++ [[.d (.str nm), .d (.int .i64 ct), .d (.int .i64 rp), .d (.int .i64 cn), .d (.sl rq), .d (.sl pn), .d (.sl pl), .d (.int .i64 eo), .d (.str en), .d (.int .i64 ev), .d (.sl ek), .d (.int .i64 ea)]]) T M nm en ct rp cn eo ev ea rq pn pl ek B.length) (POk.cons h2 (POk.cons hb (POk.cons h1 (POk.cons hb POk.nil))))
    exact (congrArg (leave pf23 ⟨B, T, M⟩) (seq_normal hA hR)).trans rfl
  | true =>
  cases h3 : decide ((pl.length : Int) ≤ 10) with
  | false =>
    rw [Bool.true_and, Bool.true_and, Bool.false_and]
    have hR := kC_run (lf := n) (o_2 (callee := run giv tbl2 n) (cx := ⟨B.length, T.length, M.length⟩) (B ++ [[.d (.str nm), .d (.int .i64 ct), .d (.int .i64 rp), .d (.int .i64 cn), .d (.sl rq), .d (.sl pn), .d (.sl pl), .d (.int .i64 eo), .d (.str en), .d (.int .i64 ev), .d (.sl ek), .d (.int .i64 ea)]]) T M nm en ct rp cn eo ev ea rq pn pl ek B.length) (POk.cons h3 (POk.cons hb (POk.cons h2 (POk.cons hb (POk.cons h1 (POk.cons hb POk.nil))))))
    exact (congrArg (leave pf23 ⟨B, T, M⟩) (seq_normal hA hR)).trans rfl
  | true =>
  rw [Bool.true_and, Bool.true_and, Bool.true_and]
  cases v with
  | false =>
    have hR := kC_run (lf := n) (o_3f (callee := run giv tbl2 n) (cx := ⟨B.length, T.length, M.length⟩) (B ++ [[.d (.str nm), .d (.int .i64 ct), .d (.int .i64 rp), .d (.int .i64 cn), .d (.sl rq), .d (.sl pn), .d (.sl pl), .d (.int .i64 eo), .d (.str en), .d (.int .i64 ev), .d (.sl ek), .d (.int .i64 ea)]]) T M nm en ct rp cn eo ev ea rq pn pl ek B.length) (POk.cons hcall (POk.cons hb (POk.cons h3 (POk.cons hb (POk.cons h2 (POk.cons hb (POk.cons h1 (POk.cons hb POk.nil))))))))
    exact (congrArg (leave pf23 ⟨B, T, M⟩) (seq_normal hA hR)).trans rfl
  | true =>
    have hR := kC_run (lf := n) (o_3t (callee := run giv tbl2 n) (cx := ⟨B.length, T.length, M.length⟩) (B ++ [[.d (.str nm), .d (.int .i64 ct), .d (.int .i64 rp), .d (.int .i64 cn), .d (.sl rq), .d (.sl pn), .d (.sl pl), .d (.int .i64 eo), .d (.str en), .d (.int .i64 ev), .d (.sl ek), .d (.int .i64 ea)]]) T M nm en ct rp cn eo ev ea rq pn pl ek B.length) (POk.cons hcall (POk.cons hb (POk.cons h3 (POk.cons hb (POk.cons h2 (POk.cons hb (POk.cons h1 (POk.cons hb POk.nil))))))))
    exact (congrArg (leave pf23 ⟨B, T, M⟩) (seq_normal hA hR)).trans rfl
end Go.Rf

namespace Go.Rf
open Go.Proofs Go.RowKit
set_option maxRecDepth 100000
set_option linter.unusedVariables false
set_option linter.unusedSimpArgs false
noncomputable def giv8 : Nat → Option (List AV → Cx → St → Option (Out × St))
  | 60 => some g60b
  | f => giv4 f
theorem giv8_ok : GivOk Tryz.prog loud giv8 := by
  intro f gf hf args cx st o st' h
  unfold giv8 at hf
  split at hf
  · injection hf with hf; subst hf
    exact ⟨by kernel_rfl, fun _ => (giv60b h).1, (giv60b h).2⟩
  · exact giv4_ok f gf hf args cx st o st' h
theorem varsL_rows {pl : List (List D)} (h : ∀ r, r ∈ pl → Row24 r) : StrRows (varsL pl) := by
  intro r hr
  unfold varsL at hr
  rcases List.mem_append.1 hr with hr | hr
  · simp only [List.mem_cons, List.not_mem_nil, or_false] at hr
    rcases hr with rfl | rfl
    · exact ⟨_, rfl⟩
    · exact ⟨_, rfl⟩
  · obtain ⟨r', hr', rfl⟩ := List.mem_map.1 hr
    obtain ⟨a, k1, k2, k3, k4, k5, k6, k7, k8, k9, rfl⟩ := h r' hr'
    exact ⟨a, rfl⟩
theorem finds_all (nm q en : List Nat) (ct rp cn eo ev ea : Int) (rq pn pl ek : List (List D))
    (hl1 : pl.length < 9223372036854775808) (hl2 : pn.length < 9223372036854775808) (hl3 : rq.length < 9223372036854775808)
    (hr1 : ∀ r, r ∈ pl → Row24 r) (hr2 : ∀ r, r ∈ pn → Row25 r) (hr3 : ∀ r, r ∈ rq → Row26 r) (hx : XprR [.int .i64 eo, .str en, .int .i64 ev, .sl ek, .int .i64 ea]) :
    ∃ n, run giv8 tbl2 n 7 [segA nm en ct rp cn eo ev ea rq pn pl ek, .d (.str q)] cx0 st0 = some (.ret (.d (.bool true)), st0) := by
  obtain ⟨N, b, hb, h23⟩ := run23 (giv := giv8) rfl rfl rfl nm en ct rp cn eo ev ea rq pn pl ek hx
  generalize hm : N + pl.length + pn.length + rq.length + 1000 = m
  have hvl : (varsL pl).length = pl.length + 2 := by simp [varsL]
  have hsl := setR_len (varsL pl)
  refine ⟨m + 1 + 1, finds_run (giv := giv8) (n := m + 1) rfl nm q en ct rp cn eo ev ea rq pn pl ek (setR (varsL pl)) hl1 hl2 hl3 (by omega) (by omega) (by omega) hr1 hr2 hr3 ?_ b ?_ ?_ ?_ ?_ ?_ ?_ ?_⟩
  · exact fun cx st => rfl
  · exact fun cx st => h23 _ (by omega) cx st
  · exact fun cx st => run24 rfl nm q en ct rp cn eo ev ea rq pn pl ek hl1 (by omega) hr1 cx st
  · exact fun cx st => run25 rfl nm q en ct rp cn eo ev ea rq pn pl ek hl2 (by omega) hr2 cx st
  · exact fun cx st => run26 rfl nm q en ct rp cn eo ev ea rq pn pl ek hl3 (by omega) hr3 cx st
  · intro ht cx st
    have hle := hb ht
    refine runV28 rfl nm en ct rp cn eo ev ea rq pn pl ek hle (by omega) hr1 _ (fun t cx st => ?_) cx st
    obtain ⟨m', rfl⟩ : ∃ m', m = m' + 1 := ⟨m - 1, by omega⟩
    show g60b [.own t (varsL pl)] cx st = _
    unfold g60b
    simp only [AV.rows]
    rw [if_pos]
    refine ⟨rfl, List.all_eq_true.2 fun r hr => ?_, by omega⟩
    obtain ⟨a, rfl⟩ := varsL_rows hr1 r hr
    rfl
  · intro ht cx st
    have hle := hb ht
    refine runV29 rfl nm en ct rp cn eo ev ea rq pn pl ek hle (by omega) hr1 _ (fun t cx st => ?_) cx st
    obtain ⟨m', rfl⟩ : ∃ m', m = m' + 1 := ⟨m - 1, by omega⟩
    exact run61 rfl t (varsL pl) (by omega) (by omega) (varsL_rows hr1) cx st
  · intro ht cx st
    have hle := hb ht
    exact run27 rfl (setR (varsL pl)) (by omega) (by omega) (setR_rows _) cx st
end Go.Rf
