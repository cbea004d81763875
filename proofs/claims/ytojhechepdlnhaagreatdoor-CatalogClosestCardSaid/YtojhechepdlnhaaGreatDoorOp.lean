/- What a type's reading says, as data. -/
import Derived.Test.YtojhechepdlnhaaGreatDoorMc
import Derived.ChangeArms
namespace Go.Rf
set_option linter.unusedVariables false
set_option linter.unusedSimpArgs false
def atomsF (ft : TypeId → Option (List TypeId)) (P : Program) : List Field → Nat → Option (List TypeId)
  | [], _ => some []
  | f :: r, off => if f.offset = off then (match ft f.type with
      | some a => if a.length = P.cellsOf f.type then (atomsF ft P r (off + a.length)).map (a ++ ·) else none
      | none => none)
    else none
def atoms (P : Program) : Nat → TypeId → Option (List TypeId)
  | 0, _ => none
  | k + 1, t => match P.underlying t with
    | some .bool => some [t]
    | some (.int _) => some [t]
    | some .string => some [t]
    | some (.slice _) => some [t]
    | some (.struct fs) => (match atomsF (atoms P k) P fs.toList 0 with
      | some as => if as.length = P.cellsOf t then some as else none
      | none => none)
    | _ => none
variable {H : Type} {enc : TypeId × Value → H} {P : Program} {w : World} {base : Nat} {sp : Nat → Bool} {held : Bool}

theorem atomsF_trod {ft : TypeId → Option (List TypeId)} {n : Nat} {cs : List Value}
    (ih : ∀ t as, ft t = some as → ∀ cs x, DataW.trod enc P w base sp held n t cs = some x → cs.length = as.length ∧ ∀ (i : Nat) (a : TypeId), as[i]? = some a → ∃ c m y, m ≤ n ∧ cs[i]? = some c ∧ DataW.trod enc P w base sp held m a [c] = some y) :
    ∀ (l : List Field) (off : Nat) (as : List TypeId), atomsF ft P l off = some as → (∀ f, f ∈ l → ∃ y, DataW.trod enc P w base sp held n f.type ((cs.drop f.offset).take (P.cellsOf f.type)) = some y) →
      ∀ (i : Nat) (a : TypeId), as[i]? = some a → ∃ c m y, m ≤ n ∧ cs[off + i]? = some c ∧ DataW.trod enc P w base sp held m a [c] = some y
  | [], off, as, h, _, i, a, hi => by
    simp only [atomsF, Option.some.injEq] at h
    subst h
    simp at hi
  | f :: r, off, as, h, hf, i, a, hi => by
    simp only [atomsF] at h
    split at h
    · rename_i hoff
      split at h
      · rename_i a0 ha0
        split at h
        · rename_i hlen
          rw [Option.map_eq_some_iff] at h
          obtain ⟨as', h1, rfl⟩ := h
          rcases Nat.lt_or_ge i a0.length with hlt | hge
          · rw [List.getElem?_append_left hlt] at hi
            obtain ⟨y, hy⟩ := hf f (by simp)
            obtain ⟨h2, h3⟩ := ih _ _ ha0 _ _ hy
            obtain ⟨c, m, y', hm, hc, ht⟩ := h3 i a hi
            refine ⟨c, m, y', hm, ?_, ht⟩
            rw [List.getElem?_take] at hc
            split at hc
            · rw [List.getElem?_drop, hoff] at hc
              exact hc
            · exact absurd hc (by simp)
          · rw [List.getElem?_append_right hge] at hi
            obtain ⟨c, m, y', hm, hc, ht⟩ := atomsF_trod ih r _ _ h1 (fun f hf' => hf f (List.mem_cons_of_mem _ hf')) _ a hi
            exact ⟨c, m, y', hm, by rw [← hc]; congr 1; omega, ht⟩
        · exact absurd h (by simp)
      · exact absurd h (by simp)
    · exact absurd h (by simp)
theorem atoms_trod : ∀ (k : Nat) (t : TypeId) (as : List TypeId), atoms P k t = some as → ∀ (n : Nat) (cs : List Value) (x : DataW H × List MemPlace), DataW.trod enc P w base sp held n t cs = some x →
    cs.length = as.length ∧ ∀ (i : Nat) (a : TypeId), as[i]? = some a → ∃ c m y, m ≤ n ∧ cs[i]? = some c ∧ DataW.trod enc P w base sp held m a [c] = some y
  | 0, t, as, h => by simp [atoms] at h
  | k + 1, t, as, h => by
    intro n cs x hx
    have one : (∃ c, cs = [c]) → some [t] = some as → cs.length = as.length ∧ ∀ (i : Nat) (a : TypeId), as[i]? = some a → ∃ c m y, m ≤ n ∧ cs[i]? = some c ∧ DataW.trod enc P w base sp held m a [c] = some y := by
      rintro ⟨c, rfl⟩ he
      injection he with he
      subst he
      refine ⟨rfl, fun i a hi => ?_⟩
      cases i with
      | zero =>
        simp only [List.getElem?_cons_zero, Option.some.injEq] at hi
        subst hi
        exact ⟨c, n, x, Nat.le_refl _, rfl, hx⟩
      | succ i => simp at hi
    simp only [atoms] at h
    split at h
    · rename_i ht
      obtain ⟨b, e, _⟩ := DataW.trod_bool ht hx
      exact one ⟨_, e⟩ h
    · rename_i ht
      obtain ⟨b, e, _⟩ := DataW.trod_int ht hx
      exact one ⟨_, e⟩ h
    · rename_i ht
      obtain ⟨b, e, _⟩ := DataW.trod_string ht hx
      exact one ⟨_, e⟩ h
    · rename_i ht
      rcases DataW.trod_slice ht hx with ⟨e, _⟩ | ⟨a, len, cap, elems, rest, n', _, e, _⟩
      · exact one ⟨_, e⟩ h
      · exact one ⟨_, e⟩ h
    · rename_i fs ht
      split at h
      · rename_i as' has
        split at h
        · rename_i hl
          injection h with h
          subst h
          obtain ⟨xs, n', rfl, _, hlen, hxl, hfl⟩ := DataW.trod_struct ht hx
          refine ⟨by rw [hlen, hl], fun i a hi => ?_⟩
          obtain ⟨c, m, y, hm, hc, hty⟩ := atomsF_trod (fun t as h cs x hx => atoms_trod k t as h n' cs x hx) fs.toList 0 as' has (fun f hf => by
            obtain ⟨j, hj⟩ := List.getElem?_of_mem hf
            have h1 := hfl j f (by simpa using hj)
            have hj' : j < xs.length := by
              rw [hxl]
              have := (List.getElem?_eq_some_iff.1 hj).1
              simpa using this
            rw [List.getElem?_eq_getElem hj'] at h1
            exact ⟨_, h1⟩) i a hi
          exact ⟨c, m, y, by omega, by simpa using hc, hty⟩
        · exact absurd h (by simp)
      · exact absurd h (by simp)
    · exact absurd h (by simp)

inductive Sh (P : Program) : TypeId → D → Prop
  | int {t : TypeId} {k : IntKind} {n : Int} : P.underlying t = some (.int k) → (Lit.int k n).wf = true → Sh P t (.int k n)
  | bool {t : TypeId} {b : Bool} : P.underlying t = some .bool → Sh P t (.bool b)
  | str {t : TypeId} {s : List UInt8} : P.underlying t = some .string → s.length ≤ maxLen → Sh P t (.str (s.map UInt8.toNat))
  | sl {t e : TypeId} {as : List TypeId} {rows : List (List D)} : P.underlying t = some (.slice e) → atoms P 8 e = some as → rows.length ≤ maxLen → (∀ r, r ∈ rows → r.length = as.length) →
      (∀ r, r ∈ rows → ∀ (i : Nat) (a : TypeId) (c : D), as[i]? = some a → r[i]? = some c → Sh P a c) → Sh P t (.sl rows)

def okT (P : Program) (ts : List TypeId) : Bool := ts.all fun t => match P.underlying t with
  | some .bool => true
  | some (.int _) => true
  | some .string => true
  | some (.slice e) => (match atoms P 8 e with
    | some as => !as.isEmpty && as.all fun a => ts.contains a
    | none => false)
  | _ => false

theorem cell_in {w : World} {a : Addr} {c : Value} (h : w.cell? a = some c) : a.block < w.heap.size ∧ a.spot = none := by
  unfold World.cell? at h
  split at h
  · rename_i hb
    refine ⟨(Array.getElem?_eq_some_iff.1 hb).1, ?_⟩
    split at h
    · exact absurd h (by simp)
    · rename_i hs
      cases ha : a.spot with
      | none => rfl
      | some x => rw [ha] at hs; simp at hs
  · exact absurd h (by simp)
theorem add_off {a : Addr} (h : a.spot = none) (n : Nat) : a.add n = ⟨a.block, a.off + n, none⟩ := by
  obtain ⟨b, o, s⟩ := a
  subst h
  unfold Addr.add
  split
  · rename_i h; subst h; rfl
  · rfl

theorem sh_of_trod {ts : List TypeId} (hT : okT P ts = true) {S : Nat → Nat → Prop} (hS : ∀ b off, b < w.heap.size → S b off) : ∀ (n : Nat) (t : TypeId) (c : Value) (x : DataW H × List MemPlace), t ∈ ts → DataW.trod enc P w base sp held n t [c] = some x →
    ∃ d, Sh P t d ∧ DR S w d c ∧ d.one = true := by
  intro n
  induction n using Nat.strongRecOn with
  | ind n ih =>
  intro t c x ht hx
  have hk := List.all_eq_true.1 hT t ht
  try simp only at hk
  split at hk
  · rename_i hu
    obtain ⟨b, e, _⟩ := DataW.trod_bool hu hx
    obtain rfl : c = _ := by simpa using e
    exact ⟨_, .bool hu, .bool _, rfl⟩
  · rename_i hu
    obtain ⟨b, e, _, hw⟩ := DataW.trod_int hu hx
    obtain rfl : c = _ := by simpa using e
    exact ⟨_, .int hu hw, .int _ _, rfl⟩
  · rename_i hu
    obtain ⟨b, e, _, hw⟩ := DataW.trod_string hu hx
    obtain rfl : c = _ := by simpa using e
    exact ⟨_, .str (s := b.data.toList) hu (by simpa using hw), .str _ _ rfl, rfl⟩
  · rename_i e hu
    split at hk
    · rename_i as has
      simp only [Bool.and_eq_true, Bool.not_eq_true', List.all_eq_true] at hk
      obtain ⟨hne, hin⟩ := hk
      have hpos : 0 < as.length := by
        cases as with
        | nil => simp at hne
        | cons => simp
      rcases DataW.trod_slice hu hx with ⟨e1, _⟩ | ⟨a, len, cap, elems, rest, n', hn, e1, _, hb, hl, hm, hlen, hel, _⟩
      · obtain rfl : c = _ := by simpa using e1
        exact ⟨.sl [], .sl hu has (by simp) (by simp) (by simp), .sl0 _ _, rfl⟩
      · obtain rfl : c = _ := by simpa using e1
        subst hn
        rcases Nat.eq_zero_or_pos len with h0 | hlp
        · subst h0
          exact ⟨.sl [], .sl hu has (by simp) (by simp) (by simp), .sl0 _ _, rfl⟩
        have each : ∀ i j, ∃ (v : Value) (d : D), i < len → j < as.length → w.cell? ((a.add (i * as.length)).add j) = some v ∧ (∀ ty, as[j]? = some ty → Sh P ty d) ∧ DR S w d v ∧ d.one = true := by
          intro i j
          rcases Nat.lt_or_ge i len with hi | hi
          · rcases Nat.lt_or_ge j as.length with hj | hj
            · have h1 := hel i hi
              rw [List.getElem?_eq_getElem (by omega)] at h1
              rw [Option.bind_eq_some_iff] at h1
              obtain ⟨csi, h2, h3⟩ := h1
              obtain ⟨h4, h5⟩ := atoms_trod 8 e as has n' csi _ h3
              obtain ⟨h6, h7, h8⟩ := World.cells?_some h2
              obtain ⟨v, m, y, hm', hv, hty⟩ := h5 j as[j] (List.getElem?_eq_getElem hj)
              obtain ⟨d, hd1, hd2, hd3⟩ := ih m (by omega) as[j] v y (by simpa using hin as[j] (List.getElem_mem hj)) hty
              refine ⟨v, d, fun _ _ => ⟨?_, fun ty hty => ?_, hd2, hd3⟩⟩
              · have := h8 j (by omega)
                rw [hv] at this
                rw [show as.length = P.cellsOf e by omega]
                exact this
              · rw [List.getElem?_eq_getElem hj] at hty
                injection hty with hty
                subst hty
                exact hd1
            · exact ⟨default, .nilI, fun _ h => absurd h (by omega)⟩
          · exact ⟨default, .nilI, fun h => absurd h (by omega)⟩
        obtain ⟨vf, hvf⟩ := Classical.axiomOfChoice (fun i => Classical.axiomOfChoice (each i))
        obtain ⟨df, hdf⟩ := Classical.axiomOfChoice (fun i => Classical.axiomOfChoice (hvf i))
        obtain ⟨hblk, hspot⟩ := cell_in (hdf 0 0 hlp hpos).1
        have hbk : ((a.add (0 * as.length)).add 0).block = a.block := by
          unfold Addr.add
          split <;> split <;> rfl
        have hsp0 : a.spot = none := by
          unfold Addr.add at hspot
          simpa using hspot
        rw [hbk] at hblk
        generalize hrows : ((List.range len).map fun i => (List.range as.length).map fun j => df i j) = rows
        have hrl : rows.length = len := by rw [← hrows]; simp
        have hget : ∀ (j : Nat) (r : List D) (i : Nat) (c : D), rows[j]? = some r → r[i]? = some c → j < len ∧ i < as.length ∧ c = df j i := by
          intro j r i c hj hi
          rw [← hrows, List.getElem?_map] at hj
          cases h : (List.range len)[j]? with
          | none => rw [h] at hj; cases hj
          | some j' =>
            rw [h] at hj
            simp only [Option.map_some, Option.some.injEq] at hj
            obtain ⟨q1, q2⟩ := List.getElem?_eq_some_iff.1 h
            simp only [List.length_range] at q1
            simp only [List.getElem_range] at q2
            subst q2; subst hj
            rw [List.getElem?_map] at hi
            cases h' : (List.range as.length)[i]? with
            | none => rw [h'] at hi; cases hi
            | some i' =>
              rw [h'] at hi
              simp only [Option.map_some, Option.some.injEq] at hi
              obtain ⟨p1, p2⟩ := List.getElem?_eq_some_iff.1 h'
              simp only [List.length_range] at p1
              simp only [List.getElem_range] at p2
              subst p2; subst hi
              exact ⟨q1, p1, rfl⟩
        have hrlen : ∀ r, r ∈ rows → r.length = as.length := by
          intro r hr
          rw [← hrows] at hr
          obtain ⟨i, _, rfl⟩ := List.mem_map.1 hr
          simp
        have key : DR S w (.sl rows) (.slice (some ⟨a.block, a.off, none⟩) rows.length cap) := by
          refine .sl rows a.block a.off cap as.length (fun j i => vf j i) (by omega) hrlen (fun j r i c hj hi => ?_) (fun j r i c hj hi => ?_)
          · obtain ⟨q1, q2, rfl⟩ := hget j r i c hj hi
            obtain ⟨p1, p2, p3, p4⟩ := hdf j i q1 q2
            refine ⟨?_, hS _ _ hblk, p4⟩
            rw [add_off hsp0, add_off rfl] at p1
            exact p1
          · obtain ⟨q1, q2, rfl⟩ := hget j r i c hj hi
            exact (hdf j i q1 q2).2.2.1
        rw [hrl] at key
        have ha : a = ⟨a.block, a.off, none⟩ := by
          obtain ⟨b, o, s⟩ := a
          simp only at hsp0
          subst hsp0
          rfl
        refine ⟨.sl rows, .sl hu has (by omega) hrlen (fun r hr i ty c hi hc => ?_), by rw [ha]; exact key, rfl⟩
        obtain ⟨j, hj⟩ := List.getElem?_of_mem hr
        obtain ⟨q1, q2, rfl⟩ := hget j r i c hj hc
        exact (hdf j i q1 q2).2.1 ty hi
    · exact absurd hk (by simp)
  · exact absurd hk (by simp)
end Go.Rf
