/- Loops that look through rows, put together. -/
import Derived.Test.YtojhechepdlnhaaGreatDoorMe
namespace Go.Rf
set_option linter.unusedVariables false
set_option linter.unusedSimpArgs false
theorem POk_cons {p : Prop} {l : PLog} : POk (p :: l) ↔ p ∧ POk l := ⟨fun h => ⟨h.head, h.tail⟩, fun h => POk.cons h.1 h.2⟩
theorem POk_nil : POk [] ↔ True := ⟨fun _ => trivial, fun _ => POk.nil⟩
theorem wrapN {x : Nat} (h : x < 4611686018427387904) : IntKind.wrap .i64 ((x : Int) + 1) = ((x + 1 : Nat) : Int) := by rw [wrap_s (by omega) (by omega)]; simp
theorem wrapP {x : Nat} (h0 : 0 < x) (h : x < 4611686018427387904) : IntKind.wrap .i64 ((x : Int) - 1) = ((x - 1 : Nat) : Int) := by rw [wrap_s (by omega) (by omega)]; omega
theorem set_z {α : Type} (l : List α) (z r : α) : (l ++ [z]).set (l.length + 0) r = l ++ [r] := by
  rw [List.set_append_right _ _ (by omega)]; simp
theorem get_z {α : Type} (l : List α) (z : α) : (l ++ [z])[l.length + 0]? = some z := by simp
theorem get_y {α : Type} (l : List α) (z : α) : (l ++ [z])[List.length l]? = some z := by simp
theorem app_old {α : Type} {l m : List α} {i : Nat} {x : α} (h : l[i]? = some x) : (l ++ m)[i]? = some x := by
  rw [List.getElem?_append_left (List.getElem?_eq_some_iff.1 h).1]; exact h
theorem cond_t {callee : Callee} {lf : Nat} {cx : Cx} {c : PO} {x y : PC} {e : Env} {s : St} (h : c.ev e = .d (.bool true)) : runC callee lf cx (.cond c x y) e s = runC callee lf cx x e s := by simp only [runC, h]
theorem cond_f {callee : Callee} {lf : Nat} {cx : Cx} {c : PO} {x y : PC} {e : Env} {s : St} (h : c.ev e = .d (.bool false)) : runC callee lf cx (.cond c x y) e s = runC callee lf cx y e s := by simp only [runC, h]
theorem run_stop {callee : Callee} {lf : Nat} {cx : Cx} {x y : PC} {e e1 : Env} {s s1 : St} {ex : Ex} (h : runC callee lf cx x e s = some (ex, e1, s1)) (hne : ex ≠ .normal) : runC callee lf cx (.seq x y) e s = some (ex, e1, s1) := by
  simp only [runC, h]
  cases ex <;> first | rfl | exact absurd rfl hne
/-- A loop that looks for the first of its rounds that is not good. -/
theorem scan {callee : Callee} {lf : Nat} {cx : Cx} {Q : PC} {id m : Nat} (E : Nat → Env × St → Prop) (good : Nat → Bool) (R : Nat → Env × St → Prop) (F : Env × St → Prop) (hlf : m < lf)
    (go : ∀ k q, k < m → good k = true → E k q → ∃ q', runC callee lf cx Q q.1 q.2 = some (.normal, q'.1, q'.2) ∧ E (k + 1) q')
    (stop : ∀ k q, k < m → good k = false → E k q → ∃ q', runC callee lf cx Q q.1 q.2 = some (.ret, q'.1, q'.2) ∧ R k q')
    (out : ∀ q, E m q → ∃ q', runC callee lf cx Q q.1 q.2 = some (.exit id, q'.1, q'.2) ∧ F q') {e0 : Env} {s0 : St} (h0 : E 0 (e0, s0)) :
    (∃ k, k < m ∧ good k = false ∧ (∀ j, j < k → good j = true) ∧ ∃ q', runC callee lf cx (.block id (.loop Q)) e0 s0 = some (.ret, q'.1, q'.2) ∧ R k q') ∨
    ((∀ k, k < m → good k = true) ∧ ∃ q', runC callee lf cx (.block id (.loop Q)) e0 s0 = some (.normal, q'.1, q'.2) ∧ F q') := by
  by_cases h : ∀ k, k < m → good k = true
  · exact .inr ⟨h, loop_inv E F hlf (fun k q hk he => go k q hk (h k hk) he) out h0⟩
  · left
    have hex : ∃ k, k < m ∧ good k = false ∧ ∀ j, j < k → good j = true := by
      have : ∀ n, (∀ k, k < n → k < m → good k = true) ∨ ∃ k, k < m ∧ good k = false ∧ ∀ j, j < k → good j = true := by
        intro n
        induction n with
        | zero => exact .inl fun k hk => by omega
        | succ n ih =>
          rcases ih with ih | ih
          · by_cases hn : n < m
            · cases hg : good n with
              | true =>
                refine .inl fun k hk hm => ?_
                by_cases e : k = n
                · rw [e]; exact hg
                · exact ih k (by omega) hm
              | false => exact .inr ⟨n, hn, hg, fun j hj => ih j hj (by omega)⟩
            · exact .inl fun k hk hm => ih k (by omega) hm
          · exact .inr ih
      rcases this m with h1 | h1
      · exact absurd (fun k hk => h1 k hk hk) h
      · exact h1
    obtain ⟨k, hk, hg, hj⟩ := hex
    obtain ⟨q, hq, hi⟩ := iter_rounds (lf := lf) (body := fun e s => runC callee lf cx Q e s) (m := k) E (by omega) (fun j q hjk he => go j q (by omega) (hj j hjk) he) h0
    obtain ⟨q', h1, h2⟩ := stop k q hk hg hq
    refine ⟨k, hk, hg, hj, q', ?_, h2⟩
    obtain ⟨j, hj2⟩ : ∃ j, lf - k = j + 1 := ⟨lf - k - 1, by omega⟩
    have : iter (fun e s => runC callee lf cx Q e s) lf e0 s0 = some (.ret, q'.1, q'.2) := by
      rw [hi, hj2]; simp only [iter, h1]
    simp only [runC, this]
end Go.Rf

namespace Go.Rf
section
variable {callee : Callee} {cx : Cx} {lf : Nat}
/-- A piece that returns false where b is false and else goes on. -/
def Scan (callee : Callee) (cx : Cx) (lf : Nat) (C : PC) (N : Nat) (kn0 : Kn) (r : Nat) (knF : Kn) (I : St → Prop) (b : Bool) : Prop :=
  ∀ J s, I s → ∃ J' s', (b = false ∧ runC callee lf cx C (envOf N kn0 J) s = some (.ret, envOf N [(r, .d (.bool false))] J', s')) ∨
    (b = true ∧ runC callee lf cx C (envOf N kn0 J) s = some (.normal, envOf N knF J', s') ∧ I s')
def Plain (callee : Callee) (cx : Cx) (lf : Nat) (C : PC) (N : Nat) (kn0 knF : Kn) (I I' : St → Prop) : Prop :=
  ∀ J s, I s → ∃ J' s', runC callee lf cx C (envOf N kn0 J) s = some (.normal, envOf N knF J', s') ∧ I' s'
def Ends (callee : Callee) (cx : Cx) (lf : Nat) (C : PC) (N : Nat) (kn0 : Kn) (r : Nat) (I : St → Prop) (v : AV) : Prop :=
  ∀ J s, I s → ∃ J' s', runC callee lf cx C (envOf N kn0 J) s = some (.ret, envOf N [(r, v)] J', s')
theorem Plain.ends {x y : PC} {N r : Nat} {kn0 kn1 : Kn} {I I' : St → Prop} {v : AV} (h1 : Plain callee cx lf x N kn0 kn1 I I') (h2 : Ends callee cx lf y N kn1 r I' v) : Ends callee cx lf (.seq x y) N kn0 r I v := by
  intro J s hI
  obtain ⟨J1, s1, e1, i1⟩ := h1 J s hI
  obtain ⟨J2, s2, e2⟩ := h2 J1 s1 i1
  exact ⟨J2, s2, run_seq e1 e2⟩
theorem Plain.seq {x y : PC} {N : Nat} {kn0 kn1 kn2 : Kn} {I I1 I2 : St → Prop} (h1 : Plain callee cx lf x N kn0 kn1 I I1) (h2 : Plain callee cx lf y N kn1 kn2 I1 I2) : Plain callee cx lf (.seq x y) N kn0 kn2 I I2 := by
  intro J s hI
  obtain ⟨J1, s1, e1, i1⟩ := h1 J s hI
  obtain ⟨J2, s2, e2, i2⟩ := h2 J1 s1 i1
  exact ⟨J2, s2, run_seq e1 e2, i2⟩
theorem Plain.scan {x y : PC} {N r : Nat} {kn0 kn1 knF : Kn} {I : St → Prop} {b : Bool} (h1 : Plain callee cx lf x N kn0 kn1 I I) (h2 : Scan callee cx lf y N kn1 r knF I b) : Scan callee cx lf (.seq x y) N kn0 r knF I b := by
  intro J s hI
  obtain ⟨J1, s1, e1, i1⟩ := h1 J s hI
  obtain ⟨J2, s2, h⟩ := h2 J1 s1 i1
  rcases h with ⟨hb, e2⟩ | ⟨hb, e2, i2⟩
  · exact ⟨J2, s2, .inl ⟨hb, run_seq e1 e2⟩⟩
  · exact ⟨J2, s2, .inr ⟨hb, run_seq e1 e2, i2⟩⟩
theorem Scan.ends {x y : PC} {N r : Nat} {kn0 knF : Kn} {I : St → Prop} {b c : Bool} (h1 : Scan callee cx lf x N kn0 r knF I b) (h2 : Ends callee cx lf y N knF r I (.d (.bool c))) : Ends callee cx lf (.seq x y) N kn0 r I (.d (.bool (b && c))) := by
  intro J s hI
  obtain ⟨J1, s1, h⟩ := h1 J s hI
  rcases h with ⟨hb, e2⟩ | ⟨hb, e2, i2⟩
  · subst hb; exact ⟨J1, s1, run_stop e2 (by simp)⟩
  · subst hb
    obtain ⟨J2, s2, e3⟩ := h2 J1 s1 i2
    exact ⟨J2, s2, run_seq e2 e3⟩
theorem all_range {m : Nat} {good : Nat → Bool} : (List.range m).all good = true ↔ ∀ k, k < m → good k = true := by
  simp [List.all_eq_true]
theorem Scan.loop {Q : PC} {id m N r : Nat} {I : St → Prop} (kn : Nat → Kn) (knF : Kn) (good : Nat → Bool) (hlf : m < lf)
    (go : ∀ k J s, k < m → good k = true → I s → ∃ J' s', runC callee lf cx Q (envOf N (kn k) J) s = some (.normal, envOf N (kn (k + 1)) J', s') ∧ I s')
    (stop : ∀ k J s, k < m → good k = false → I s → ∃ J' s', runC callee lf cx Q (envOf N (kn k) J) s = some (.ret, envOf N [(r, .d (.bool false))] J', s'))
    (out : ∀ J s, I s → ∃ J' s', runC callee lf cx Q (envOf N (kn m) J) s = some (.exit id, envOf N knF J', s') ∧ I s') :
    Scan callee cx lf (.block id (.loop Q)) N (kn 0) r knF I ((List.range m).all good) := by
  intro J s hI
  rcases scan (callee := callee) (cx := cx) (Q := Q) (id := id) (m := m) (fun k q => (∃ J, q.1 = envOf N (kn k) J) ∧ I q.2) good (fun k q => ∃ J, q.1 = envOf N [(r, .d (.bool false))] J) (fun q => (∃ J, q.1 = envOf N knF J) ∧ I q.2) hlf
    (fun k q hk hg ⟨⟨J, hq⟩, hi⟩ => by
      obtain ⟨J', s', h1, h2⟩ := go k J q.2 hk hg hi
      exact ⟨(_, s'), by rw [hq]; exact h1, ⟨J', rfl⟩, h2⟩)
    (fun k q hk hg ⟨⟨J, hq⟩, hi⟩ => by
      obtain ⟨J', s', h1⟩ := stop k J q.2 hk hg hi
      exact ⟨(_, s'), by rw [hq]; exact h1, J', rfl⟩)
    (fun q ⟨⟨J, hq⟩, hi⟩ => by
      obtain ⟨J', s', h1, h2⟩ := out J q.2 hi
      exact ⟨(_, s'), by rw [hq]; exact h1, ⟨J', rfl⟩, h2⟩) (e0 := envOf N (kn 0) J) (s0 := s) ⟨⟨J, rfl⟩, hI⟩ with ⟨k, hk, hg, hj, q, h1, J', h2⟩ | ⟨hg, q, h1, ⟨J', h2⟩, h3⟩
  · refine ⟨J', q.2, .inl ⟨?_, by rw [h1, h2]⟩⟩
    rw [Bool.eq_false_iff]
    intro h
    have := all_range.1 h k hk
    rw [hg] at this
    exact absurd this (by simp)
  · exact ⟨J', q.2, .inr ⟨all_range.2 hg, by rw [h1, h2], h3⟩⟩
theorem look_app (v : AV) (i j : Nat) (u : AV) : ∀ kn : Kn, look v i (kn ++ [(j, u)]) = look (if Nat.beq j i then u else v) i kn
  | [] => rfl
  | (k, w) :: r => by
    simp only [List.cons_append, look, look_app v i j u r]
theorem env_drop (N : Nat) (kn : Kn) (j : Nat) (u : AV) (J : Nat → AV) : envOf N (kn ++ [(j, u)]) J = envOf N kn (fun i => if Nat.beq j i then u else J i) := by
  have : ∀ n i, envFrom (kn ++ [(j, u)]) J n i = envFrom kn (fun i => if Nat.beq j i then u else J i) n i := by
    intro n
    induction n with
    | zero => intro i; rfl
    | succ n ih => intro i; simp only [envFrom, look_app, ih]
  exact this N 0
/-- The loop's counter is forgotten at its end. -/
theorem Scan.count {Q : PC} {id m N r : Nat} {I : St → Prop} (knB : Kn) (i : Nat) (v : Nat → AV) (good : Nat → Bool) (hlf : m < lf)
    (go : ∀ k J s, k < m → good k = true → I s → ∃ J' s', runC callee lf cx Q (envOf N (knB ++ [(i, v k)]) J) s = some (.normal, envOf N (knB ++ [(i, v (k + 1))]) J', s') ∧ I s')
    (stop : ∀ k J s, k < m → good k = false → I s → ∃ J' s', runC callee lf cx Q (envOf N (knB ++ [(i, v k)]) J) s = some (.ret, envOf N [(r, .d (.bool false))] J', s'))
    (out : ∀ J s, I s → ∃ J' s', runC callee lf cx Q (envOf N (knB ++ [(i, v m)]) J) s = some (.exit id, envOf N (knB ++ [(i, v m)]) J', s') ∧ I s') :
    Scan callee cx lf (.block id (.loop Q)) N (knB ++ [(i, v 0)]) r knB I ((List.range m).all good) :=
  Scan.loop (fun k => knB ++ [(i, v k)]) knB good hlf go stop fun J s hI => by
    obtain ⟨J', s', h1, h2⟩ := out J s hI
    exact ⟨_, s', by rw [h1, env_drop], h2⟩
/-- The same, each round told at once. -/
theorem Scan.rounds {Q : PC} {id m N r : Nat} {I : St → Prop} (knB : Kn) (i : Nat) (v : Nat → AV) (good : Nat → Bool) (hlf : m < lf)
    (round : ∀ k J s, k < m → I s → ∃ J' s', (good k = false ∧ runC callee lf cx Q (envOf N (knB ++ [(i, v k)]) J) s = some (.ret, envOf N [(r, .d (.bool false))] J', s')) ∨
      (good k = true ∧ runC callee lf cx Q (envOf N (knB ++ [(i, v k)]) J) s = some (.normal, envOf N (knB ++ [(i, v (k + 1))]) J', s') ∧ I s'))
    (out : ∀ J s, I s → ∃ J' s', runC callee lf cx Q (envOf N (knB ++ [(i, v m)]) J) s = some (.exit id, envOf N (knB ++ [(i, v m)]) J', s') ∧ I s') :
    Scan callee cx lf (.block id (.loop Q)) N (knB ++ [(i, v 0)]) r knB I ((List.range m).all good) :=
  Scan.count knB i v good hlf (fun k J s hk hg hI => by
    obtain ⟨J', s', h | h⟩ := round k J s hk hI
    · exact absurd (h.1.symm.trans hg) (by simp)
    · exact ⟨J', s', h.2.1, h.2.2⟩) (fun k J s hk hg hI => by
    obtain ⟨J', s', h | h⟩ := round k J s hk hI
    · exact ⟨J', s', h.2⟩
    · exact absurd (h.1.symm.trans hg) (by simp)) out
/-- A loop that finds the first row that is not passed over. -/
theorem find_loop {Q : PC} {id m N : Nat} {I : St → Prop} (kn knR : Nat → Kn) (knF : Kn) (good : Nat → Bool) (hlf : m < lf)
    (go : ∀ k J s, k < m → good k = true → I s → ∃ J' s', runC callee lf cx Q (envOf N (kn k) J) s = some (.normal, envOf N (kn (k + 1)) J', s') ∧ I s')
    (stop : ∀ k J s, k < m → good k = false → I s → ∃ J' s', runC callee lf cx Q (envOf N (kn k) J) s = some (.ret, envOf N (knR k) J', s'))
    (out : ∀ J s, I s → ∃ J' s', runC callee lf cx Q (envOf N (kn m) J) s = some (.exit id, envOf N knF J', s') ∧ I s') (J : Nat → AV) (s : St) (hI : I s) :
    ∃ J' s', (∃ k, k < m ∧ good k = false ∧ (∀ j, j < k → good j = true) ∧ runC callee lf cx (.block id (.loop Q)) (envOf N (kn 0) J) s = some (.ret, envOf N (knR k) J', s')) ∨
      ((∀ k, k < m → good k = true) ∧ runC callee lf cx (.block id (.loop Q)) (envOf N (kn 0) J) s = some (.normal, envOf N knF J', s') ∧ I s') := by
  rcases scan (callee := callee) (cx := cx) (Q := Q) (id := id) (m := m) (fun k q => (∃ J, q.1 = envOf N (kn k) J) ∧ I q.2) good (fun k q => ∃ J, q.1 = envOf N (knR k) J) (fun q => (∃ J, q.1 = envOf N knF J) ∧ I q.2) hlf
    (fun k q hk hg ⟨⟨J, hq⟩, hi⟩ => by
      obtain ⟨J', s', h1, h2⟩ := go k J q.2 hk hg hi
      exact ⟨(_, s'), by rw [hq]; exact h1, ⟨J', rfl⟩, h2⟩)
    (fun k q hk hg ⟨⟨J, hq⟩, hi⟩ => by
      obtain ⟨J', s', h1⟩ := stop k J q.2 hk hg hi
      exact ⟨(_, s'), by rw [hq]; exact h1, J', rfl⟩)
    (fun q ⟨⟨J, hq⟩, hi⟩ => by
      obtain ⟨J', s', h1, h2⟩ := out J q.2 hi
      exact ⟨(_, s'), by rw [hq]; exact h1, ⟨J', rfl⟩, h2⟩) (e0 := envOf N (kn 0) J) (s0 := s) ⟨⟨J, rfl⟩, hI⟩ with ⟨k, hk, hg, hj, q, h1, J', h2⟩ | ⟨hg, q, h1, ⟨J', h2⟩, h3⟩
  · exact ⟨J', q.2, .inl ⟨k, hk, hg, hj, by rw [h1, h2]⟩⟩
  · exact ⟨J', q.2, .inr ⟨hg, by rw [h1, h2], h3⟩⟩
/-- A box that is made and filled at once leaves the others. -/
theorem bxA_cp {B : List (List AV)} {n m : Nat} {z x c : List AV} (h : BoxAt B n c) (hm : B.length + 0 = m) : BoxAt (setB (appN B [z]) m x) n c :=
  bxA_ne (bxA_app h) (by have := bxA_lt h; omega)
theorem len_cp {B : List (List AV)} {m : Nat} {z x : List AV} : (setB (appN B [z]) m x).length = B.length + 1 := by
  simp [setB, appN_eq]
theorem len_set {B : List (List AV)} {m : Nat} {x : List AV} : (setB B m x).length = B.length := by simp [setB]
end
end Go.Rf
