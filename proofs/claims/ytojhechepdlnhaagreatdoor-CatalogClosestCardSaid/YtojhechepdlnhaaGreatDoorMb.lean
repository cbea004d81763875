/- The interpreter: boxes, slices, maps; the check of an operation and its master lemma. -/
import Derived.Test.YtojhechepdlnhaaGreatDoorMa
import Derived.Deep.AppendSrc
import Derived.Laws.AppendOwn
import Derived.Laws.IdiomCopy
import Derived.Laws.MakeOwn
import Derived.MapKept
import Derived.ChangeKeysEq
namespace Go.Rf
set_option linter.unusedVariables false
set_option linter.unusedSimpArgs false

/-- What stands where nothing that was is turned. -/
structure Same (g : Gh) (st : St) (w : World) (g' : Gh) (st' : St) (w' : World) : Prop where
  os : w'.os = w.os
  tape : w'.tape = w.tape
  output : w'.output = w.output
  size : w.heap.size ≤ w'.heap.size
  blk : ∀ b, b < w.heap.size → w'.heap[b]? = w.heap[b]?
  role : ∀ b, b < w.heap.size → g'.role b = g.role b
  bx : ∀ (i b : Nat), g.bx[i]? = some (some b) → g'.bx[i]? = some (some b)
  tk : ∀ (t : Nat) x, g.tk[t]? = some (some x) → g'.tk[t]? = some (some x)
  mp : ∀ (m r : Nat), g.mp[m]? = some r → g'.mp[m]? = some r

section
variable {g g' : Gh} {st st' : St} {w w' : World}

theorem Same.cell (h : Same g st w g' st' w') {b off : Nat} {v : Value} (hc : cellA w b off = some v) : cellA w' b off = some v := by
  have hlt : b < w.heap.size := World.block_lt_of_cell? w ⟨b, off, none⟩ hc
  have := h.blk b hlt
  simp only [cellA, World.cell?] at hc ⊢
  rw [this]
  exact hc
theorem Same.keeps (h : Same g st w g' st' w') : Keeps g (Safe g st w) w g' (Safe g' st' w') w' where
  bx := h.bx
  tk t b sz used e := ⟨b, sz, used, h.tk _ _ e, .inr ⟨rfl, rfl, rfl, fun cur ty hb => ⟨cur, by rw [h.blk b (Array.getElem?_eq_some_iff.1 hb).1]; exact hb, rfl⟩⟩⟩
  mp := h.mp
  safe b off hs := by
    obtain ⟨h1, h2⟩ := hs
    refine ⟨⟨Nat.lt_of_lt_of_le h1 h.size, ?_⟩, fun v hv => h.cell hv⟩
    rw [h.role b h1]
    rcases h2 with h2 | ⟨t, sz, used, hr, ht, ho⟩
    · exact .inl h2
    · exact .inr ⟨t, sz, used, hr, h.tk _ _ ht, ho⟩
theorem blk_lt {b : Nat} {x : Obj} (h : w.heap[b]? = some x) : b < w.heap.size := (Array.getElem?_eq_some_iff.1 h).1

theorem Same.ext (h : Same g st w g' st' w') {cx : Cx} (hs : SR g st w) (sb : ∀ (i : Nat), i < cx.b → st'.boxes[i]? = st.boxes[i]?) (stk : ∀ (t : Nat), t < cx.t → st'.toks[t]? = st.toks[t]?) (sm : ∀ (m : Nat), m < cx.m → st'.maps[m]? = st.maps[m]?)
    (lenb : st.boxes.length ≤ st'.boxes.length) (lent : st.toks.length ≤ st'.toks.length) (lenm : st.maps.length ≤ st'.maps.length) : Ext cx g st w g' st' w' where
  os := h.os
  tape := h.tape
  output := h.output
  size := h.size
  free b hb hr := ⟨h.blk b hb, h.role b hb⟩
  keeps := h.keeps
  rob i b hi e := by
    refine h.blk b ?_
    have hi2 : i < st.boxes.length := by rw [← hs.lb]; exact (List.getElem?_eq_some_iff.1 e).1
    obtain ⟨cur, ty, hb, _⟩ := hs.box i b _ e (List.getElem?_eq_getElem hi2)
    exact blk_lt hb
  rot t x ht e := by
    obtain ⟨cur, ty, _, hb⟩ := hs.tok t x.1 x.2.1 x.2.2 e
    exact ⟨h.blk _ (blk_lt hb), h.tk _ _ e⟩
  rom m r hm e := by
    have hm2 : m < st.maps.length := by rw [← hs.lm]; exact (List.getElem?_eq_some_iff.1 e).1
    obtain ⟨ents, clock, hb, _⟩ := hs.map m r _ e (List.getElem?_eq_getElem hm2)
    exact h.blk r (blk_lt hb)
  sb := sb
  stk := stk
  sm := sm
  lenb := lenb
  lent := lent
  lenm := lenm

/-- A cell of a zero value. -/
def plainCell : AV → Bool
  | .d x => x.one
  | .nilS => true
  | _ => false
theorem plain_one (n : Nat) : ∀ {cs : List AV}, cs.all plainCell = true → cs.all AV.isOne = true ∧ underL n cs = true
  | [], _ => ⟨rfl, rfl⟩
  | c :: cs, h => by
    simp only [List.all_cons, Bool.and_eq_true] at h
    obtain ⟨h1, h2⟩ := plain_one n h.2
    cases c with
    | d x => cases x <;> simp_all [plainCell, D.one, AV.isOne, underL, AV.under]
    | nilS => simp_all [AV.isOne, underL, AV.under]
    | _ => simp [plainCell] at h

/-- Boxes and tokens that are kept ready. -/
theorem SR.reserve (hs : SR g st w) (rz : List (List AV)) (rt : List (Nat × Nat)) (hz : ∀ (i : Nat) cs, rz[i]? = some cs → cs.all AV.isOne = true ∧ underL (st.boxes.length + i) cs = true) :
    SR { bx := g.bx ++ List.replicate rz.length none, tk := g.tk ++ List.replicate rt.length none, mp := g.mp, role := g.role } { boxes := st.boxes ++ rz, toks := st.toks ++ rt, maps := st.maps } w ∧
    Same g st w { bx := g.bx ++ List.replicate rz.length none, tk := g.tk ++ List.replicate rt.length none, mp := g.mp, role := g.role } { boxes := st.boxes ++ rz, toks := st.toks ++ rt, maps := st.maps } w := by
  have hbx : ∀ (i b : Nat), (g.bx ++ List.replicate rz.length none)[i]? = some (some b) → g.bx[i]? = some (some b) := by
    intro i b h
    rw [List.getElem?_append] at h
    split at h
    · exact h
    · rw [List.getElem?_replicate] at h; split at h <;> simp at h
  have htk : ∀ (t : Nat) x, (g.tk ++ List.replicate rt.length none)[t]? = some (some x) → g.tk[t]? = some (some x) := by
    intro i b h
    rw [List.getElem?_append] at h
    split at h
    · exact h
    · rw [List.getElem?_replicate] at h; split at h <;> simp at h
  have hsame : Same g st w { bx := g.bx ++ List.replicate rz.length none, tk := g.tk ++ List.replicate rt.length none, mp := g.mp, role := g.role } { boxes := st.boxes ++ rz, toks := st.toks ++ rt, maps := st.maps } w := by
    refine ⟨rfl, rfl, rfl, Nat.le_refl _, fun _ _ => rfl, fun _ _ => rfl, fun i b h => ?_, fun t x h => ?_, fun _ _ h => h⟩
    · show (g.bx ++ _)[i]? = _
      rw [List.getElem?_append_left (List.getElem?_eq_some_iff.1 h).1]; exact h
    · show (g.tk ++ _)[t]? = _
      rw [List.getElem?_append_left (List.getElem?_eq_some_iff.1 h).1]; exact h
  refine ⟨?_, hsame⟩
  refine ⟨by simp [hs.lb], by simp [hs.lt], hs.lm, fun i b h => hs.rb i b (hbx i b h), fun t b sz used h => hs.rt t b sz used (htk t _ h), hs.rm, fun i b cs h hc => ?_, fun i cs hc => ?_, fun t b sz used h => ?_, fun m r es h hm => ?_⟩
  · have h0 := hbx i b h
    have hi : i < st.boxes.length := by rw [← hs.lb]; exact (List.getElem?_eq_some_iff.1 h0).1
    have hc2 : st.boxes[i]? = some cs := by
      have hc' : (st.boxes ++ rz)[i]? = some cs := hc
      rw [List.getElem?_append_left hi] at hc'; exact hc'
    obtain ⟨cur, ty, h1, h2, h3⟩ := hs.box i b cs h0 hc2
    exact ⟨cur, ty, h1, h2, fun j c v hj hv => (h3 j c v hj hv).keep hsame.keeps⟩
  · have hc' : (st.boxes ++ rz)[i]? = some cs := hc
    rw [List.getElem?_append] at hc'
    split at hc'
    · exact hs.one i cs hc'
    · rename_i hi
      have := hz _ cs hc'
      rwa [show st.boxes.length + (i - st.boxes.length) = i by omega] at this
  · have h0 := htk t _ h
    obtain ⟨cur, ty, h1, h2⟩ := hs.tok t b sz used h0
    refine ⟨cur, ty, ?_, h2⟩
    show (st.toks ++ rt)[t]? = _
    rw [List.getElem?_append_left (List.getElem?_eq_some_iff.1 h1).1]; exact h1
  · obtain ⟨ents, clock, h1, h2, h3⟩ := hs.map m r es h hm
    exact ⟨ents, clock, h1, h2, fun i k v e hk he => by
      obtain ⟨h4, h5, h6⟩ := h3 i k v e hk he
      exact ⟨h4.keep hsame.keeps.safe, h5.keep hsame.keeps.safe, h6⟩⟩

def setRole (f : Nat → Role) (b : Nat) (r : Role) : Nat → Role := fun x => if x = b then r else f x

theorem alloc_get {o : Obj} {b : Nat} (h : b < w.heap.size) : (w.alloc o).heap[b]? = w.heap[b]? := by
  simp only [World.alloc]
  rw [Array.getElem?_push, if_neg (by omega)]
theorem alloc_new {o : Obj} : (w.alloc o).heap[w.heap.size]? = some o := by
  simp only [World.alloc]
  rw [Array.getElem?_push, if_pos rfl]

/-- A box that was kept ready is made. -/
theorem SR.newBox (hs : SR g st w) {id : Nat} {cs : List AV} {vs : Array Value} {ty : TypeId} (hid : g.bx[id]? = some none) (hcs : st.boxes[id]? = some cs) (hc : CellsR g (Safe g st w) w cs vs.toList) :
    SR { g with bx := g.bx.set id (some w.heap.size), role := setRole g.role w.heap.size (.box id) } st (w.alloc (.cells vs ty)) ∧
    Same g st w { g with bx := g.bx.set id (some w.heap.size), role := setRole g.role w.heap.size (.box id) } st (w.alloc (.cells vs ty)) := by
  have hidl : id < g.bx.length := (List.getElem?_eq_some_iff.1 hid).1
  have hbx : ∀ (i b : Nat), (g.bx.set id (some w.heap.size))[i]? = some (some b) → (i = id ∧ b = w.heap.size) ∨ (i ≠ id ∧ g.bx[i]? = some (some b)) := by
    intro i b h
    rw [List.getElem?_set] at h
    split at h
    · rename_i he
      simp only [Option.some.injEq] at h
      exact .inl ⟨he.symm, h.symm⟩
    · rename_i he
      exact .inr ⟨fun e => he e.symm, h⟩
  have hsame : Same g st w { g with bx := g.bx.set id (some w.heap.size), role := setRole g.role w.heap.size (.box id) } st (w.alloc (.cells vs ty)) := by
    refine ⟨rfl, rfl, rfl, by simp, fun b hb => alloc_get hb, fun b hb => ?_, fun i b h => ?_, fun _ _ h => h, fun _ _ h => h⟩
    · show setRole g.role _ _ b = _
      unfold setRole; rw [if_neg (by omega)]
    · show (g.bx.set id _)[i]? = _
      have hne : i ≠ id := by
        rintro rfl
        rw [hid] at h; simp at h
      rw [List.getElem?_set_ne (fun e => hne e.symm)]; exact h
  refine ⟨?_, hsame⟩
  have old : ∀ {b : Nat} {x : Obj}, w.heap[b]? = some x → (w.alloc (.cells vs ty)).heap[b]? = some x := fun h => (alloc_get (blk_lt h)).trans h
  refine ⟨by simp [hs.lb], hs.lt, hs.lm, fun i b h => ?_, fun t b sz used h => ?_, fun m r h => ?_, fun i b cs' h hc' => ?_, hs.one, fun t b sz used h => ?_, fun m r es h hm => ?_⟩
  · show setRole g.role _ _ b = _
    unfold setRole
    rcases hbx i b h with ⟨rfl, rfl⟩ | ⟨hne, h0⟩
    · rw [if_pos rfl]
    · have hi : i < st.boxes.length := by rw [← hs.lb]; exact (List.getElem?_eq_some_iff.1 h0).1
      obtain ⟨cur, ty', h1, _⟩ := hs.box i b _ h0 (List.getElem?_eq_getElem hi)
      have := blk_lt h1
      rw [if_neg (by omega)]
      exact hs.rb i b h0
  · obtain ⟨cur, ty', h1, h2⟩ := hs.tok t b sz used h
    have := blk_lt h2
    show setRole g.role _ _ b = _
    unfold setRole
    rw [if_neg (by omega)]
    exact hs.rt t b sz used h
  · have hm2 : m < st.maps.length := by rw [← hs.lm]; exact (List.getElem?_eq_some_iff.1 h).1
    obtain ⟨ents, clock, hb, _⟩ := hs.map m r _ h (List.getElem?_eq_getElem hm2)
    have := blk_lt hb
    show setRole g.role _ _ r = _
    unfold setRole
    rw [if_neg (by omega)]
    exact hs.rm m r h
  · rcases hbx i b h with ⟨rfl, rfl⟩ | ⟨hne, h0⟩
    · rw [hcs] at hc'
      injection hc' with hc'; subst hc'
      refine ⟨vs, ty, alloc_new, by simpa using hc.1.symm, fun j c v hj hv => (hc.2 j c v hj (by simpa using hv)).keep hsame.keeps⟩
    · obtain ⟨cur, ty', h1, h2, h3⟩ := hs.box i b cs' h0 hc'
      exact ⟨cur, ty', old h1, h2, fun j c v hj hv => (h3 j c v hj hv).keep hsame.keeps⟩
  · obtain ⟨cur, ty', h1, h2⟩ := hs.tok t b sz used h
    exact ⟨cur, ty', h1, old h2⟩
  · obtain ⟨ents, clock, h1, h2, h3⟩ := hs.map m r es h hm
    exact ⟨ents, clock, old h1, h2, fun i k v e hk he => by
      obtain ⟨h4, h5, h6⟩ := h3 i k v e hk he
      exact ⟨h4.keep hsame.keeps.safe, h5.keep hsame.keeps.safe, h6⟩⟩

/-- A token that was kept ready is made. -/
theorem SR.newTok (hs : SR g st w) {t sz used : Nat} {vs : Array Value} {ty : TypeId} (ht : g.tk[t]? = some none) (hu : st.toks[t]? = some (used, sz)) :
    SR { g with tk := g.tk.set t (some (w.heap.size, sz, used)), role := setRole g.role w.heap.size (.tok t) } st (w.alloc (.cells vs ty)) ∧
    Same g st w { g with tk := g.tk.set t (some (w.heap.size, sz, used)), role := setRole g.role w.heap.size (.tok t) } st (w.alloc (.cells vs ty)) := by
  have htl : t < g.tk.length := (List.getElem?_eq_some_iff.1 ht).1
  have htk : ∀ (i : Nat) x, (g.tk.set t (some (w.heap.size, sz, used)))[i]? = some (some x) → (i = t ∧ x = (w.heap.size, sz, used)) ∨ (i ≠ t ∧ g.tk[i]? = some (some x)) := by
    intro i b h
    rw [List.getElem?_set] at h
    split at h
    · rename_i he
      simp only [Option.some.injEq] at h
      exact .inl ⟨he.symm, h.symm⟩
    · rename_i he
      exact .inr ⟨fun e => he e.symm, h⟩
  have hsame : Same g st w { g with tk := g.tk.set t (some (w.heap.size, sz, used)), role := setRole g.role w.heap.size (.tok t) } st (w.alloc (.cells vs ty)) := by
    refine ⟨rfl, rfl, rfl, by simp, fun b hb => alloc_get hb, fun b hb => ?_, fun _ _ h => h, fun i x h => ?_, fun _ _ h => h⟩
    · show setRole g.role _ _ b = _
      unfold setRole; rw [if_neg (by omega)]
    · show (g.tk.set t _)[i]? = _
      have hne : i ≠ t := by
        rintro rfl
        rw [ht] at h; simp at h
      rw [List.getElem?_set_ne (fun e => hne e.symm)]; exact h
  refine ⟨?_, hsame⟩
  have old : ∀ {b : Nat} {x : Obj}, w.heap[b]? = some x → (w.alloc (.cells vs ty)).heap[b]? = some x := fun h => (alloc_get (blk_lt h)).trans h
  refine ⟨hs.lb, by simp [hs.lt], hs.lm, fun i b h => ?_, fun i b sz' us' h => ?_, fun m r h => ?_, fun i b cs' h hc' => ?_, hs.one, fun i b sz' us' h => ?_, fun m r es h hm => ?_⟩
  · have hi : i < st.boxes.length := by rw [← hs.lb]; exact (List.getElem?_eq_some_iff.1 h).1
    obtain ⟨cur, ty', h1, _⟩ := hs.box i b _ h (List.getElem?_eq_getElem hi)
    have := blk_lt h1
    show setRole g.role _ _ b = _
    unfold setRole
    rw [if_neg (by omega)]
    exact hs.rb i b h
  · show setRole g.role _ _ b = _
    unfold setRole
    rcases htk i _ h with ⟨rfl, he⟩ | ⟨hne, h0⟩
    · injection he with he1 he2
      subst he1
      rw [if_pos rfl]
    · obtain ⟨cur, ty', h1, h2⟩ := hs.tok i b sz' us' h0
      have := blk_lt h2
      rw [if_neg (by omega)]
      exact hs.rt i b sz' us' h0
  · have hm2 : m < st.maps.length := by rw [← hs.lm]; exact (List.getElem?_eq_some_iff.1 h).1
    obtain ⟨ents, clock, hb, _⟩ := hs.map m r _ h (List.getElem?_eq_getElem hm2)
    have := blk_lt hb
    show setRole g.role _ _ r = _
    unfold setRole
    rw [if_neg (by omega)]
    exact hs.rm m r h
  · obtain ⟨cur, ty', h1, h2, h3⟩ := hs.box i b cs' h hc'
    exact ⟨cur, ty', old h1, h2, fun j c v hj hv => (h3 j c v hj hv).keep hsame.keeps⟩
  · rcases htk i _ h with ⟨rfl, he⟩ | ⟨hne, h0⟩
    · simp only [Prod.mk.injEq] at he
      obtain ⟨rfl, rfl, rfl⟩ := he
      exact ⟨vs, ty, hu, alloc_new⟩
    · obtain ⟨cur, ty', h1, h2⟩ := hs.tok i b sz' us' h0
      exact ⟨cur, ty', h1, old h2⟩
  · obtain ⟨ents, clock, h1, h2, h3⟩ := hs.map m r es h hm
    exact ⟨ents, clock, old h1, h2, fun i k v e hk he => by
      obtain ⟨h4, h5, h6⟩ := h3 i k v e hk he
      exact ⟨h4.keep hsame.keeps.safe, h5.keep hsame.keeps.safe, h6⟩⟩

/-- A map is made. -/
theorem SR.newMap (hs : SR g st w) :
    SR { g with mp := g.mp ++ [w.heap.size], role := setRole g.role w.heap.size (.map st.maps.length) } { st with maps := st.maps ++ [[]] } (w.alloc (.map #[] 0)) ∧
    Same g st w { g with mp := g.mp ++ [w.heap.size], role := setRole g.role w.heap.size (.map st.maps.length) } { st with maps := st.maps ++ [[]] } (w.alloc (.map #[] 0)) := by
  have hmp : ∀ (i r : Nat), (g.mp ++ [w.heap.size])[i]? = some r → (i = st.maps.length ∧ r = w.heap.size) ∨ (g.mp[i]? = some r) := by
    intro i r h
    rw [List.getElem?_append] at h
    split at h
    · exact .inr h
    · rename_i hi
      rw [hs.lm] at h hi
      match hk : i - st.maps.length with
      | 0 => rw [hk] at h; simp at h; exact .inl ⟨by omega, h.symm⟩
      | k + 1 => rw [hk] at h; simp at h
  have hsame : Same g st w { g with mp := g.mp ++ [w.heap.size], role := setRole g.role w.heap.size (.map st.maps.length) } { st with maps := st.maps ++ [[]] } (w.alloc (.map #[] 0)) := by
    refine ⟨rfl, rfl, rfl, by simp, fun b hb => alloc_get hb, fun b hb => ?_, fun _ _ h => h, fun _ _ h => h, fun m r h => ?_⟩
    · show setRole g.role _ _ b = _
      unfold setRole; rw [if_neg (by omega)]
    · show (g.mp ++ _)[m]? = _
      rw [List.getElem?_append_left (List.getElem?_eq_some_iff.1 h).1]; exact h
  refine ⟨?_, hsame⟩
  have old : ∀ {b : Nat} {x : Obj}, w.heap[b]? = some x → (w.alloc (.map #[] 0)).heap[b]? = some x := fun h => (alloc_get (blk_lt h)).trans h
  refine ⟨hs.lb, hs.lt, by simp [hs.lm], fun i b h => ?_, fun i b sz' us' h => ?_, fun m r h => ?_, fun i b cs' h hc' => ?_, hs.one, fun i b sz' us' h => ?_, fun m r es h hm => ?_⟩
  · have hi : i < st.boxes.length := by rw [← hs.lb]; exact (List.getElem?_eq_some_iff.1 h).1
    obtain ⟨cur, ty', h1, _⟩ := hs.box i b _ h (List.getElem?_eq_getElem hi)
    have := blk_lt h1
    show setRole g.role _ _ b = _
    unfold setRole
    rw [if_neg (by omega)]
    exact hs.rb i b h
  · obtain ⟨cur, ty', h1, h2⟩ := hs.tok i b sz' us' h
    have := blk_lt h2
    show setRole g.role _ _ b = _
    unfold setRole
    rw [if_neg (by omega)]
    exact hs.rt i b sz' us' h
  · show setRole g.role _ _ r = _
    unfold setRole
    rcases hmp m r h with ⟨rfl, rfl⟩ | h0
    · rw [if_pos rfl]
    · have hm2 : m < st.maps.length := by rw [← hs.lm]; exact (List.getElem?_eq_some_iff.1 h0).1
      obtain ⟨ents, clock, hb, _⟩ := hs.map m r _ h0 (List.getElem?_eq_getElem hm2)
      have := blk_lt hb
      rw [if_neg (by omega)]
      exact hs.rm m r h0
  · obtain ⟨cur, ty', h1, h2, h3⟩ := hs.box i b cs' h hc'
    exact ⟨cur, ty', old h1, h2, fun j c v hj hv => (h3 j c v hj hv).keep hsame.keeps⟩
  · obtain ⟨cur, ty', h1, h2⟩ := hs.tok i b sz' us' h
    exact ⟨cur, ty', h1, old h2⟩
  · rcases hmp m r h with ⟨rfl, rfl⟩ | h0
    · have hm' : (st.maps ++ [[]])[st.maps.length]? = some es := hm
      simp at hm'
      subst hm'
      exact ⟨#[], 0, alloc_new, rfl, fun i k v e hk => by simp at hk⟩
    · have hm2 : m < st.maps.length := by rw [← hs.lm]; exact (List.getElem?_eq_some_iff.1 h0).1
      have hm' : (st.maps ++ [[]])[m]? = some es := hm
      rw [List.getElem?_append_left hm2] at hm'
      obtain ⟨ents, clock, h1, h2, h3⟩ := hs.map m r es h0 hm'
      exact ⟨ents, clock, old h1, h2, fun i k v e hk he => by
        obtain ⟨h4, h5, h6⟩ := h3 i k v e hk he
        exact ⟨h4.keep hsame.keeps.safe, h5.keep hsame.keeps.safe, h6⟩⟩
theorem Same.trans {g1 g2 g3 : Gh} {s1 s2 s3 : St} {w1 w2 w3 : World} (h : Same g1 s1 w1 g2 s2 w2) (k : Same g2 s2 w2 g3 s3 w3) : Same g1 s1 w1 g3 s3 w3 where
  os := k.os.trans h.os
  tape := k.tape.trans h.tape
  output := k.output.trans h.output
  size := Nat.le_trans h.size k.size
  blk b hb := (k.blk b (Nat.lt_of_lt_of_le hb h.size)).trans (h.blk b hb)
  role b hb := (k.role b (Nat.lt_of_lt_of_le hb h.size)).trans (h.role b hb)
  bx i b e := k.bx i b (h.bx i b e)
  tk t x e := k.tk t x (h.tk t x e)
  mp m r e := k.mp m r (h.mp m r e)

/-- A new box behind the others. -/
theorem SR.pushBox (hs : SR g st w) {cs : List AV} {vs : Array Value} {ty : TypeId} (h1 : cs.all AV.isOne = true) (h2 : underL st.boxes.length cs = true) (hc : CellsR g (Safe g st w) w cs vs.toList) :
    ∃ g', SR g' { st with boxes := st.boxes ++ [cs] } (w.alloc (.cells vs ty)) ∧ Same g st w g' { st with boxes := st.boxes ++ [cs] } (w.alloc (.cells vs ty)) ∧ g'.bx[st.boxes.length]? = some (some w.heap.size) ∧ (∀ (i : Nat), i < g.bx.length → g'.bx[i]? = g.bx[i]?) ∧ g'.tk = g.tk := by
  obtain ⟨hr, hsame⟩ := hs.reserve [cs] [] (fun i c hi => by
    match i with
    | 0 => simp at hi; subst hi; exact ⟨h1, h2⟩
    | i + 1 => simp at hi)
  have hst : ({ boxes := st.boxes ++ [cs], toks := st.toks ++ [], maps := st.maps } : St) = { st with boxes := st.boxes ++ [cs] } := by simp
  rw [hst] at hr hsame
  obtain ⟨hn, hs2⟩ := SR.newBox hr (id := st.boxes.length) (cs := cs) (vs := vs) (ty := ty)
    (by show (g.bx ++ _)[st.boxes.length]? = _; rw [List.getElem?_append_right (by rw [hs.lb]; exact Nat.le_refl _)]; simp [hs.lb])
    (by simp) (hc.keep hsame.keeps)
  refine ⟨_, hn, hsame.trans hs2, ?_, fun i hi => ?_, by simp⟩
  · show ((g.bx ++ _).set _ _)[_]? = _
    rw [List.getElem?_set_self (by simp [hs.lb])]
  · show ((g.bx ++ _).set _ _)[_]? = _
    rw [List.getElem?_set_ne (by rw [← hs.lb]; omega), List.getElem?_append_left hi]
end
end Go.Rf

namespace Go.Rf
set_option linter.unusedVariables false
set_option linter.unusedSimpArgs false

structure CxOk (cx : Cx) (st : St) : Prop where
  b : cx.b ≤ st.boxes.length
  t : cx.t ≤ st.toks.length
  m : cx.m ≤ st.maps.length

section
variable {P : Program} {cx : Cx} {kb kt : Option Nat} {g : Gh} {st : St} {w : World} {o : Oper} {a : Act} {env : Env} {bb tb : Nat} {v : AV} {st' : St}

theorem Sim.new {g' : Gh} {w' : World} {u : Value} (hs : SR g st w) (hr : (execOp a.eval o).run P w = .ok (.value u) w') (hs' : SR g' st' w') (hsame : Same g st w g' st' w') (hv : VR g' (Safe g' st' w') w' v u)
    (sb : ∀ (i : Nat), i < cx.b → st'.boxes[i]? = st.boxes[i]?) (stk : ∀ (t : Nat), t < cx.t → st'.toks[t]? = st.toks[t]?) (sm : ∀ (m : Nat), m < cx.m → st'.maps[m]? = st.maps[m]?)
    (lenb : st.boxes.length ≤ st'.boxes.length) (lent : st.toks.length ≤ st'.toks.length) (lenm : st.maps.length ≤ st'.maps.length) (hr2 : Rsv kb kt g st g' st') : Sim P cx kb kt g st w o a v st' :=
  ⟨g', u, w', _, hr, .inl rfl, hv, hs', hsame.ext hs sb stk sm lenb lent lenm, hr2⟩

theorem push_get {α : Type} {l : List α} {x : α} {n i : Nat} (hn : n ≤ l.length) (hi : i < n) : (l ++ [x])[i]? = l[i]? := List.getElem?_append_left (by omega)

theorem sim_alloc (hs : SR g st w) {j : Nat} {e : TypeId} {zero : List AV} (ho : o.op = .alloc e) (hz : ckZero P e zero = true)
    (h1 : g.bx[bb + j]? = some none) (h2 : st.boxes[bb + j]? = some zero)
    (h : x_alloc j cx bb tb env st = some (.val v st')) : Sim P cx (some (bb + j)) kt g st w o a v st' := by
  simp only [x_alloc, Option.some.injEq, R.val.injEq] at h
  obtain ⟨rfl, rfl⟩ := h
  obtain ⟨z, hzr, hzc⟩ := ckZero_ok (w := w) hz
  obtain ⟨hn, hsame⟩ := hs.newBox (ty := e) h1 h2 (hzc g (Safe g st w) w)
  refine Sim.new hs (u := .pointer (some ⟨w.heap.size, 0, none⟩)) ?_ hn hsame (.ptr _ _ w.heap.size ?_) (fun _ _ => rfl) (fun _ _ => rfl) (fun _ _ => rfl) (Nat.le_refl _) (Nat.le_refl _) (Nat.le_refl _)
    ⟨fun i hi hne => ⟨(List.getElem?_set_ne (fun e => hne (by rw [e]))).trans hi, rfl⟩, fun i hi _ => ⟨hi, rfl⟩⟩
  · simp only [execOp, ho, Instr.alloc, Sem.run_bind, hzr, Result.andThen_ok, newVar, newRow, run_newObj, Sem.run_pure]
    rfl
  · show (g.bx.set _ _)[_]? = _
    rw [List.getElem?_set_self (List.getElem?_eq_some_iff.1 h1).1]

theorem sim_box (hs : SR g st w) (he : ER g (Safe g st w) w env a.tmps) (hcx : CxOk cx st) {x : PO} {y : Operand} {e : TypeId} (ho : o.op = .box e y) (hx : ckPO x y = true)
    (h : x_box x cx bb tb env st = some (.val v st')) : Sim P cx kb kt g st w o a v st' := by
  unfold x_box at h
  simp only at h
  split at h
  · rename_i hc
    simp only [Bool.and_eq_true] at hc
    simp only [Option.some.injEq, R.val.injEq] at h
    obtain ⟨rfl, rfl⟩ := h
    have hv := (he.ev hx).cells hc.1
    obtain ⟨g', hn, hsame, hg, hg2, hg3⟩ := hs.pushBox (ty := e) hc.1 hc.2 hv
    refine Sim.new hs (u := .pointer (some ⟨w.heap.size, 0, none⟩)) ?_ hn hsame (.ptr _ _ w.heap.size hg) (fun i hi => push_get hcx.b hi) (fun _ _ => rfl) (fun _ _ => rfl) (by simp) (Nat.le_refl _) (Nat.le_refl _)
      ⟨fun i hi _ => by
        have hl := (List.getElem?_eq_some_iff.1 hi).1
        exact ⟨(hg2 i hl).trans hi, push_get (Nat.le_refl _) (by rw [← hs.lb]; exact hl)⟩, fun i hi _ => ⟨by rw [hg3]; exact hi, rfl⟩⟩
    simp only [execOp, ho, Instr.box, Sem.run_bind, newVar, newRow, run_newObj, Result.andThen_ok, Sem.run_pure]
    rfl
  · exact absurd h (by simp)

theorem sim_mkM (hs : SR g st w) (hcx : CxOk cx st) {t : TypeId} (ho : o.op = .makeMap t none)
    (h : x_mkM cx bb tb env st = some (.val v st')) : Sim P cx kb kt g st w o a v st' := by
  simp only [x_mkM, Option.some.injEq, R.val.injEq] at h
  obtain ⟨rfl, rfl⟩ := h
  obtain ⟨hn, hsame⟩ := hs.newMap
  refine Sim.new hs (u := .map (some w.heap.size)) ?_ hn hsame (.map _ w.heap.size ?_) (fun _ _ => rfl) (fun _ _ => rfl) (fun i hi => push_get hcx.m hi) (Nat.le_refl _) (Nat.le_refl _) (by simp)
    ⟨fun i hi _ => ⟨hi, rfl⟩, fun i hi _ => ⟨hi, rfl⟩⟩
  · simp only [execOp, ho, Instr.makeMap, Option.map_none, Sem.run_bind, Sem.run_pure, Result.andThen_ok, run_newObj]
    rfl
  · show (g.mp ++ _)[st.maps.length]? = _
    rw [List.getElem?_append_right (by rw [hs.lm]; exact Nat.le_refl _)]
    simp [hs.lm]

/-- A store of cells into a block. -/
theorem run_storeCells_blk {b : Nat} {ty : TypeId} : ∀ (vs : List Value) (off i : Nat) (cur : Array Value) (w : World), w.heap[b]? = some (.cells cur ty (0, 0)) → off + i + vs.length ≤ cur.size → (∀ v ∈ vs, v.oneCell' = true) →
    ∃ w', (storeCells ⟨b, off, none⟩ vs i).run P w = .ok () w' ∧ w'.os = w.os ∧ w'.tape = w.tape ∧ w'.output = w.output ∧ w'.heap.size = w.heap.size ∧ (∀ k, k ≠ b → w'.heap[k]? = w.heap[k]?) ∧
      ∃ cur', w'.heap[b]? = some (.cells cur' ty (0, 0)) ∧ cur'.size = cur.size ∧ cur'.toList = cur.toList.take (off + i) ++ vs ++ cur.toList.drop (off + i + vs.length)
  | [], off, i, cur, w, hb, hl, h1 => ⟨w, by simp [storeCells], rfl, rfl, rfl, rfl, fun _ _ => rfl, cur, hb, rfl, by simp⟩
  | u :: vs, off, i, cur, w, hb, hl, h1 => by
    simp only [List.length_cons] at hl
    have hi : off + i < cur.size := by omega
    have hcell : w.cell? ⟨b, off + i, none⟩ = some cur[off + i] := by rw [cell_of_blk hb]; exact Array.getElem?_eq_getElem hi
    have hfr : w.frozen? ⟨b, off + i, none⟩ = false := by simp [World.frozen?, hb]
    have hone : u.oneCell' = true := h1 u (List.mem_cons_self ..)
    have hb2 : (w.setCell ⟨b, off + i, none⟩ u).heap[b]? = some (.cells (cur.setIfInBounds (off + i) u) ty (0, 0)) := by
      simp [World.setCell, Array.getElem?_modify, hb]
    obtain ⟨w', h2, h3, h4, h5, h6, h7, cur', h8, h9, h10⟩ := run_storeCells_blk vs off (i + 1) (cur.setIfInBounds (off + i) u) (w.setCell ⟨b, off + i, none⟩ u) hb2 (by simp; omega) (fun v hv => h1 v (List.mem_cons_of_mem _ hv))
    refine ⟨w', ?_, h3, h4, h5, by rw [h6]; simp, fun k hk => ?_, cur', h8, by rw [h9]; simp, ?_⟩
    · simp only [storeCells, Sem.run_bind, add_none]
      rw [run_store P w _ u .plain hone]
      simp only [hcell, hfr, Bool.false_eq_true, if_false, Result.andThen_ok]
      exact h2
    · rw [h7 k hk]
      simp [World.setCell, Array.getElem?_modify, Ne.symm hk]
    · rw [h10, Array.toList_setIfInBounds]
      rw [show off + (i + 1) = off + i + 1 by omega, List.take_succ_eq_append_getElem (by simp; omega), List.take_set_of_le (Nat.le_refl _), List.getElem_set_self, List.drop_set_of_lt (by omega)]
      simp only [List.length_cons, List.append_assoc, List.cons_append, List.nil_append]
      rw [show off + i + 1 + vs.length = off + i + (vs.length + 1) by omega]
theorem blk_of_box (hs : SR g st w) {id b : Nat} (h : g.bx[id]? = some (some b)) : ∃ cs cur ty, st.boxes[id]? = some cs ∧ w.heap[b]? = some (.cells cur ty (0, 0)) ∧ cur.size = cs.length := by
  have hi : id < st.boxes.length := by rw [← hs.lb]; exact (List.getElem?_eq_some_iff.1 h).1
  obtain ⟨cur, ty, h1, h2, _⟩ := hs.box id b _ h (List.getElem?_eq_getElem hi)
  exact ⟨_, cur, ty, List.getElem?_eq_getElem hi, h1, h2⟩

/-- A box's cells are turned: nothing else is. -/
theorem box_store (hs : SR g st w) (hcx : CxOk cx st) {id b : Nat} {cs cs' : List AV} {cur' : Array Value} {ty : TypeId} {w' : World} (hid : g.bx[id]? = some (some b)) (hcs : st.boxes[id]? = some cs) (hge : cx.b ≤ id)
    (h3 : w'.os = w.os) (h4 : w'.tape = w.tape) (h5 : w'.output = w.output) (h6 : w'.heap.size = w.heap.size) (h7 : ∀ k, k ≠ b → w'.heap[k]? = w.heap[k]?)
    (h8 : w'.heap[b]? = some (.cells cur' ty (0, 0))) (hc : CellsR g (Safe g st w) w cs' cur'.toList) (h1 : cs'.all AV.isOne = true) (h2 : underL id cs' = true) :
    SR g { st with boxes := st.boxes.set id cs' } w' ∧ Ext cx g st w g { st with boxes := st.boxes.set id cs' } w' := by
  have hrole := hs.rb id b hid
  have hidl : id < st.boxes.length := (List.getElem?_eq_some_iff.1 hcs).1
  have hkeeps : Keeps g (Safe g st w) w g (Safe g { st with boxes := st.boxes.set id cs' } w') w' := by
    refine ⟨fun _ _ h => h, fun t k sz used ht => ⟨k, sz, used, ht, .inr ⟨rfl, rfl, rfl, fun cur ty' hb => ?_⟩⟩, fun _ _ h => h, fun k off hsafe => ?_⟩
    rotate_left
    · obtain ⟨hk, hr⟩ := hsafe
      have hne : k ≠ b := by
        rintro rfl
        rw [hrole] at hr
        rcases hr with hr | ⟨_, _, _, hr, _⟩ <;> exact absurd hr (by simp)
      refine ⟨⟨by rw [h6]; exact hk, hr⟩, fun v hv => ?_⟩
      simp only [cellA, World.cell?] at hv ⊢
      rw [h7 k hne]; exact hv
    · have hne : k ≠ b := by
        rintro rfl
        have := hs.rt t k sz used ht
        rw [hrole] at this; simp at this
      exact ⟨cur, by rw [h7 k hne]; exact hb, rfl⟩
  refine ⟨⟨by simp [hs.lb], hs.lt, hs.lm, hs.rb, hs.rt, hs.rm, fun i k c hi hk => ?_, fun i c hi => ?_, fun t k sz used ht => ?_, fun m r es hm hes => ?_⟩, ⟨h3, h4, h5, by rw [h6]; exact Nat.le_refl _, fun k hk hf => ⟨?_, rfl⟩, hkeeps, fun i k hi hk => ?_, fun t x ht hk => ⟨?_, hk⟩, fun m r hm hr => ?_, fun i hi => ?_, fun _ _ => rfl, fun _ _ => rfl, by simp, Nat.le_refl _, Nat.le_refl _⟩⟩
  · have hk' : (st.boxes.set id cs')[i]? = some c := hk
    by_cases hii : i = id
    · subst hii
      rw [hid] at hi
      simp only [Option.some.injEq] at hi
      subst hi
      rw [List.getElem?_set_self hidl] at hk'
      injection hk' with hk'; subst hk'
      exact ⟨cur', ty, h8, by simpa using hc.1.symm, fun j c v hj hv => (hc.2 j c v hj (by simpa using hv)).keep hkeeps⟩
    · rw [List.getElem?_set_ne (fun e => hii e.symm)] at hk'
      obtain ⟨cur, ty', e1, e2, e3⟩ := hs.box i k c hi hk'
      have hne : k ≠ b := by
        rintro rfl
        have := hs.rb i k hi
        rw [hrole] at this
        injection this with this
        exact hii this.symm
      exact ⟨cur, ty', by rw [h7 k hne]; exact e1, e2, fun j c v hj hv => (e3 j c v hj hv).keep hkeeps⟩
  · have hi' : (st.boxes.set id cs')[i]? = some c := hi
    by_cases hii : i = id
    · subst hii
      rw [List.getElem?_set_self hidl] at hi'
      injection hi' with hi'; subst hi'
      exact ⟨h1, h2⟩
    · rw [List.getElem?_set_ne (fun e => hii e.symm)] at hi'
      exact hs.one i c hi'
  · obtain ⟨cur, ty', e1, e2⟩ := hs.tok t k sz used ht
    have hne : k ≠ b := by
      rintro rfl
      have := hs.rt t k sz used ht
      rw [hrole] at this; simp at this
    exact ⟨cur, ty', e1, by rw [h7 k hne]; exact e2⟩
  · obtain ⟨ents, clock, e1, e2, e3⟩ := hs.map m r es hm hes
    have hne : r ≠ b := by
      rintro rfl
      have := hs.rm m r hm
      rw [hrole] at this; simp at this
    exact ⟨ents, clock, by rw [h7 r hne]; exact e1, e2, fun i k v e hk he => by
      obtain ⟨e4, e5, e6⟩ := e3 i k v e hk he
      exact ⟨e4.keep hkeeps.safe, e5.keep hkeeps.safe, e6⟩⟩
  · refine h7 k ?_
    rintro rfl
    rw [hrole] at hf; simp [Role.idle] at hf
  · refine h7 k ?_
    rintro rfl
    have := hs.rb i k hk
    rw [hrole] at this
    injection this with this
    omega
  · refine h7 _ ?_
    intro he
    have := hs.rt t x.1 x.2.1 x.2.2 hk
    rw [he, hrole] at this; simp at this
  · refine h7 r ?_
    rintro rfl
    have := hs.rm m r hr
    rw [hrole] at this; simp at this
  · exact List.getElem?_set_ne (by omega)

theorem sim_store (hs : SR g st w) (he : ER g (Safe g st w) w env a.tmps) (hcx : CxOk cx st) {n : Nat} {x y : PO} {x' y' : Operand} {t : TypeId} (ho : o.op = .store t x' y') (hx : ckPO x x' = true) (hy : ckPO y y' = true)
    (hn : sizeOfT P t = some n) (h : x_store n x y cx bb tb env st = some (.val v st')) : Sim P cx kb kt g st w o a v st' := by
  unfold x_store at h
  have hxv := he.ev hx
  have hyv := he.ev hy
  split at h
  · rename_i id off e1
    split at h
    · rename_i cs hcs
      simp only at h
      split at h
      · rename_i hc
        obtain ⟨c1, c2, c3, c4, c5⟩ := hc
        simp only [Option.some.injEq, R.val.injEq] at h
        obtain ⟨rfl, rfl⟩ := h
        rw [e1] at hxv
        generalize hu : a.eval x' = u at hxv
        cases hxv with
        | ptr _ _ b hb =>
          have hcv := hyv.cells c4
          obtain ⟨cur, ty, g1, g2, g3⟩ := hs.box id b cs hb hcs
          have hsz : (a.eval y').cells.size = n := by have := hcv.1; rw [c1] at this; simpa using this.symm
          obtain ⟨w', r1, r2, r3, r4, r5, r6, cur', r7, r8, r9⟩ := run_storeCells_blk (P := P) (a.eval y').cells.toList off 0 cur w g1 (by simp; omega) (hcv.one c4)
          have hcur : CellsR g (Safe g st w) w cs cur.toList := ⟨by simpa using g2.symm, fun j c v hj hv => g3 j c v hj (by simpa using hv)⟩
          have hnew : CellsR g (Safe g st w) w (cs.take off ++ (y.ev env).cells ++ cs.drop (off + n)) cur'.toList := by
            rw [r9]
            have := ((hcur.take off).append hcv).append (hcur.drop (off + n))
            simpa [hsz] using this
          have hall : (cs.take off ++ (y.ev env).cells ++ cs.drop (off + n)).all AV.isOne = true := by
            have h0 := (hs.one id cs hcs).1
            rw [List.all_eq_true] at h0 c4 ⊢
            intro c hc
            rcases List.mem_append.1 hc with hc | hc
            · rcases List.mem_append.1 hc with hc | hc
              · exact h0 c (List.mem_of_mem_take hc)
              · exact c4 c hc
            · exact h0 c (List.mem_of_mem_drop hc)
          have hund : underL id (cs.take off ++ (y.ev env).cells ++ cs.drop (off + n)) = true := by
            have h0 := (hs.one id cs hcs).2
            have app : ∀ (l m : List AV), underL id (l ++ m) = (underL id l && underL id m) := by
              intro l m
              induction l with
              | nil => simp [underL]
              | cons c l ih => simp [underL, ih, Bool.and_assoc]
            have tk : ∀ (l : List AV) k, underL id l = true → underL id (l.take k) = true ∧ underL id (l.drop k) = true := by
              intro l k hl
              rw [← List.take_append_drop k l, app, Bool.and_eq_true] at hl
              exact hl
            rw [app, app, (tk cs off h0).1, c5, (tk cs (off + n) h0).2]
            rfl
          obtain ⟨s1, s2⟩ := box_store hs hcx hb hcs c3 r2 r3 r4 r5 r6 r7 hnew hall hund
          refine ⟨g, undef, w', .skip, ?_, .inr ⟨rfl, rfl⟩, VR.undef, s1, s2, ⟨fun i hi _ => ⟨hi, List.getElem?_set_ne (fun e => by subst e; rw [hb] at hi; simp at hi)⟩, fun i hi _ => ⟨hi, rfl⟩⟩⟩
          have hsz2 : ¬ ((a.eval y').cells.size ≠ n) := by simp [hsz]
          simp only [execOp, ho, hu, Instr.storeAt, Instr.sureAddr, Sem.run_bind, Sem.run_pure, Result.andThen_ok, storeVar, run_sizeOf hn, Sem.run_ite]
          rw [if_neg hsz2]
          simp only [Sem.run_pure, Result.andThen_ok, r1]
      · exact absurd h (by simp)
    · exact absurd h (by simp)
  · exact absurd h (by simp)
end
end Go.Rf

namespace Go.Rf
set_option linter.unusedVariables false
set_option linter.unusedSimpArgs false

/-- Rows, one behind the other. -/
def FlatR (S : Nat → Nat → Prop) (w : World) (sz : Nat) (rows : List (List D)) (vals : List Value) : Prop :=
  (∀ r, r ∈ rows → r.length = sz) ∧ ∀ (j : Nat) r (i : Nat) c, rows[j]? = some r → r[i]? = some c → ∃ v, vals[j * sz + i]? = some v ∧ DR S w c v ∧ c.one = true

theorem FlatR.keep {S S' : Nat → Nat → Prop} {w w' : World} (hs : ∀ (b off : Nat), S b off → S' b off ∧ ∀ v, cellA w b off = some v → cellA w' b off = some v) {sz : Nat} {rows : List (List D)} {vals : List Value} (h : FlatR S w sz rows vals) : FlatR S' w' sz rows vals :=
  ⟨h.1, fun j r i c hj hi => by obtain ⟨v, h1, h2, h3⟩ := h.2 j r i c hj hi; exact ⟨v, h1, h2.keep hs, h3⟩⟩

theorem at_lt {j i n sz : Nat} (hj : j < n) (hi : i < sz) : j * sz + i < n * sz := by
  have h : (j + 1) * sz ≤ n * sz := Nat.mul_le_mul_right _ hj
  rw [Nat.succ_mul] at h
  omega

theorem FlatR.append {S : Nat → Nat → Prop} {w : World} {sz : Nat} {a b : List (List D)} {x y : List Value} (h : FlatR S w sz a x) (hx : x.length = a.length * sz) (k : FlatR S w sz b y) : FlatR S w sz (a ++ b) (x ++ y) := by
  refine ⟨fun r hr => (List.mem_append.1 hr).elim (h.1 r) (k.1 r), fun j r i c hj hi => ?_⟩
  rw [List.getElem?_append] at hj
  split at hj
  · rename_i hlt
    obtain ⟨v, h1, h2⟩ := h.2 j r i c hj hi
    exact ⟨v, by rw [List.getElem?_append_left (List.getElem?_eq_some_iff.1 h1).1]; exact h1, h2⟩
  · rename_i hge
    obtain ⟨v, h1, h2⟩ := k.2 _ r i c hj hi
    refine ⟨v, ?_, h2⟩
    have e : j * sz + i = x.length + ((j - a.length) * sz + i) := by
      rw [hx]
      have : j = a.length + (j - a.length) := by omega
      conv => lhs; rw [this, Nat.add_mul]
      omega
    rw [e, List.getElem?_append_right (by omega), Nat.add_sub_cancel_left]
    exact h1
theorem FlatR.more {S : Nat → Nat → Prop} {w : World} {sz : Nat} {a : List (List D)} {x : List Value} (h : FlatR S w sz a x) (y : List Value) : FlatR S w sz a (x ++ y) :=
  ⟨h.1, fun j r i c hj hi => by
    obtain ⟨v, h1, h2⟩ := h.2 j r i c hj hi
    exact ⟨v, by rw [List.getElem?_append_left (List.getElem?_eq_some_iff.1 h1).1]; exact h1, h2⟩⟩
theorem FlatR.nil {S : Nat → Nat → Prop} {w : World} {sz : Nat} {x : List Value} : FlatR S w sz [] x := ⟨fun r h => by simp at h, fun j r i c h => by simp at h⟩

/-- A slice's rows, as cells. -/
theorem DR.flat {S : Nat → Nat → Prop} {w : World} {rows : List (List D)} {ad : Option Addr} {len cap sz : Nat} (h : DR S w (.sl rows) (.slice ad len cap)) (hsz : ∀ r, r ∈ rows → r.length = sz) :
    ∃ vals, vals.length = rows.length * sz ∧ FlatR S w sz rows vals ∧ (∀ u ∈ vals, u.oneCell' = true) ∧
      (rows = [] ∨ ∃ b off, ad = some ⟨b, off, none⟩ ∧ ∀ (k : Nat) u, vals[k]? = some u → cellA w b (off + k) = some u) := by
  cases h with
  | sl0 a cap => exact ⟨[], by simp, .nil, by simp, .inl rfl⟩
  | sl rows b off cap sz' vals hcap h1 h2 h3 =>
    rcases Nat.eq_zero_or_pos rows.length with h0 | hpos
    · have : rows = [] := List.length_eq_zero_iff.1 h0
      subst this
      exact ⟨[], by simp, .nil, by simp, .inl rfl⟩
    have hss : sz' = sz := by
      have := h1 rows[0] (List.getElem_mem hpos)
      rw [← this]; exact hsz _ (List.getElem_mem hpos)
    subst hss
    have hget : ∀ (j i : Nat), j < rows.length → i < sz' → ((List.range (rows.length * sz')).map fun k => vals (k / sz') (k % sz'))[j * sz' + i]? = some (vals j i) := by
      intro j i hj hi
      rw [List.getElem?_map, List.getElem?_range (at_lt hj hi)]
      simp only [Option.map_some, Option.some.injEq]
      rw [show j * sz' + i = i + sz' * j by rw [Nat.mul_comm]; omega, Nat.add_mul_div_left _ _ (by omega), Nat.add_mul_mod_self_left, Nat.div_eq_of_lt hi, Nat.mod_eq_of_lt hi]
      simp
    have hk : ∀ k, k < rows.length * sz' → k / sz' < rows.length ∧ k % sz' < sz' := fun k hk => by
      have : 0 < sz' := by rcases Nat.eq_zero_or_pos sz' with h | h; (rw [h] at hk; simp at hk); exact h
      exact ⟨(Nat.div_lt_iff_lt_mul this).2 hk, Nat.mod_lt _ this⟩
    refine ⟨(List.range (rows.length * sz')).map fun k => vals (k / sz') (k % sz'), by simp, ⟨h1, fun j r i c hj hi => ?_⟩, fun u hu => ?_, .inr ⟨b, off, rfl, fun k u hk' => ?_⟩⟩
    · have hjl := (List.getElem?_eq_some_iff.1 hj).1
      have hil := (List.getElem?_eq_some_iff.1 hi).1
      rw [h1 r (List.mem_of_getElem? hj)] at hil
      exact ⟨vals j i, hget j i hjl hil, h3 j r i c hj hi, (h2 j r i c hj hi).2.2⟩
    · obtain ⟨k, hk1, rfl⟩ := List.mem_map.1 hu
      simp only [List.mem_range] at hk1
      obtain ⟨g1, g2⟩ := hk k hk1
      have e1 := List.getElem?_eq_getElem g1
      have g3 : k % sz' < rows[k / sz'].length := by rw [h1 _ (List.getElem_mem g1)]; exact g2
      exact (h3 _ _ _ _ e1 (List.getElem?_eq_getElem g3)).oneCell (h2 _ _ _ _ e1 (List.getElem?_eq_getElem g3)).2.2
    · obtain ⟨hk1, hk2⟩ := List.getElem?_eq_some_iff.1 hk'
      simp only [List.length_map, List.length_range] at hk1
      simp only [List.getElem_map, List.getElem_range] at hk2
      subst hk2
      obtain ⟨g1, g2⟩ := hk k hk1
      have e1 := List.getElem?_eq_getElem g1
      have g3 : k % sz' < rows[k / sz'].length := by rw [h1 _ (List.getElem_mem g1)]; exact g2
      have := (h2 _ _ _ _ e1 (List.getElem?_eq_getElem g3)).1
      rw [show off + k / sz' * sz' + k % sz' = off + k by have := Nat.div_add_mod k sz'; rw [Nat.mul_comm] at this; omega] at this
      exact this

/-- Rows in a block, as a slice. -/
theorem FlatR.slice {S : Nat → Nat → Prop} {w : World} {sz b cap : Nat} {rows : List (List D)} {vals : List Value} (h : FlatR S w sz rows vals) (hcap : rows.length ≤ cap)
    (hc : ∀ (k : Nat) v, k < rows.length * sz → vals[k]? = some v → cellA w b k = some v ∧ S b k) : DR S w (.sl rows) (.slice (some ⟨b, 0, none⟩) rows.length cap) := by
  have key : ∀ (j : Nat) r (i : Nat) c, rows[j]? = some r → r[i]? = some c → ∃ v, vals.getD (j * sz + i) undef = v ∧ cellA w b (j * sz + i) = some v ∧ S b (j * sz + i) ∧ DR S w c v ∧ c.one = true := by
    intro j r i c hj hi
    obtain ⟨v, h1, h2, h3⟩ := h.2 j r i c hj hi
    have hjl := (List.getElem?_eq_some_iff.1 hj).1
    have hil := (List.getElem?_eq_some_iff.1 hi).1
    rw [h.1 r (List.mem_of_getElem? hj)] at hil
    obtain ⟨h4, h5⟩ := hc _ v (at_lt hjl hil) h1
    exact ⟨v, by rw [List.getD_eq_getElem?_getD, h1]; rfl, h4, h5, h2, h3⟩
  refine .sl rows b 0 cap sz (fun j i => vals.getD (j * sz + i) undef) hcap h.1 (fun j r i c hj hi => ?_) (fun j r i c hj hi => ?_)
  · obtain ⟨v, h1, h2, h3, h4, h5⟩ := key j r i c hj hi
    rw [Nat.zero_add, h1]
    exact ⟨h2, h3, h5⟩
  · obtain ⟨v, h1, h2, h3, h4, h5⟩ := key j r i c hj hi
    rw [h1]; exact h4

/-- What is appended. -/
theorem src_ok {P : Program} {S : Nat → Nat → Prop} {w : World} {rows : List (List D)} {u : Value} {ad : Option Addr} {cap sz : Nat} {tx e : TypeId} (hk : P.underlying tx = some (.slice e))
    (h : DR S w (.sl rows) u) (hu : u = .slice ad rows.length cap) (hsz : ∀ r, r ∈ rows → r.length = sz) :
    ∃ vals, Src P sz tx u rows.length vals w ∧ FlatR S w sz rows vals ∧ vals.length = rows.length * sz := by
  subst hu
  obtain ⟨vals, h1, h2, h3, h4⟩ := h.flat hsz
  refine ⟨vals, ?_, h2, h1⟩
  rcases h4 with rfl | ⟨b, off, rfl, h5⟩
  · cases ad with
    | none =>
      have : vals = [] := List.length_eq_zero_iff.1 (by simpa using h1)
      subst this
      exact Src.ofNil w hk cap
    | some a =>
      have : vals = [] := List.length_eq_zero_iff.1 (by simpa using h1)
      subst this
      exact Src.ofSlice w hk a 0 cap [] (by simp) (fun j u hj => by simp at hj) (by simp)
  · exact Src.ofSlice w hk _ _ cap vals h1 (fun j u hj => by rw [add_none]; exact h5 j u hj) h3
end Go.Rf

namespace Go.Rf
set_option linter.unusedVariables false
set_option linter.unusedSimpArgs false

theorem toDs_one : ∀ {cs : List AV} {ds : List D}, toDs cs = some ds → cs.all AV.isOne = true
  | [], _, _ => rfl
  | c :: cs, ds, h => by
    simp only [toDs] at h
    split at h
    · rename_i x xs hx hxs
      simp only [List.all_cons, Bool.and_eq_true]
      refine ⟨?_, toDs_one hxs⟩
      cases c with
      | d y => simp only [AV.toD] at hx; split at hx
               · rename_i ho; cases y <;> simp_all [AV.isOne, D.one]
               · exact absurd hx (by simp)
      | own => rfl
      | nilS => rfl
      | _ => simp [AV.toD] at hx
    · exact absurd h (by simp)

/-- A value as a row. -/
theorem row_ok {g : Gh} {S : Nat → Nat → Prop} {w : World} {x : AV} {u : Value} {r : List D} (hv : VR g S w x u) (h : x.toRow = some r) :
    r.length = u.cells.size ∧ ∀ (i : Nat) c, r[i]? = some c → ∃ v, u.cells.toList[i]? = some v ∧ DR S w c v ∧ c.one = true := by
  have h1 := toDs_one h
  have hc := hv.cells h1
  obtain ⟨h2, h3⟩ := toDs_spec h
  have hl : r.length = u.cells.size := by rw [← h2, hc.1]; simp
  refine ⟨hl, fun i c hi => ?_⟩
  have hil := (List.getElem?_eq_some_iff.1 hi).1
  have e1 : x.cells[i]? = some x.cells[i] := List.getElem?_eq_getElem (by omega)
  obtain ⟨d, hd1, hd2⟩ := h3 i _ e1
  rw [hi] at hd1
  injection hd1 with hd1
  subst hd1
  have e2 : u.cells.toList[i]? = some u.cells.toList[i] := List.getElem?_eq_getElem (by simp; omega)
  obtain ⟨h4, h5⟩ := toD_ok hd2 (hc.2 i _ _ e1 e2)
  exact ⟨_, e2, h4, h5⟩

theorem setRow_ok {g : Gh} {S : Nat → Nat → Prop} {w : World} {esz : Nat} : ∀ (parts : List (Nat × AV)) (vparts : List (Nat × Value)) (rows : List (List D)) (vcells : Array Value) (out : List (List D)),
    FlatR S w esz rows vcells.toList → vcells.size = rows.length * esz → setRow rows parts esz = some out →
    parts.length = vparts.length → (∀ (i : Nat) p q, parts[i]? = some p → vparts[i]? = some q → q.1 = p.1 ∧ VR g S w p.2 q.2) →
    ∃ vout, Instr.fill (fun i => some (i * esz, esz)) vcells vparts = some vout ∧ FlatR S w esz out vout.toList ∧ vout.size = out.length * esz ∧ out.length = rows.length
  | [], [], rows, vcells, out, hc, hs, hf, _, _ => by
    simp only [setRow, Option.some.injEq] at hf
    subst hf
    exact ⟨vcells, rfl, hc, hs, rfl⟩
  | [], q :: qs, _, _, _, _, _, _, hl, _ => by simp at hl
  | p :: ps, [], _, _, _, _, _, _, hl, _ => by simp at hl
  | (k, x) :: ps, (i, v) :: qs, rows, vcells, out, hc, hs, hf, hl, hp => by
    obtain ⟨hpl, hv⟩ := hp 0 _ _ rfl rfl
    simp only at hpl hv
    subst hpl
    simp only [setRow] at hf
    split at hf
    · rename_i r hr
      split at hf
      · rename_i hcond
        obtain ⟨h1, h2⟩ := hcond
        obtain ⟨h3, h4⟩ := row_ok hv hr
        have hin : i * esz + esz ≤ rows.length * esz := by
          have h : (i + 1) * esz ≤ rows.length * esz := Nat.mul_le_mul_right _ h2
          rw [Nat.succ_mul] at h; exact h
        simp only [Instr.fill]
        rw [if_neg (by simp; omega)]
        have hfold : (v.cells.zipIdx.foldl (fun cs (c, j) => cs.setIfInBounds (i * esz + j) c) vcells).toList = vcells.toList.take (i * esz) ++ v.cells.toList ++ vcells.toList.drop (i * esz + esz) := by
          have := foldl_fill (i * esz) v.cells.toList 0 vcells (by simp; omega)
          rw [← Array.foldl_toList]
          simp only [Array.toList_zipIdx]
          simp only [Nat.add_zero, Array.length_toList, ← h3, h1] at this
          exact this
        have hlen : (v.cells.zipIdx.foldl (fun cs (c, j) => cs.setIfInBounds (i * esz + j) c) vcells).size = vcells.size := by
          rw [← Array.length_toList, hfold]; simp; omega
        obtain ⟨vout, g1, g2, g3, g4⟩ := setRow_ok ps qs (rows.set i r) _ out (by
          refine ⟨fun r' hr' => ?_, fun j r' k c hj hk => ?_⟩
          · rcases List.mem_or_eq_of_mem_set hr' with h | h
            · exact hc.1 _ h
            · rw [h]; exact h1
          · rw [hfold]
            have hkl := (List.getElem?_eq_some_iff.1 hk).1
            rw [List.getElem?_set] at hj
            split at hj
            · rename_i hij
              subst hij
              injection hj with hj; subst hj
              obtain ⟨z, h5, h6⟩ := h4 k c hk
              refine ⟨z, ?_, h6⟩
              have hzl := (List.getElem?_eq_some_iff.1 h5).1
              rw [List.getElem?_append_left (by simp at hzl ⊢; omega), List.getElem?_append_right (by simp; omega)]
              rw [← h5]; congr 1; simp; omega
            · rename_i hij
              obtain ⟨z, h5, h6⟩ := hc.2 j r' k c hj hk
              refine ⟨z, ?_, h6⟩
              have hzl := (List.getElem?_eq_some_iff.1 h5).1
              rw [hc.1 r' (List.mem_of_getElem? hj)] at hkl
              rw [Array.length_toList] at hzl
              rcases Nat.lt_or_gt_of_ne hij with hlt | hgt
              · have : i * esz + esz ≤ j * esz := by
                  have h : (i + 1) * esz ≤ j * esz := Nat.mul_le_mul_right _ hlt
                  rw [Nat.succ_mul] at h; exact h
                rw [List.getElem?_append_right (by simp; omega), List.getElem?_drop, ← h5]
                congr 1; simp; omega
              · have : j * esz + k < i * esz := at_lt hgt hkl
                rw [List.append_assoc, List.getElem?_append_left (by simp; omega), List.getElem?_take, if_pos this]
                exact h5) (by rw [hlen, List.length_set]; exact hs) hf (by simpa using hl) (fun j p q hpj hqj => hp (j + 1) p q (by simpa using hpj) (by simpa using hqj))
        exact ⟨vout, g1, g2, g3, by simpa using g4⟩
      · exact absurd hf (by simp)
    · exact absurd hf (by simp)

/-- Parts of a slice. -/
def ckPartsS : List (Nat × PO) → List (Nat × Operand) → Bool
  | [], [] => true
  | (k, x) :: ps, (i, y) :: qs => k == i && ckPO x y && ckPartsS ps qs
  | _, _ => false

section
variable {P : Program} {cx : Cx} {kb kt : Option Nat} {g : Gh} {st : St} {w : World} {o : Oper} {a : Act} {env : Env} {bb tb : Nat} {v : AV} {st' : St}

theorem ckPartsS_ok (he : ER g (Safe g st w) w env a.tmps) : ∀ {ps : List (Nat × PO)} {qs : List (Nat × Operand)}, ckPartsS ps qs = true →
    (ps.map fun (i, x) => (i, x.ev env)).length = (qs.map fun (i, x) => (i, a.eval x)).length ∧
    ∀ (i : Nat) p q, (ps.map fun (i, x) => (i, x.ev env))[i]? = some p → (qs.map fun (i, x) => (i, a.eval x))[i]? = some q → q.1 = p.1 ∧ VR g (Safe g st w) w p.2 q.2
  | [], [], _ => ⟨rfl, fun i p q h => by simp at h⟩
  | [], _ :: _, h => by simp [ckPartsS] at h
  | _ :: _, [], h => by simp [ckPartsS] at h
  | (k, x) :: ps, (j, y) :: qs, h => by
    simp only [ckPartsS, Bool.and_eq_true, beq_iff_eq] at h
    obtain ⟨⟨h1, h2⟩, h3⟩ := h
    obtain ⟨hl, ih⟩ := ckPartsS_ok he h3
    refine ⟨by simpa using hl, fun i p q hp hq => ?_⟩
    cases i with
    | zero => simp at hp hq; subst hp; subst hq; exact ⟨h1.symm, he.ev h2⟩
    | succ i => simp only [List.map_cons, List.getElem?_cons_succ] at hp hq; exact ih i p q hp hq

theorem flat_zero {S : Nat → Nat → Prop} {zero : List D} {z : List Value} (h : ∀ (i : Nat) c v, zero[i]? = some c → z[i]? = some v → DR S w c v) (hl : zero.length = z.length) (h1 : zero.all D.one = true) (n : Nat) (hpos : 0 < z.length) :
    FlatR S w zero.length (List.replicate n zero) ((Array.range (n * z.length)).map fun k => (z.toArray[k % z.length]!)).toList := by
  refine ⟨fun r hr => by rw [List.eq_of_mem_replicate hr], fun j r i c hj hi => ?_⟩
  have hjl := (List.getElem?_eq_some_iff.1 hj).1
  have hr := List.eq_of_mem_replicate (List.mem_of_getElem? hj)
  subst hr
  rw [List.length_replicate] at hjl
  have hil := (List.getElem?_eq_some_iff.1 hi).1
  have e2 : z[i]? = some z[i] := List.getElem?_eq_getElem (by omega)
  refine ⟨z[i], ?_, h i c _ hi e2, ?_⟩
  · rw [Array.toList_map, Array.toList_range, List.getElem?_map, List.getElem?_range (by rw [hl]; exact at_lt hjl (by omega))]
    simp only [Option.map_some, Option.some.injEq]
    rw [hl, show j * z.length + i = i + z.length * j by rw [Nat.mul_comm]; omega, Nat.add_mul_mod_self_left, Nat.mod_eq_of_lt (by omega)]
    simp [hl ▸ hil]
  · rw [List.all_eq_true] at h1
    exact h1 c (List.mem_of_getElem? hi)

theorem sim_bslice (hs : SR g st w) (he : ER g (Safe g st w) w env a.tmps) {j esz len : Nat} {zero : List D} {parts : List (Nat × PO)} {t e : TypeId} {ps : Array (Nat × Operand)} (ho : o.op = .buildSlice t len ps)
    (ht : P.underlying t = some (.slice e)) (hsz : sizeOfT P e = some esz) (hpos : 0 < esz) (hbig : len * esz ≤ 2 ^ 24) (hz : ckZero P e (zero.map .d) = true) (hzl : zero.length = esz) (hz1 : zero.all D.one = true) (hp : ckPartsS parts ps.toList = true)
    (h1 : g.tk[tb + j]? = some none) (h2 : st.toks[tb + j]? = some (len, esz))
    (h : x_bslice j esz len zero parts cx bb tb env st = some (.val v st')) : Sim P cx kb (some (tb + j)) g st w o a v st' := by
  unfold x_bslice at h
  split at h
  · rename_i rows hrows
    simp only [Option.some.injEq, R.val.injEq] at h
    obtain ⟨rfl, rfl⟩ := h
    obtain ⟨z, hzr, hzc⟩ := ckZero_ok (w := w) hz
    have hz2 := hzc g (Safe g st w) w
    have hzsz : z.cells.size = esz := by have := hz2.1; simp only [List.length_map] at this; rw [hzl] at this; simpa using this.symm
    have hzd : ∀ (i : Nat) c v, zero[i]? = some c → z.cells.toList[i]? = some v → DR (Safe g st w) w c v := by
      intro i c v hi hv
      have := hz2.2 i (.d c) v (by simp [hi]) hv
      cases this with
      | d _ _ h => exact h
    have hfl := flat_zero (n := len) hzd (by rw [hzl]; simp [hzsz]) hz1 (by simp; omega)
    simp only [Array.length_toList, hzsz, hzl] at hfl
    obtain ⟨hp1, hp2⟩ := ckPartsS_ok he hp
    obtain ⟨vout, f1, f2, f3, f4⟩ := setRow_ok (g := g) _ _ _ _ _ hfl (by simp) hrows hp1 hp2
    have hlen : rows.length = len := by simpa using f4
    obtain ⟨hn, hsame⟩ := hs.newTok (ty := e) (vs := vout) h1 h2
    have hrole : ∀ (x : Nat → Role), setRole x w.heap.size (.tok (tb + j)) w.heap.size = .tok (tb + j) := fun x => by unfold setRole; rw [if_pos rfl]
    have htk : ({ g with tk := g.tk.set (tb + j) (some (w.heap.size, esz, len)), role := setRole g.role w.heap.size (.tok (tb + j)) } : Gh).tk[tb + j]? = some (some (w.heap.size, esz, len)) := by
      show (g.tk.set _ _)[_]? = _
      rw [List.getElem?_set_self (List.getElem?_eq_some_iff.1 h1).1]
    refine Sim.new hs (u := .slice (some ⟨w.heap.size, 0, none⟩) rows.length rows.length) ?_ hn hsame ?_ (fun _ _ => rfl) (fun _ _ => rfl) (fun _ _ => rfl) (Nat.le_refl _) (Nat.le_refl _) (Nat.le_refl _)
      ⟨fun i hi _ => ⟨hi, rfl⟩, fun i hi hne => ⟨(List.getElem?_set_ne (fun e => hne (by rw [e]))).trans hi, rfl⟩⟩
    · have hps : (ps.map fun (i, x) => (i, a.eval x)).toList = ps.toList.map fun (i, x) => (i, a.eval x) := Array.toList_map ..
      have hb : ¬ (len * esz > 2 ^ 24) := by omega
      simp only [execOp, ho, Instr.buildSlice, Sem.run_bind, underlying, run_program, ht, Sem.run_pure, Result.andThen_ok, run_sizeOf hsz]
      rw [if_neg hb]
      simp only [Sem.run_pure, Result.andThen_ok, Sem.run_ite, Sem.run_bind, hzr]
      rw [hlen]
      split
      · rename_i h0
        have hl0 : len = 0 := by rcases Nat.mul_eq_zero.1 h0 with h | h <;> omega
        subst hl0
        simp only [Nat.zero_mul] at f1
        have hem : ∀ f : Nat → Value, (Array.range 0).map f = #[] := fun f => by simp
        rw [hem] at f1
        simp only [Result.andThen_ok, Nat.zero_mul, hem, hps, f1, Sem.run_bind, newRow, run_newObj, Sem.run_pure]
        rfl
      · simp only [Result.andThen_ok, hps]
        have hfun : ((Array.range (len * esz)).map fun k => z.cells[k % z.cells.size]!) = (Array.range (len * esz)).map fun k => z.cells.toList.toArray[k % esz]! := by
          simp [hzsz]
        rw [hfun, f1]
        simp only [Sem.run_bind, newRow, run_newObj, Sem.run_pure, Result.andThen_ok]
        rfl
    · refine .own (tb + j) rows _ w.heap.size esz len htk (by omega) (f2.keep hsame.keeps.safe |>.slice (Nat.le_refl _) (fun k v hk hv => ?_)) (fun _ => ?_)
      · refine ⟨?_, ?_, .inr ⟨tb + j, esz, len, hrole _, htk, by rw [← hlen]; exact hk⟩⟩
        · rw [cellA, cell_of_blk alloc_new]; simpa using hv
        · simp
      · refine ⟨rows.length, vout, e, rfl, alloc_new, f3, Nat.le_refl _, f2.1⟩
  · exact absurd h (by simp)
end
end Go.Rf

namespace Go.Rf
set_option linter.unusedVariables false
set_option linter.unusedSimpArgs false

section
variable {P : Program} {cx : Cx} {kb kt : Option Nat} {g : Gh} {st : St} {w : World} {o : Oper} {a : Act} {env : Env} {bb tb : Nat} {v : AV} {st' : St}

theorem Same.drew : Same g st w g st w.drew := ⟨rfl, rfl, rfl, Nat.le_refl _, fun _ _ => rfl, fun _ _ => rfl, fun _ _ h => h, fun _ _ h => h, fun _ _ h => h⟩
theorem SR.drew (hs : SR g st w) : SR g st w.drew :=
  ⟨hs.lb, hs.lt, hs.lm, hs.rb, hs.rt, hs.rm, fun i b cs h hc => by
    obtain ⟨cur, ty, h1, h2, h3⟩ := hs.box i b cs h hc
    exact ⟨cur, ty, h1, h2, fun j c v hj hv => (h3 j c v hj hv).keep Same.drew.keeps⟩, hs.one, hs.tok, fun m r es h hm => by
    obtain ⟨ents, clock, h1, h2, h3⟩ := hs.map m r es h hm
    exact ⟨ents, clock, h1, h2, fun i k v e hk he => by
      obtain ⟨h4, h5, h6⟩ := h3 i k v e hk he
      exact ⟨h4.keep Same.drew.keeps.safe, h5.keep Same.drew.keeps.safe, h6⟩⟩⟩

/-- The roles once a token's block is given up. -/
def freed (g : Gh) (t : Nat) (x : Nat) : Role := match g.tk[t]? with
  | some (some (b, _, _)) => if x = b then .free else g.role x
  | _ => g.role x
theorem freed_free {t x : Nat} (h : g.role x = .free) : freed g t x = .free := by
  unfold freed; split
  · split
    · rfl
    · exact h
  · exact h
theorem freed_ne (hs : SR g st w) {t x : Nat} (h : g.role x ≠ .tok t) : freed g t x = g.role x := by
  unfold freed; split
  · rename_i b sz used e
    split
    · rename_i he
      subst he
      exact absurd (hs.rt t _ _ _ e) h
    · rfl
  · rfl
theorem freed_own {t x sz used : Nat} (h : g.tk[t]? = some (some (x, sz, used))) : freed g t x = .free := by
  unfold freed; rw [h]; simp

def moved (g : Gh) (t nb sz used : Nat) : Gh := { g with tk := g.tk.set t (some (nb, sz, used)), role := setRole (freed g t) nb (.tok t) }

theorem tk_lt (hs : SR g st w) {t b sz used : Nat} (h : g.tk[t]? = some (some (b, sz, used))) : b < w.heap.size := by
  obtain ⟨cur, ty, _, h2⟩ := hs.tok t b sz used h
  exact blk_lt h2
theorem bx_lt (hs : SR g st w) {i b : Nat} (h : g.bx[i]? = some (some b)) : b < w.heap.size := by
  have hi : i < st.boxes.length := by rw [← hs.lb]; exact (List.getElem?_eq_some_iff.1 h).1
  obtain ⟨cur, ty', h1, _⟩ := hs.box i b _ h (List.getElem?_eq_getElem hi)
  exact blk_lt h1
theorem mp_lt (hs : SR g st w) {m r : Nat} (h : g.mp[m]? = some r) : r < w.heap.size := by
  have hm2 : m < st.maps.length := by rw [← hs.lm]; exact (List.getElem?_eq_some_iff.1 h).1
  obtain ⟨ents, clock, hb, _⟩ := hs.map m r _ h (List.getElem?_eq_getElem hm2)
  exact blk_lt hb

/-- A token gets a new block. -/
theorem SR.moveTok (hs : SR g st w) {t sz used : Nat} {vs : Array Value} {ty : TypeId} (htl : t < g.tk.length) (hge : cx.t ≤ t) (hold : ∀ b sz' used', g.tk[t]? = some (some (b, sz', used')) → used' < used) :
    SR (moved g t w.heap.size sz used) { st with toks := st.toks.set t (used, sz) } (w.alloc (.cells vs ty)) ∧
    Ext cx g st w (moved g t w.heap.size sz used) { st with toks := st.toks.set t (used, sz) } (w.alloc (.cells vs ty)) := by
  have hrole : ∀ x, x < w.heap.size → (moved g t w.heap.size sz used).role x = freed g t x := fun x hx => by
    show setRole _ _ _ x = _
    unfold setRole; rw [if_neg (by omega)]
  have hnew : (moved g t w.heap.size sz used).role w.heap.size = .tok t := by
    show setRole _ _ _ _ = _
    unfold setRole; rw [if_pos rfl]
  have htk : ∀ (i : Nat) x, (g.tk.set t (some (w.heap.size, sz, used)))[i]? = some (some x) → (i = t ∧ x = (w.heap.size, sz, used)) ∨ (i ≠ t ∧ g.tk[i]? = some (some x)) := by
    intro i b h
    rw [List.getElem?_set] at h
    split at h
    · rename_i he
      simp only [Option.some.injEq] at h
      exact .inl ⟨he.symm, h.symm⟩
    · rename_i he
      exact .inr ⟨fun e => he e.symm, h⟩
  have hset : (moved g t w.heap.size sz used).tk[t]? = some (some (w.heap.size, sz, used)) := by
    show (g.tk.set _ _)[_]? = _
    rw [List.getElem?_set_self htl]
  have hne : ∀ (i : Nat), i ≠ t → (moved g t w.heap.size sz used).tk[i]? = g.tk[i]? := fun i hi => by
    show (g.tk.set _ _)[_]? = _
    exact List.getElem?_set_ne (fun e => hi e.symm)
  have old : ∀ {b : Nat} {x : Obj}, w.heap[b]? = some x → (w.alloc (.cells vs ty)).heap[b]? = some x := fun h => (alloc_get (blk_lt h)).trans h
  have hkeeps : Keeps g (Safe g st w) w (moved g t w.heap.size sz used) (Safe (moved g t w.heap.size sz used) { st with toks := st.toks.set t (used, sz) } (w.alloc (.cells vs ty))) (w.alloc (.cells vs ty)) := by
    refine ⟨fun _ _ h => h, fun i b sz' us' h => ?_, fun _ _ h => h, fun b off hsafe => ?_⟩
    · by_cases hi : i = t
      · subst hi
        exact ⟨_, _, _, hset, .inl (hold b sz' us' h)⟩
      · exact ⟨b, sz', us', by rw [hne i hi]; exact h, .inr ⟨rfl, rfl, rfl, fun cur ty' hb => ⟨cur, old hb, rfl⟩⟩⟩
    · obtain ⟨h1, h2⟩ := hsafe
      refine ⟨⟨by simp; omega, ?_⟩, fun v hv => ?_⟩
      · rw [hrole b h1]
        rcases h2 with h2 | ⟨i, sz', us', e1, e2, e3⟩
        · exact .inl (freed_free h2)
        · by_cases hi : i = t
          · subst hi
            exact .inl (freed_own e2)
          · refine .inr ⟨i, sz', us', ?_, by rw [hne i hi]; exact e2, e3⟩
            rw [freed_ne hs (by rw [e1]; intro e; injection e with e; exact hi e)]; exact e1
      · simp only [cellA, World.cell?] at hv ⊢
        rw [alloc_get h1]; exact hv
  refine ⟨⟨hs.lb, by show (g.tk.set _ _).length = _; simp [hs.lt], hs.lm, fun i b h => ?_, fun i b sz' us' h => ?_, fun m r h => ?_, fun i b cs' h hc' => ?_, hs.one, fun i b sz' us' h => ?_, fun m r es h hm => ?_⟩,
    ⟨rfl, rfl, rfl, by simp, fun b hb hf => ⟨alloc_get hb, by rw [hrole b hb]; exact freed_ne hs (by intro e; rw [e] at hf; simp [Role.idle] at hf)⟩, hkeeps, fun i b hi h => alloc_get (bx_lt hs h), fun i x hi h => ⟨alloc_get (tk_lt hs h), by rw [hne i (by omega)]; exact h⟩, fun m r hm h => alloc_get (mp_lt hs h), fun _ _ => rfl, fun i hi => List.getElem?_set_ne (by omega), fun _ _ => rfl, Nat.le_refl _, by simp, Nat.le_refl _⟩⟩
  · have h0 : g.bx[i]? = some (some b) := h
    rw [hrole b (bx_lt hs h0), freed_ne hs (by rw [hs.rb i b h0]; simp)]
    exact hs.rb i b h0
  · rcases htk i _ h with ⟨rfl, he⟩ | ⟨hi, h0⟩
    · injection he with he1 he2
      subst he1
      exact hnew
    · have e := hs.rt i b sz' us' h0
      rw [hrole b (tk_lt hs h0), freed_ne hs (by rw [e]; intro e'; injection e' with e'; exact hi e')]
      exact e
  · have h0 : g.mp[m]? = some r := h
    rw [hrole r (mp_lt hs h0), freed_ne hs (by rw [hs.rm m r h0]; simp)]
    exact hs.rm m r h0
  · obtain ⟨cur, ty', h1, h2, h3⟩ := hs.box i b cs' h hc'
    exact ⟨cur, ty', old h1, h2, fun j c v hj hv => (h3 j c v hj hv).keep hkeeps⟩
  · rcases htk i _ h with ⟨rfl, he⟩ | ⟨hi, h0⟩
    · simp only [Prod.mk.injEq] at he
      obtain ⟨rfl, rfl, rfl⟩ := he
      refine ⟨vs, ty, ?_, alloc_new⟩
      show (st.toks.set _ _)[_]? = _
      rw [List.getElem?_set_self (by rw [← hs.lt]; exact htl)]
    · obtain ⟨cur, ty', h1, h2⟩ := hs.tok i b sz' us' h0
      refine ⟨cur, ty', ?_, old h2⟩
      show (st.toks.set _ _)[_]? = _
      rw [List.getElem?_set_ne (fun e => hi e.symm)]; exact h1
  · obtain ⟨ents, clock, h1, h2, h3⟩ := hs.map m r es h hm
    exact ⟨ents, clock, old h1, h2, fun i k v e hk he => by
      obtain ⟨h4, h5, h6⟩ := h3 i k v e hk he
      exact ⟨h4.keep hkeeps.safe, h5.keep hkeeps.safe, h6⟩⟩

/-- A token's block is filled further. -/
theorem SR.fillTok (hs : SR g st w) {t b sz used used' : Nat} {cur' : Array Value} {ty : TypeId} {w' : World} (ht : g.tk[t]? = some (some (b, sz, used))) (hge : cx.t ≤ t) (hlt : used < used')
    (h3 : w'.os = w.os) (h4 : w'.tape = w.tape) (h5 : w'.output = w.output) (h6 : w'.heap.size = w.heap.size) (h7 : ∀ k, k ≠ b → w'.heap[k]? = w.heap[k]?)
    (h8 : w'.heap[b]? = some (.cells cur' ty (0, 0))) (hk : ∀ (off : Nat) v, off < used * sz → cellA w b off = some v → cellA w' b off = some v) :
    SR { g with tk := g.tk.set t (some (b, sz, used')) } { st with toks := st.toks.set t (used', sz) } w' ∧
    Ext cx g st w { g with tk := g.tk.set t (some (b, sz, used')) } { st with toks := st.toks.set t (used', sz) } w' := by
  have htl : t < g.tk.length := (List.getElem?_eq_some_iff.1 ht).1
  have hrole := hs.rt t b sz used ht
  have htk : ∀ (i : Nat) x, (g.tk.set t (some (b, sz, used')))[i]? = some (some x) → (i = t ∧ x = (b, sz, used')) ∨ (i ≠ t ∧ g.tk[i]? = some (some x)) := by
    intro i y h
    rw [List.getElem?_set] at h
    split at h
    · rename_i he
      simp only [Option.some.injEq] at h
      exact .inl ⟨he.symm, h.symm⟩
    · rename_i he
      exact .inr ⟨fun e => he e.symm, h⟩
  have hset : (g.tk.set t (some (b, sz, used')))[t]? = some (some (b, sz, used')) := by
    rw [List.getElem?_set_self htl]
  have hne : ∀ (i : Nat), i ≠ t → (g.tk.set t (some (b, sz, used')))[i]? = g.tk[i]? := fun i hi => List.getElem?_set_ne (fun e => hi e.symm)
  have hother : ∀ (k : Nat), g.role k ≠ .tok t → w'.heap[k]? = w.heap[k]? := fun k hr => h7 k (by rintro rfl; exact hr hrole)
  have hkeeps : Keeps g (Safe g st w) w { g with tk := g.tk.set t (some (b, sz, used')) } (Safe { g with tk := g.tk.set t (some (b, sz, used')) } { st with toks := st.toks.set t (used', sz) } w') w' := by
    refine ⟨fun _ _ h => h, fun i k sz' us' h => ?_, fun _ _ h => h, fun k off hsafe => ?_⟩
    · by_cases hi : i = t
      · subst hi
        rw [ht] at h
        simp only [Option.some.injEq, Prod.mk.injEq] at h
        exact ⟨_, _, _, hset, .inl (by omega)⟩
      · refine ⟨k, sz', us', by show (g.tk.set _ _)[i]? = _; rw [hne i hi]; exact h, .inr ⟨rfl, rfl, rfl, fun cur ty' hb => ⟨cur, ?_, rfl⟩⟩⟩
        rw [hother k (by rw [hs.rt i k sz' us' h]; intro e; injection e with e; exact hi e)]; exact hb
    · obtain ⟨h1, h2⟩ := hsafe
      rcases h2 with h2 | ⟨i, sz', us', e1, e2, e3⟩
      · refine ⟨⟨by rw [h6]; exact h1, .inl h2⟩, fun v hv => ?_⟩
        simp only [cellA, World.cell?] at hv ⊢
        rw [hother k (by rw [h2]; simp)]; exact hv
      · by_cases hi : i = t
        · subst hi
          rw [ht] at e2
          simp only [Option.some.injEq, Prod.mk.injEq] at e2
          obtain ⟨rfl, rfl, rfl⟩ := e2
          refine ⟨⟨by rw [h6]; exact h1, .inr ⟨i, sz, used', e1, hset, ?_⟩⟩, fun v hv => hk off v e3 hv⟩
          exact Nat.lt_of_lt_of_le e3 (Nat.mul_le_mul_right _ (by omega))
        · refine ⟨⟨by rw [h6]; exact h1, .inr ⟨i, sz', us', e1, by show (g.tk.set _ _)[i]? = _; rw [hne i hi]; exact e2, e3⟩⟩, fun v hv => ?_⟩
          simp only [cellA, World.cell?] at hv ⊢
          rw [hother k (by rw [e1]; intro e; injection e with e; exact hi e)]; exact hv
  refine ⟨⟨hs.lb, by show (g.tk.set _ _).length = _; simp [hs.lt], hs.lm, hs.rb, fun i k sz' us' h => ?_, hs.rm, fun i k cs' h hc' => ?_, hs.one, fun i k sz' us' h => ?_, fun m r es h hm => ?_⟩,
    ⟨h3, h4, h5, by rw [h6]; exact Nat.le_refl _, fun k hk hf => ⟨hother k (by intro e; rw [e] at hf; simp [Role.idle] at hf), rfl⟩, hkeeps, fun i k hi h => hother k (by rw [hs.rb i k h]; simp), fun i x hi h => ⟨hother x.1 (by rw [hs.rt i x.1 x.2.1 x.2.2 h]; intro e; injection e with e; omega), by show (g.tk.set _ _)[i]? = _; rw [hne i (by omega)]; exact h⟩,
      fun m r hm h => hother r (by rw [hs.rm m r h]; simp), fun _ _ => rfl, fun i hi => List.getElem?_set_ne (by omega), fun _ _ => rfl, Nat.le_refl _, by simp, Nat.le_refl _⟩⟩
  · rcases htk i _ h with ⟨rfl, he⟩ | ⟨hi, h0⟩
    · injection he with he1 he2
      subst he1
      exact hrole
    · exact hs.rt i k sz' us' h0
  · obtain ⟨cur, ty', g1, g2, g3⟩ := hs.box i k cs' h hc'
    exact ⟨cur, ty', by rw [hother k (by rw [hs.rb i k h]; simp)]; exact g1, g2, fun j c v hj hv => (g3 j c v hj hv).keep hkeeps⟩
  · rcases htk i _ h with ⟨rfl, he⟩ | ⟨hi, h0⟩
    · simp only [Prod.mk.injEq] at he
      obtain ⟨rfl, rfl, rfl⟩ := he
      refine ⟨cur', ty, ?_, h8⟩
      show (st.toks.set _ _)[_]? = _
      rw [List.getElem?_set_self (by rw [← hs.lt]; exact htl)]
    · obtain ⟨cur, ty', g1, g2⟩ := hs.tok i k sz' us' h0
      refine ⟨cur, ty', ?_, by rw [hother k (by rw [hs.rt i k sz' us' h0]; intro e; injection e with e; exact hi e)]; exact g2⟩
      show (st.toks.set _ _)[_]? = _
      rw [List.getElem?_set_ne (fun e => hi e.symm)]; exact g1
  · obtain ⟨ents, clock, g1, g2, g3⟩ := hs.map m r es h hm
    exact ⟨ents, clock, by rw [hother r (by rw [hs.rm m r h]; simp)]; exact g1, g2, fun i k v e hk he => by
      obtain ⟨h4, h5, h6⟩ := g3 i k v e hk he
      exact ⟨h4.keep hkeeps.safe, h5.keep hkeeps.safe, h6⟩⟩

theorem setCells_blk {b : Nat} {ty : TypeId} {fr : Nat × Nat} : ∀ (vs : List Value) (off : Nat) (cur : Array Value) (w : World), w.heap[b]? = some (.cells cur ty fr) → off + vs.length ≤ cur.size →
    (w.setCells b off vs).os = w.os ∧ (w.setCells b off vs).tape = w.tape ∧ (w.setCells b off vs).output = w.output ∧ (w.setCells b off vs).heap.size = w.heap.size ∧ (∀ k, k ≠ b → (w.setCells b off vs).heap[k]? = w.heap[k]?) ∧
      ∃ cur', (w.setCells b off vs).heap[b]? = some (.cells cur' ty fr) ∧ cur'.size = cur.size ∧ cur'.toList = cur.toList.take off ++ vs ++ cur.toList.drop (off + vs.length)
  | [], off, cur, w, hb, hl => ⟨rfl, rfl, rfl, rfl, fun _ _ => rfl, cur, hb, rfl, by simp⟩
  | u :: vs, off, cur, w, hb, hl => by
    simp only [List.length_cons] at hl
    have hb2 : (w.setCell ⟨b, off, none⟩ u).heap[b]? = some (.cells (cur.setIfInBounds off u) ty fr) := by
      simp [World.setCell, Array.getElem?_modify, hb]
    obtain ⟨h3, h4, h5, h6, h7, cur', h8, h9, h10⟩ := setCells_blk vs (off + 1) (cur.setIfInBounds off u) (w.setCell ⟨b, off, none⟩ u) hb2 (by simp; omega)
    refine ⟨h3, h4, h5, by simp only [World.setCells]; rw [h6]; simp, fun k hk => ?_, cur', h8, by rw [h9]; simp, ?_⟩
    · simp only [World.setCells]
      rw [h7 k hk]
      simp [World.setCell, Array.getElem?_modify, Ne.symm hk]
    · rw [h10, Array.toList_setIfInBounds]
      rw [List.take_succ_eq_append_getElem (by simp; omega), List.take_set_of_le (Nat.le_refl _), List.getElem_set_self, List.drop_set_of_lt (by omega)]
      simp only [List.length_cons, List.append_assoc, List.cons_append, List.nil_append]
      rw [show off + 1 + vs.length = off + (vs.length + 1) by omega]
end
end Go.Rf

namespace Go.Rf
set_option linter.unusedVariables false
set_option linter.unusedSimpArgs false

/-- The element type's figures. -/
def elemOk (P : Program) (e : TypeId) (esz bytes : Nat) : Bool := match P.info? e with
  | some i => i.size == esz && i.bytes == bytes && (match i.zero with
    | some z => z.cells.size == esz
    | none => false)
  | none => false

section
variable {P : Program} {cx : Cx} {kb kt : Option Nat} {g : Gh} {st : St} {w : World} {o : Oper} {a : Act} {env : Env} {bb tb : Nat} {v : AV} {st' : St}

theorem elemOk_ok {e : TypeId} {esz bytes : Nat} (h : elemOk P e esz bytes = true) : ∃ i z, P.info? e = some i ∧ i.zero = some z ∧ i.size = esz ∧ i.bytes = bytes ∧ z.cells.size = esz := by
  unfold elemOk at h
  split at h
  · rename_i i hi
    simp only [Bool.and_eq_true, beq_iff_eq] at h
    obtain ⟨⟨h1, h2⟩, h3⟩ := h
    split at h3
    · rename_i z hz
      exact ⟨i, z, hi, hz, h1, h2, by simpa using h3⟩
    · exact absurd h3 (by simp)
  · exact absurd h (by simp)

theorem moved_tk (g : Gh) {t nb sz used : Nat} (h : t < g.tk.length) : (moved g t nb sz used).tk[t]? = some (some (nb, sz, used)) := by
  show (g.tk.set _ _)[_]? = _
  rw [List.getElem?_set_self h]
theorem moved_role (g : Gh) {t nb sz used : Nat} : (moved g t nb sz used).role nb = .tok t := by
  show setRole _ _ _ _ = _
  unfold setRole; rw [if_pos rfl]

theorem firstCells_flat {S : Nat → Nat → Prop} {rows : List (List D)} {ad : Option Addr} {cap sz : Nat} (hd : DR S w (.sl rows) (.slice ad rows.length cap)) (hsz : ∀ r, r ∈ rows → r.length = sz) :
    ∃ vals, vals.length = rows.length * sz ∧ FlatR S w sz rows vals ∧ (Builtin.firstCells sz rows.length (.slice ad rows.length cap)).run P w.drew = .ok vals.toArray w.drew := by
  obtain ⟨vals, h1, h2, h3, h4⟩ := hd.flat hsz
  refine ⟨vals, h1, h2, ?_⟩
  rcases h4 with rfl | ⟨b, off, rfl, h5⟩
  · cases ad with
    | none =>
      have : vals = [] := List.length_eq_zero_iff.1 (by simpa using h1)
      subst this
      exact run_firstCells_none w.drew sz 0 0 cap
    | some a =>
      have : vals = [] := List.length_eq_zero_iff.1 (by simpa using h1)
      subst this
      exact run_firstCells_some w.drew sz 0 a 0 cap [] (by simp) (fun j u hj => by simp at hj)
  · exact run_firstCells_some w.drew sz rows.length _ rows.length cap vals h1 (fun j u hj => by rw [add_none]; exact h5 j u hj)

/-- The arm that takes a new row. -/
theorem app_grow (hs : SR g st w) {s' x' : Operand} {t tx e e' : TypeId} {esz bytes tok kq : Nat} {rows news : List (List D)} {base ad : Option Addr} {cap cap2 : Nat} (ho : o.op = .call { callee := .builtin .append, args := #[s', x'], argTypes := #[t, tx] })
    (ht : P.underlying t = some (.slice e)) (htx : P.underlying tx = some (.slice e')) (hel : elemOk P e esz bytes = true)
    (hsv : a.eval s' = .slice base rows.length cap) (hxv : a.eval x' = .slice ad news.length cap2) {olds : List Value} (o1 : olds.length = rows.length * esz) (o2 : FlatR (Safe g st w) w esz rows olds) (o3 : (Builtin.firstCells esz rows.length (.slice base rows.length cap)).run P w.drew = .ok olds.toArray w.drew) (hx : DR (Safe g st w) w (.sl news) (.slice ad news.length cap2))
    (hn : ∀ r, r ∈ news → r.length = esz) (hroom : cap < rows.length + news.length) (hbytes : (rows.length + news.length) * bytes ≤ maxBytes) (h63 : ((rows.length + news.length : Nat) : Int) ≤ 9223372036854775807)
    (htl : tok < g.tk.length) (hge : cx.t ≤ tok) (hkq : g.tk[tok]? = some none → tok = kq) (hold : ∀ b sz' used', g.tk[tok]? = some (some (b, sz', used')) → used' < rows.length + news.length) :
    Sim P cx kb (some kq) g st w o a (.own tok (rows ++ news)) { st with toks := st.toks.set tok (rows.length + news.length, esz) } := by
  obtain ⟨i, z, hi, hz, hsize, hby, hzs⟩ := elemOk_ok hel
  subst hsize
  obtain ⟨vals, n1, n2, n3⟩ := src_ok (P := P) htx hx rfl hn
  have hfit := growslice_fits hroom (bytes := i.bytes) (by rw [hby]; exact hbytes)
  have hrun := run_append_grow_src (P := P) w t tx o.type e i z ht hi hz base rows.length cap olds o3 _ news.length vals n1 hroom h63 hfit
  have hcapge := grownCap_ge w (rows.length + news.length) cap e
  obtain ⟨hn', hext⟩ := SR.moveTok (cx := cx) hs.drew (t := tok) (sz := i.size) (used := rows.length + news.length)
    (vs := (olds ++ vals).toArray ++ Builtin.zeroCells z.cells (grownCap w (rows.length + news.length) cap e - (rows.length + news.length))) (ty := e) htl hge hold
  have hflat : FlatR (Safe g st w) w i.size (rows ++ news) (olds ++ vals) := o2.append o1 n2
  have hext2 := (Same.drew.ext (cx := cx) hs (fun _ _ => rfl) (fun _ _ => rfl) (fun _ _ => rfl) (Nat.le_refl _) (Nat.le_refl _) (Nat.le_refl _)).trans hext
  refine ⟨_, .slice (some ⟨w.heap.size, 0, none⟩) (rows.length + news.length) (grownCap w (rows.length + news.length) cap e), _, _, ?_, .inl rfl, ?_, hn', hext2, ⟨fun i hi _ => ⟨hi, rfl⟩, fun i hi hne => ?_⟩⟩
  · simp only [execOp, ho, Sem.run_bind]
    simp [resolve, invoke, builtin, hsv, hxv, hrun]
  · have hlen : (rows ++ news).length = rows.length + news.length := by simp
    have hsl : DR (Safe (moved g tok w.heap.size i.size (rows.length + news.length)) { st with toks := st.toks.set tok (rows.length + news.length, i.size) } (w.drew.alloc (.cells ((olds ++ vals).toArray ++ Builtin.zeroCells z.cells (grownCap w (rows.length + news.length) cap e - (rows.length + news.length))) e)))
        (w.drew.alloc (.cells ((olds ++ vals).toArray ++ Builtin.zeroCells z.cells (grownCap w (rows.length + news.length) cap e - (rows.length + news.length))) e)) (.sl (rows ++ news)) (.slice (some ⟨w.heap.size, 0, none⟩) (rows ++ news).length (grownCap w (rows.length + news.length) cap e)) := by
      refine ((hflat.keep hext2.keeps.safe).more _).slice (by rw [hlen]; exact hcapge) (vals := (olds ++ vals) ++ (Builtin.zeroCells z.cells (grownCap w (rows.length + news.length) cap e - (rows.length + news.length))).toList) (fun k u hk hu => ⟨?_, ?_, .inr ⟨tok, i.size, rows.length + news.length, moved_role g, moved_tk g htl, by rw [← hlen]; exact hk⟩⟩)
      · rw [cellA, cell_of_blk (show (w.drew.alloc _).heap[w.heap.size]? = _ from alloc_new (w := w.drew))]
        rw [← Array.getElem?_toList]
        simpa using hu
      · show w.heap.size < (w.drew.alloc _).heap.size
        simp
    refine .own tok (rows ++ news) _ w.heap.size i.size (rows.length + news.length) (moved_tk g htl) (by rw [hlen]; exact Nat.le_refl _) (by rw [hlen] at hsl; exact hsl) (fun _ => ?_)
    refine ⟨grownCap w (rows.length + news.length) cap e, _, e, by rw [hlen], alloc_new (w := w.drew), ?_, by rw [hlen]; exact hcapge, hflat.1⟩
    simp only [Array.size_append, size_zeroCells, List.size_toArray, List.length_append, o1, n3, hzs]
    rw [← Nat.add_mul, ← Nat.add_mul]
    congr 1; omega
  · have hti : tok ≠ i := by
      rintro rfl
      exact hne (by rw [hkq hi])
    exact ⟨(List.getElem?_set_ne hti).trans hi, List.getElem?_set_ne hti⟩

theorem set_same {α : Type} {l : List α} {i : Nat} {x : α} (h : l[i]? = some x) : l.set i x = l := by
  refine List.ext_getElem? fun j => ?_
  rw [List.getElem?_set]
  split
  · rename_i hij
    subst hij
    have hl := (List.getElem?_eq_some_iff.1 h).1
    rw [if_pos hl, h]
  · rfl

theorem sim_app (hs : SR g st w) (he : ER g (Safe g st w) w env a.tmps) (hcx : CxOk cx st) {j esz bytes : Nat} {s x : PO} {s' x' : Operand} {t tx e e' : TypeId}
    (ho : o.op = .call { callee := .builtin .append, args := #[s', x'], argTypes := #[t, tx] }) (hS : ckPO s s' = true) (hX : ckPO x x' = true)
    (ht : P.underlying t = some (.slice e)) (htx : P.underlying tx = some (.slice e')) (hel : elemOk P e esz bytes = true) (hpos : 0 < bytes)
    (h1 : g.tk[tb + j]? = some none ∧ cx.t ≤ tb + j)
    (h : x_app j esz bytes s x cx bb tb env st = some (.val v st')) : Sim P cx kb (some (tb + j)) g st w o a v st' := by
  unfold x_app at h
  have hsv := he.ev hS
  have hxv := he.ev hX
  split at h
  · exact absurd h (by simp)
  · rename_i news hnews
    obtain ⟨ad, cap2, hxu, hxd⟩ := hxv.rows_inv hnews
    rw [hxu] at hxd
    split at h
    · exact absurd h (by simp)
    · rename_i hall
      simp only [Decidable.not_not, List.all_eq_true, decide_eq_true_eq] at hall
      have bnd : ∀ n : Nat, n * bytes ≤ maxBytes → (n : Int) ≤ 9223372036854775807 := by
        intro n hn
        have : n * 1 ≤ n * bytes := Nat.mul_le_mul_left _ hpos
        simp only [maxBytes] at hn
        omega
      split at h
      · rename_i es
        split at h
        · rename_i hb
          rw [es] at hsv
          generalize hu : a.eval s' = u at hsv
          cases hsv with | nilS =>
          split at h
          · rename_i hemp
            simp only [Option.some.injEq, R.val.injEq] at h
            obtain ⟨rfl, rfl⟩ := h
            have : news = [] := by simpa using hemp
            subst this
            obtain ⟨i, z, hi, hz, hsize, hby, hzs⟩ := elemOk_ok hel
            refine Sim.pure hs (.slice none 0 0) ?_ .nilS
            obtain ⟨vals, n1, n2, n3⟩ := src_ok (P := P) htx hxd rfl hall
            rw [← hsize] at n1
            have hcl := n1.cells
            simp only [List.length_nil] at hcl
            simp only [execOp, ho, Sem.run_bind]
            simp [hcl, resolve, invoke, builtin, hu, hxu, Builtin.append_, run_underlying ht, run_underlying htx, sizeOf, typeInfo, hi, Builtin.lenOf]
          · rename_i hemp
            simp only [Option.some.injEq, R.val.injEq] at h
            obtain ⟨rfl, rfl⟩ := h
            have hne : 0 < news.length := by
              cases news with
              | nil => simp at hemp
              | cons a l => simp
            obtain ⟨h1a, h1b⟩ := h1
            have := app_grow (cx := cx) (kb := kb) hs (rows := []) (news := news) (tok := tb + j) ho ht htx hel hu hxu (olds := []) (by simp) .nil (run_firstCells_none w.drew esz 0 0 0) hxd hall (by simp; omega) (by simpa using hb) (bnd _ (by simpa using hb))
              (List.getElem?_eq_some_iff.1 h1a).1 h1b (fun _ => rfl) (fun b sz' us' hh => by rw [h1a] at hh; simp at hh)
            simpa using this
        · exact absurd h (by simp)
      · rename_i tok rows es
        split at h
        · rename_i used sz hk
          split at h
          · rename_i hc
            obtain ⟨hu1, hu2, hge, hb⟩ := hc
            simp only [Option.some.injEq, R.val.injEq] at h
            obtain ⟨rfl, rfl⟩ := h
            rw [es] at hsv
            generalize hu : a.eval s' = u at hsv
            cases hsv with | own _ _ _ b sz' used' g1 g2 g3 g4 =>
            obtain ⟨cur0, ty0, g5, _⟩ := hs.tok tok b sz' used' g1
            rw [hk] at g5
            simp only [Option.some.injEq, Prod.mk.injEq] at g5
            obtain ⟨rfl, rfl⟩ := g5
            obtain ⟨cap, cur, ty, rfl, g6, g7, g8, g9⟩ := g4 hu1.symm
            subst hu2
            rcases Nat.lt_or_ge cap (rows.length + news.length) with hlt | hroom
            · obtain ⟨olds, o1, o2, o3⟩ := firstCells_flat (P := P) g3 g9
              exact app_grow (cx := cx) hs (rows := rows) (news := news) (tok := tok) ho ht htx hel hu hxu o1 o2 o3 hxd hall hlt hb (bnd _ hb) (List.getElem?_eq_some_iff.1 g1).1 hge (fun hh => by rw [g1] at hh; simp at hh) (fun b2 sz2 us2 hh => by
                rw [g1] at hh
                simp only [Option.some.injEq, Prod.mk.injEq] at hh
                omega)
            · obtain ⟨i, z, hi, hz, hsize, hby, hzs⟩ := elemOk_ok hel
              obtain ⟨vals, n1, n2, n3⟩ := src_ok (P := P) htx hxd rfl hall
              rw [← hsize] at n1
              have hin : rows.length * sz + vals.length ≤ cur.size := by
                rw [n3, g7, ← Nat.add_mul]
                exact Nat.mul_le_mul_right _ hroom
              have hrun := run_append_room_src (P := P) w t tx o.type e i ht hi b 0 rows.length cap _ news.length vals n1 hroom
                (fun k hk2 => by rw [cell_of_blk g6, Array.getElem?_eq_getElem (by rw [hsize]; omega)]; rfl)
                (fun k hk2 => by simp [World.frozen?, g6])
              rw [Nat.zero_add, hsize] at hrun
              have hexec : (execOp a.eval o).run P w = .ok (.value (.slice (some ⟨b, 0, none⟩) (rows.length + news.length) cap)) (w.setCells b (rows.length * sz) vals) := by
                simp only [execOp, ho, Sem.run_bind]
                simp [resolve, invoke, builtin, hu, hxu, hrun]
              rcases Nat.eq_zero_or_pos news.length with h0 | hpos2
              · have hnn : news = [] := List.length_eq_zero_iff.1 h0
                subst hnn
                have hv0 : vals = [] := List.length_eq_zero_iff.1 (by simpa using n3)
                subst hv0
                have hst : ({ st with toks := st.toks.set tok (rows.length + 0, sz) } : St) = st := by
                  rw [hu1] at hk; rw [Nat.add_zero, set_same hk]
                simp only [List.length_nil, hst, List.append_nil]
                refine Sim.pure hs _ hexec (.own tok rows _ b sz used g1 g2 g3 (fun _ => ⟨cap, cur, ty, rfl, g6, g7, g8, g9⟩))
              · obtain ⟨k3, k4, k5, k6, k7, cur', k8, k9, k10⟩ := setCells_blk vals (rows.length * sz) cur w g6 hin
                have hcellnew : ∀ k, cellA (w.setCells b (rows.length * sz) vals) b k = (cur.toList.take (rows.length * sz) ++ vals ++ cur.toList.drop (rows.length * sz + vals.length))[k]? := by
                  intro k
                  rw [cellA, cell_of_blk k8, ← k10]; simp
                obtain ⟨hn', hext⟩ := hs.fillTok (cx := cx) (used' := rows.length + news.length) g1 hge (by omega) k3 k4 k5 k6 k7 k8 (fun off u hoff hc => by
                  rw [hcellnew, List.append_assoc, List.getElem?_append_left (by simp; rw [hu1] at hoff; omega), List.getElem?_take, if_pos (by rw [← hu1]; exact hoff)]
                  rw [cellA, cell_of_blk g6] at hc
                  simpa using hc)
                have htk : ({ g with tk := g.tk.set tok (some (b, sz, rows.length + news.length)) } : Gh).tk[tok]? = some (some (b, sz, rows.length + news.length)) := by
                  show (g.tk.set _ _)[_]? = _
                  rw [List.getElem?_set_self (List.getElem?_eq_some_iff.1 g1).1]
                have hrole := hs.rt tok b sz used g1
                obtain ⟨olds, o1, o2, o3, o4⟩ := g3.flat g9
                have holds : ∀ (k : Nat) u, olds[k]? = some u → cellA w b k = some u := by
                  intro k u hk2
                  rcases o4 with o4 | ⟨b2, off2, e2, o4⟩
                  · subst o4
                    have : olds = [] := List.length_eq_zero_iff.1 (by simpa using o1)
                    subst this; simp at hk2
                  · simp only [Option.some.injEq, Addr.mk.injEq] at e2
                    obtain ⟨rfl, rfl, _⟩ := e2
                    have := o4 k u hk2
                    rwa [Nat.zero_add] at this
                have hflat : FlatR (Safe g st w) w sz (rows ++ news) (olds ++ vals) := o2.append o1 n2
                have hlen : (rows ++ news).length = rows.length + news.length := by simp
                refine ⟨_, .slice (some ⟨b, 0, none⟩) (rows.length + news.length) cap, _, _, hexec, .inl rfl, ?_, hn', hext, ⟨fun i hi _ => ⟨hi, rfl⟩, fun i hi _ => ?_⟩⟩
                rotate_left
                · have hti : tok ≠ i := by
                    rintro rfl
                    rw [g1] at hi; simp at hi
                  exact ⟨(List.getElem?_set_ne hti).trans hi, List.getElem?_set_ne hti⟩
                refine .own tok (rows ++ news) _ b sz (rows.length + news.length) htk (by rw [hlen]; exact Nat.le_refl _) ?_ (fun _ => ?_)
                · have := (hflat.keep hext.keeps.safe).slice (b := b) (cap := cap) (by rw [hlen]; exact hroom) (fun k u hk2 hu2 => ⟨?_, ?_, .inr ⟨tok, sz, rows.length + news.length, hrole, htk, by rw [← hlen]; exact hk2⟩⟩)
                  · rw [hlen] at this; exact this
                  · rw [hcellnew]
                    rw [List.getElem?_append] at hu2
                    have hcl : (cur.toList.take (rows.length * sz)).length = rows.length * sz := by simp; omega
                    split at hu2
                    · rename_i hko
                      rw [List.append_assoc, List.getElem?_append_left (by rw [hcl, ← o1]; exact hko), List.getElem?_take, if_pos (by rw [← o1]; exact hko)]
                      have := holds k u hu2
                      rw [cellA, cell_of_blk g6] at this
                      simpa using this
                    · rename_i hko
                      have hul := (List.getElem?_eq_some_iff.1 hu2).1
                      rw [List.getElem?_append_left (by simp only [List.length_append, hcl]; omega), List.getElem?_append_right (by rw [hcl]; omega), hcl, ← o1]
                      exact hu2
                  · rw [k6]; exact tk_lt hs g1
                · exact ⟨cap, cur', ty, by rw [hlen], k8, k9.trans g7, by rw [hlen]; exact hroom, hflat.1⟩
          · exact absurd h (by simp)
        · exact absurd h (by simp)
      · rename_i id n es
        split at h
        · rename_i cs hcs
          split at h
          · rename_i ds hds
            split at h
            · rename_i hc
              obtain ⟨hc1, hc2, hb⟩ := hc
              simp only [Option.some.injEq, R.val.injEq] at h
              obtain ⟨rfl, rfl⟩ := h
              rw [es] at hsv
              generalize hu : a.eval s' = u at hsv
              cases hsv with | bsl _ _ _ b cap g1 g2 g3 =>
              have hcap := g3 rfl
              subst hcap
              have hne : 0 < news.length := by
                cases news with
                | nil => simp at hc2
                | cons a l => simp
              obtain ⟨h1a, h1b⟩ := h1
              obtain ⟨cur, ty, q1, q2, q3⟩ := hs.box id b cs g1 hcs
              obtain ⟨d1, d2⟩ := toDs_spec hds
              have hlen : ((List.range cap).map fun i => (ds.drop (i * esz)).take esz).length = cap := by simp
              have hflat : FlatR (Safe g st w) w esz ((List.range cap).map fun i => (ds.drop (i * esz)).take esz) cur.toList := by
                refine ⟨fun r hr => ?_, fun k r i c hk hi => ?_⟩
                · obtain ⟨k, hk, rfl⟩ := List.mem_map.1 hr
                  simp only [List.mem_range] at hk
                  have h : (k + 1) * esz ≤ cap * esz := Nat.mul_le_mul_right _ hk
                  rw [Nat.succ_mul] at h
                  simp; omega
                · rw [List.getElem?_map] at hk
                  obtain ⟨k2, hk2, rfl⟩ := Option.map_eq_some_iff.1 hk
                  obtain ⟨hk3, rfl⟩ := List.getElem?_eq_some_iff.1 hk2
                  simp only [List.length_range] at hk3
                  simp only [List.getElem_range] at hi
                  rw [List.getElem?_take, List.getElem?_drop] at hi
                  split at hi
                  · rename_i hie
                    have hkl : k * esz + i < cs.length := by rw [d1]; exact (List.getElem?_eq_some_iff.1 hi).1
                    have e1 : cs[k * esz + i]? = some cs[k * esz + i] := List.getElem?_eq_getElem hkl
                    have e2 : cur[k * esz + i]? = some cur[k * esz + i] := Array.getElem?_eq_getElem (by omega)
                    obtain ⟨x, hx1, hx2⟩ := d2 _ _ e1
                    rw [hi] at hx1
                    injection hx1 with hx1; subst hx1
                    obtain ⟨p1, p2⟩ := toD_ok hx2 (q3 _ _ _ e1 e2)
                    exact ⟨_, (by simp : cur.toList[k * esz + i]? = some cur[k * esz + i]), p1, p2⟩
                  · exact absurd hi (by simp)
              have hfc := run_firstCells_some (P := P) w.drew esz cap ⟨b, 0, none⟩ cap cap cur.toList (by simp; omega) (fun k u hk => by
                rw [add_none]
                have : w.drew.heap[b]? = some (.cells cur ty (0, 0)) := q1
                rw [cell_of_blk this]; simpa using hk)
              have := app_grow (cx := cx) (kb := kb) hs (rows := (List.range cap).map fun i => (ds.drop (i * esz)).take esz) (news := news) (tok := tb + j) (cap := cap) (base := some ⟨b, 0, none⟩) ho ht htx hel (by rw [hlen]; exact hu) hxu (olds := cur.toList) (by rw [hlen]; simp; omega) hflat (by rw [hlen]; exact hfc) hxd hall
                (by rw [hlen]; omega) (by rw [hlen]; exact hb) (by rw [hlen]; exact bnd _ hb) (List.getElem?_eq_some_iff.1 h1a).1 h1b (fun _ => rfl) (fun b sz' us' hh => by rw [h1a] at hh; simp at hh)
              rw [hlen] at this
              exact this
            · exact absurd h (by simp)
          · exact absurd h (by simp)
        · exact absurd h (by simp)
      · exact absurd h (by simp)

/-- A slice literal whose elements are written. -/
theorem sim_bsliceB (hs : SR g st w) (he : ER g (Safe g st w) w env a.tmps) (hcx : CxOk cx st) {esz len : Nat} {zero : List AV} {parts : List (Nat × PO)} {t e : TypeId} {ps : Array (Nat × Operand)} (ho : o.op = .buildSlice t len ps)
    (ht : P.underlying t = some (.slice e)) (hsz : sizeOfT P e = some esz) (hpos : 0 < esz) (hbig : len * esz ≤ 2 ^ 24) (hz : ckZero P e zero = true) (hzl : zero.length = esz) (hp : ckPartsA esz (parts.map fun (i, x) => (i * esz, esz, x)) ps.toList = true)
    (h : x_bsliceB esz len zero parts cx bb tb env st = some (.val v st')) : Sim P cx kb kt g st w o a v st' := by
  unfold x_bsliceB at h
  split at h
  · rename_i cs hcs
    split at h
    · rename_i hc
      simp only [Bool.and_eq_true] at hc
      simp only [Option.some.injEq, R.val.injEq] at h
      obtain ⟨rfl, rfl⟩ := h
      obtain ⟨z, hzr, hzc⟩ := ckZero_ok (w := w) hz
      have hz2 := hzc g (Safe g st w) w
      have hzsz : z.cells.size = esz := by have := hz2.1; rw [hzl] at this; simpa using this.symm
      have hfl : CellsR g (Safe g st w) w ((List.replicate len zero).flatten) ((Array.range (len * esz)).map fun k => z.cells[k % z.cells.size]!).toList := by
        have : ∀ n, CellsR g (Safe g st w) w ((List.replicate n zero).flatten) ((List.range (n * esz)).map fun k => z.cells[k % z.cells.size]!) := by
          intro n
          induction n with
          | zero => simpa using CellsR.nil
          | succ n ih =>
            rw [List.replicate_succ', List.flatten_append, Nat.succ_mul, List.range_add, List.map_append]
            refine ih.append ?_
            refine ⟨by simp [hzl], fun i c u hi hu => ?_⟩
            simp only [List.flatten_cons, List.flatten_nil, List.append_nil] at hi
            have hil := (List.getElem?_eq_some_iff.1 hi).1
            rw [List.map_map, List.getElem?_map, List.getElem?_range (by omega)] at hu
            simp only [Option.map_some, Option.some.injEq, Function.comp] at hu
            subst hu
            have e1 : (n * esz + i) % z.cells.size = i := by
              rw [hzsz, Nat.add_comm, Nat.add_mul_mod_self_right, Nat.mod_eq_of_lt (by omega)]
            rw [e1]
            have e2 : z.cells.toList[i]? = some z.cells[i]! := by
              have : i < z.cells.size := by omega
              simp [this]
            exact hz2.2 i c _ hi e2
        have h2 := this len
        simpa using h2
      obtain ⟨hp1, hp2⟩ := ckPartsA_ok he hp
      have hmm : (List.map (fun (o, n, x) => (o, n, PO.ev env x)) (List.map (fun (i, x) => (i * esz, esz, x)) parts)) = parts.map fun (i, x) => (i * esz, esz, x.ev env) := by
        rw [List.map_map]; rfl
      rw [hmm] at hp1 hp2
      obtain ⟨vout, f1, f2⟩ := fill_ok (place := fun i => some (i * esz, esz)) _ _ _ _ _ hfl hcs hp1 hp2
      obtain ⟨g', hn, hsame, hg, hg2, hg3⟩ := hs.pushBox (ty := e) (vs := vout) hc.1 hc.2 f2
      refine Sim.new hs (u := .slice (some ⟨w.heap.size, 0, none⟩) len len) ?_ hn hsame (.bsl _ _ _ w.heap.size len hg (Nat.le_refl _) (fun _ => rfl)) (fun i hi => push_get hcx.b hi) (fun _ _ => rfl) (fun _ _ => rfl) (by simp) (Nat.le_refl _) (Nat.le_refl _)
        ⟨fun i hi _ => by
          have hl := (List.getElem?_eq_some_iff.1 hi).1
          exact ⟨(hg2 i hl).trans hi, push_get (Nat.le_refl _) (by rw [← hs.lb]; exact hl)⟩, fun i hi _ => ⟨by rw [hg3]; exact hi, rfl⟩⟩
      have hps : (ps.map fun (i, x) => (i, a.eval x)).toList = ps.toList.map fun (i, x) => (i, a.eval x) := Array.toList_map ..
      have hb : ¬ (len * esz > 2 ^ 24) := by omega
      simp only [execOp, ho, Instr.buildSlice, Sem.run_bind, underlying, run_program, ht, Sem.run_pure, Result.andThen_ok, run_sizeOf hsz]
      rw [if_neg hb]
      simp only [Sem.run_pure, Result.andThen_ok, Sem.run_ite, Sem.run_bind, hzr]
      split
      · rename_i h0
        have hl0 : len = 0 := by rcases Nat.mul_eq_zero.1 h0 with h | h <;> omega
        subst hl0
        simp only [Nat.zero_mul] at f1
        have hem : ∀ f : Nat → Value, (Array.range 0).map f = #[] := fun f => by simp
        rw [hem] at f1
        simp only [Result.andThen_ok, Nat.zero_mul, hem, hps, f1, Sem.run_bind, newRow, run_newObj, Sem.run_pure]
        rfl
      · simp only [Result.andThen_ok, hps, f1, Sem.run_bind, newRow, run_newObj, Sem.run_pure]
        rfl
    · exact absurd h (by simp)
  · exact absurd h (by simp)
end
end Go.Rf

namespace Go.Rf
set_option linter.unusedVariables false
set_option linter.unusedSimpArgs false
section
variable {P : Program} {cx : Cx} {kb kt : Option Nat} {g : Gh} {st : St} {w : World} {o : Oper} {a : Act} {env : Env} {bb tb : Nat} {v : AV} {st' : St}
theorem all_flat {p : AV → Bool} {zero : List AV} (h : zero.all p = true) : ∀ n, ((List.replicate n zero).flatten).all p = true
  | 0 => rfl
  | n + 1 => by rw [List.replicate_succ, List.flatten_cons, List.all_append, h, all_flat h n]; rfl
theorem made_ok {zero : List AV} {z : Value} {esz : Nat} (hz2 : CellsR g (Safe g st w) w zero z.cells.toList) (hzl : zero.length = esz) (hpos : 0 < esz) (n : Nat) :
    CellsR g (Safe g st w) w ((List.replicate n zero).flatten) (madeCells z.cells (n * esz)).toList := by
  have hzsz : z.cells.size = esz := by have := hz2.1; rw [hzl] at this; simpa using this.symm
  have : ∀ n, CellsR g (Safe g st w) w ((List.replicate n zero).flatten) ((List.range (n * esz)).map fun k => z.cells[k % z.cells.size]!) := by
    intro n
    induction n with
    | zero => simpa using CellsR.nil
    | succ n ih =>
      rw [List.replicate_succ', List.flatten_append, Nat.succ_mul, List.range_add, List.map_append]
      refine ih.append ?_
      refine ⟨by simp [hzl], fun i c u hi hu => ?_⟩
      simp only [List.flatten_cons, List.flatten_nil, List.append_nil] at hi
      have hil := (List.getElem?_eq_some_iff.1 hi).1
      rw [List.map_map, List.getElem?_map, List.getElem?_range (by omega)] at hu
      simp only [Option.map_some, Option.some.injEq, Function.comp] at hu
      subst hu
      have e1 : (n * esz + i) % z.cells.size = i := by
        rw [hzsz, Nat.add_comm, Nat.add_mul_mod_self_right, Nat.mod_eq_of_lt (by omega)]
      rw [e1]
      have e2 : z.cells.toList[i]? = some z.cells[i]! := by
        have : i < z.cells.size := by omega
        simp [this]
      exact hz2.2 i c _ hi e2
  have h2 := this n
  unfold madeCells
  simpa using h2
theorem sim_mkB (hs : SR g st w) (he : ER g (Safe g st w) w env a.tmps) (hcx : CxOk cx st) {esz bytes : Nat} {zero : List AV} {n : PO} {l c : Operand} {t e : TypeId} (ho : o.op = .makeSlice t l c)
    (ht : P.underlying t = some (.slice e)) (hel : elemOk P e esz bytes = true) (hpos : 0 < esz) (hpb : 0 < bytes) (hz : ckZero P e zero = true) (hzl : zero.length = esz) (hpl : zero.all plainCell = true) (hl : ckPO n l = true) (hc : ckPO n c = true)
    (h : x_mkB esz bytes zero n cx bb tb env st = some (.val v st')) : Sim P cx kb kt g st w o a v st' := by
  unfold x_mkB at h
  split at h
  · rename_i k n' hn
    split at h
    · rename_i hc2
      simp only [Option.some.injEq, R.val.injEq] at h
      obtain ⟨rfl, rfl⟩ := h
      have h1 := he.ev hl
      have h2 := he.ev hc
      rw [hn] at h1 h2
      have e1 := h1.int_inv
      have e2 := h2.int_inv
      obtain ⟨i, zv, hi, hiz, his, hib, hzs⟩ := elemOk_ok hel
      obtain ⟨z, hzr, hzc⟩ := ckZero_ok (w := w) hz
      have hzv : z = zv := by
        have : (zeroValue e).run P w = .ok zv w := by simp [zeroValue, typeInfo, hi, hiz]
        rw [this] at hzr
        injection hzr with hzr
        exact hzr.symm
      subst hzv
      have hz2 := hzc g (Safe g st w) w
      have hcells := made_ok hz2 hzl hpos n'.toNat
      obtain ⟨g', hnw, hsame, hg, hg2, hg3⟩ := hs.pushBox (ty := e) (vs := madeCells z.cells (n'.toNat * esz)) (plain_one st.boxes.length (all_flat hpl n'.toNat)).1 (plain_one st.boxes.length (all_flat hpl n'.toNat)).2 hcells
      refine Sim.new hs (u := .slice (some ⟨w.heap.size, 0, none⟩) n'.toNat n'.toNat) ?_ hnw hsame (.bsl _ _ _ w.heap.size n'.toNat hg (Nat.le_refl _) (fun _ => rfl)) (fun i hi => push_get hcx.b hi) (fun _ _ => rfl) (fun _ _ => rfl) (by simp) (Nat.le_refl _) (Nat.le_refl _)
        ⟨fun i hi _ => by
          have hl := (List.getElem?_eq_some_iff.1 hi).1
          exact ⟨(hg2 i hl).trans hi, push_get (Nat.le_refl _) (by rw [← hs.lb]; exact hl)⟩, fun i hi _ => ⟨by rw [hg3]; exact hi, rfl⟩⟩
      obtain ⟨h0, hmb⟩ := hc2
      have hmb2 : n'.toNat * bytes ≤ 140737488355328 := hmb
      have hnb : n'.toNat ≤ n'.toNat * bytes := Nat.le_mul_of_pos_right _ hpb
      have hr := run_make (P := P) w t e i z ht hi hiz .i64 .i64 n' n' h0 (Int.le_refl _) (by
        rw [hib]
        have : ((bytes : Nat) : Int) * n' = ((n'.toNat * bytes : Nat) : Int) := by
          rw [Int.natCast_mul, Int.mul_comm, Int.toNat_of_nonneg h0]
        rw [this]
        omega) (by omega)
      simp only [execOp, ho, e1, e2, Sem.run_bind, hr, Result.andThen_ok, Sem.run_pure, his]
    · exact absurd h (by simp)
  · exact absurd h (by simp)
end
end Go.Rf

namespace Go.Rf
set_option linter.unusedVariables false
set_option linter.unusedSimpArgs false

theorem natsOf_inj {a b : ByteArray} (h : natsOf a = natsOf b) : a = b := by
  have := map_inj h
  obtain ⟨⟨x⟩⟩ := a
  obtain ⟨⟨y⟩⟩ := b
  simp only at this
  rw [this]
theorem beqN_iff {a b : List Nat} : beqN a b = true ↔ a = b := by rw [beqN_eq]; simp

/-- Entries, as a list. -/
def EntL (S : Nat → Nat → Prop) (w : World) (es : List (D × D)) (l : List MapEntry) : Prop :=
  es.length = l.length ∧ ∀ (i : Nat) k v e, es[i]? = some (k, v) → l[i]? = some e → DR S w k e.key ∧ DR S w v e.val ∧ v.one = true

theorem EntL.tail {S : Nat → Nat → Prop} {w : World} {p : D × D} {es : List (D × D)} {e : MapEntry} {l : List MapEntry} (h : EntL S w (p :: es) (e :: l)) : EntL S w es l :=
  ⟨by simpa using h.1, fun i k v e' hk he => h.2 (i + 1) k v e' (by simpa using hk) (by simpa using he)⟩

theorem sameNow_str {a b : ByteArray} : Instr.sameNow .string (.string a) (.string b) = some (beqN (natsOf a) (natsOf b)) := by
  simp only [Instr.sameNow, Option.some.injEq]
  rw [Bool.eq_iff_iff, Go.MapKept.bytes_beq, beqN_iff]
  exact ⟨fun h => by rw [h], natsOf_inj⟩

theorem findS_ok {S : Nat → Nat → Prop} {w : World} {key : ByteArray} : ∀ {es : List (D × D)} {l : List MapEntry} {r : Option D} (i : Nat), EntL S w es l → findS (natsOf key) es = some r →
    (r = none ∧ Instr.findNow .string (.string key) l i = some none ∧ ∀ v, putS (natsOf key) v es = some (es ++ [(.str (natsOf key), v)])) ∨
    ∃ j e v, r = some v ∧ Instr.findNow .string (.string key) l i = some (some (i + j, e.val)) ∧ l[j]? = some e ∧ e.key = .string key ∧ es[j]? = some (.str (natsOf key), v) ∧ DR S w v e.val ∧ v.one = true ∧ ∀ u, putS (natsOf key) u es = some (es.set j (.str (natsOf key), u))
  | [], [], r, i, h, hf => by
    simp only [findS, Option.some.injEq] at hf
    exact .inl ⟨hf.symm, rfl, fun v => rfl⟩
  | [], _ :: _, r, i, h, hf => by simp [EntL] at h
  | _ :: _, [], r, i, h, hf => by simp [EntL] at h
  | (k, u) :: es, e :: l, r, i, h, hf => by
    obtain ⟨h1, h2, h3⟩ := h.2 0 k u e rfl rfl
    cases k with
    | str a =>
      simp only [findS] at hf
      generalize hek : e.key = ek at h1
      cases h1 with
      | str _ s hs =>
        have hss : natsOf s = a := hs
        subst hss
        by_cases hb : beqN (natsOf key) (natsOf s) = true
        · rw [if_pos hb] at hf
          injection hf with hf; subst hf
          have : key = s := natsOf_inj (beqN_iff.1 hb)
          subst this
          refine .inr ⟨0, e, u, rfl, ?_, rfl, hek, rfl, h2, h3, fun v => ?_⟩
          · simp only [Instr.findNow, hek, sameNow_str, hb, Nat.add_zero]
          · simp only [putS]; rw [if_pos hb]; rfl
        · rw [if_neg hb] at hf
          have hb' : beqN (natsOf key) (natsOf s) = false := by simpa using hb
          rcases findS_ok (i + 1) h.tail hf with ⟨g1, g2, g3⟩ | ⟨j, e', v, g1, g2, g3, g4, g5, g6, g7, g8⟩
          · refine .inl ⟨g1, ?_, fun v => ?_⟩
            · simp only [Instr.findNow, hek, sameNow_str, hb', g2]
            · simp only [putS]; rw [if_neg hb, g3 v]; rfl
          · refine .inr ⟨j + 1, e', v, g1, ?_, by simpa using g3, g4, by simpa using g5, g6, g7, fun v => ?_⟩
            · simp only [Instr.findNow, hek, sameNow_str, hb', g2]
              congr 3; omega
            · simp only [putS]; rw [if_neg hb, g8 v]; rfl
    | _ => simp [findS] at hf
theorem putS_findS {s : List Nat} {v : D} : ∀ {es out : List (D × D)}, putS s v es = some out → ∃ r, findS s es = some r
  | [], _, _ => ⟨none, rfl⟩
  | (.str a, u) :: es, out, h => by
    simp only [putS] at h
    simp only [findS]
    split at h
    · rename_i hb
      rw [if_pos hb]; exact ⟨_, rfl⟩
    · rename_i hb
      rw [if_neg hb]
      obtain ⟨o2, h1, _⟩ := Option.map_eq_some_iff.1 h
      exact putS_findS h1
  | (.int _ _, _) :: _, _, h => by simp [putS] at h
  | (.bool _, _) :: _, _, h => by simp [putS] at h
  | (.sl _, _) :: _, _, h => by simp [putS] at h
  | (.agg _, _) :: _, _, h => by simp [putS] at h
  | (.iface _ _, _) :: _, _, h => by simp [putS] at h
  | (.nilI, _) :: _, _, h => by simp [putS] at h
  | (.nilP, _) :: _, _, h => by simp [putS] at h
  | (.nilM, _) :: _, _, h => by simp [putS] at h
  | (.nilF, _) :: _, _, h => by simp [putS] at h

/-- A map's entries are turned: nothing else is. -/
theorem map_store {cx : Cx} {g : Gh} {st : St} {w : World} (hs : SR g st w) {m r : Nat} {es' : List (D × D)} {ents' : Array MapEntry} {clock' : Nat} (hm : g.mp[m]? = some r) (hge : cx.m ≤ m) (he : EntR (Safe g st w) w es' ents') :
    SR g { st with maps := st.maps.set m es' } { w with heap := w.heap.setIfInBounds r (.map ents' clock') } ∧ Ext cx g st w g { st with maps := st.maps.set m es' } { w with heap := w.heap.setIfInBounds r (.map ents' clock') } := by
  have hrole := hs.rm m r hm
  have hlt := mp_lt hs hm
  have hml : m < st.maps.length := by rw [← hs.lm]; exact (List.getElem?_eq_some_iff.1 hm).1
  have h8 : ({ w with heap := w.heap.setIfInBounds r (.map ents' clock') } : World).heap[r]? = some (.map ents' clock') := by simp [hlt]
  have h7 : ∀ k, k ≠ r → ({ w with heap := w.heap.setIfInBounds r (.map ents' clock') } : World).heap[k]? = w.heap[k]? := fun k hk => by simp [Ne.symm hk]
  have hother : ∀ k, g.role k ≠ .map m → ({ w with heap := w.heap.setIfInBounds r (.map ents' clock') } : World).heap[k]? = w.heap[k]? := fun k hk => h7 k (by rintro rfl; exact hk hrole)
  have hkeeps : Keeps g (Safe g st w) w g (Safe g { st with maps := st.maps.set m es' } { w with heap := w.heap.setIfInBounds r (.map ents' clock') }) { w with heap := w.heap.setIfInBounds r (.map ents' clock') } := by
    refine ⟨fun _ _ h => h, fun t k sz used ht => ⟨k, sz, used, ht, .inr ⟨rfl, rfl, rfl, fun cur ty' hb => ⟨cur, ?_, rfl⟩⟩⟩, fun _ _ h => h, fun k off hsafe => ?_⟩
    · rw [hother k (by rw [hs.rt t k sz used ht]; simp)]; exact hb
    · obtain ⟨hk, hr⟩ := hsafe
      refine ⟨⟨by simpa using hk, hr⟩, fun v hv => ?_⟩
      have hne : g.role k ≠ .map m := by
        rcases hr with hr | ⟨_, _, _, hr, _⟩ <;> rw [hr] <;> simp
      simp only [cellA, World.cell?] at hv ⊢
      rw [hother k hne]; exact hv
  refine ⟨⟨hs.lb, hs.lt, by simp [hs.lm], hs.rb, hs.rt, hs.rm, fun i k c hi hk => ?_, hs.one, fun t k sz used ht => ?_, fun m2 r2 es hm2 hes => ?_⟩, ⟨rfl, rfl, rfl, by simp, fun k hk hf => ⟨hother k (by intro e; rw [e] at hf; simp [Role.idle] at hf), rfl⟩, hkeeps, fun i k hi hk => hother k (by rw [hs.rb i k hk]; simp),
    fun t x ht hk => ⟨hother x.1 (by rw [hs.rt t x.1 x.2.1 x.2.2 hk]; simp), hk⟩, fun m2 r2 hm2 hr => hother r2 (by rw [hs.rm m2 r2 hr]; intro e; injection e with e; omega), fun _ _ => rfl, fun _ _ => rfl, fun i hi => List.getElem?_set_ne (by omega), Nat.le_refl _, Nat.le_refl _, by simp⟩⟩
  · obtain ⟨cur, ty', e1, e2, e3⟩ := hs.box i k c hi hk
    exact ⟨cur, ty', by rw [hother k (by rw [hs.rb i k hi]; simp)]; exact e1, e2, fun j c v hj hv => (e3 j c v hj hv).keep hkeeps⟩
  · obtain ⟨cur, ty', e1, e2⟩ := hs.tok t k sz used ht
    exact ⟨cur, ty', e1, by rw [hother k (by rw [hs.rt t k sz used ht]; simp)]; exact e2⟩
  · have hes' : (st.maps.set m es')[m2]? = some es := hes
    by_cases hmm : m2 = m
    · subst hmm
      rw [hm] at hm2
      injection hm2 with hm2; subst hm2
      rw [List.getElem?_set_self hml] at hes'
      injection hes' with hes'; subst hes'
      exact ⟨ents', clock', h8, he.1, fun i k v e hk hee => by
        obtain ⟨e4, e5, e6⟩ := he.2 i k v e hk hee
        exact ⟨e4.keep hkeeps.safe, e5.keep hkeeps.safe, e6⟩⟩
    · rw [List.getElem?_set_ne (fun e => hmm e.symm)] at hes'
      obtain ⟨ents, clock, e1, e2, e3⟩ := hs.map m2 r2 es hm2 hes'
      exact ⟨ents, clock, by rw [hother r2 (by rw [hs.rm m2 r2 hm2]; intro e; injection e with e; exact hmm e)]; exact e1, e2, fun i k v e hk he => by
        obtain ⟨e4, e5, e6⟩ := e3 i k v e hk he
        exact ⟨e4.keep hkeeps.safe, e5.keep hkeeps.safe, e6⟩⟩

/-- The type's zero value. -/
def ckZ1 (P : Program) (t : TypeId) (zero : AV) : Bool := match P.info? t with
  | some i => match i.zero with
    | some z => ckC zero z
    | none => false
  | none => false
theorem ckZ1_ok {P : Program} {t : TypeId} {zero : AV} {w : World} (h : ckZ1 P t zero = true) : ∃ z, (zeroValue t).run P w = .ok z w ∧ ∀ g S w', VR g S w' zero z := by
  unfold ckZ1 at h
  split at h
  · rename_i i hi
    split at h
    · rename_i z hz
      exact ⟨z, by simp [zeroValue, typeInfo, hi, hz], fun g S w' => ckC_ok h⟩
    · exact absurd h (by simp)
  · exact absurd h (by simp)

section
variable {P : Program} {cx : Cx} {kb kt : Option Nat} {g : Gh} {st : St} {w : World} {o : Oper} {a : Act} {env : Env} {bb tb : Nat} {v : AV} {st' : St}

theorem entL {S : Nat → Nat → Prop} {es : List (D × D)} {ents : Array MapEntry} (h : EntR S w es ents) : EntL S w es ents.toList :=
  ⟨by simpa using h.1, fun i k v e hk he => h.2 i k v e hk (by simpa using he)⟩

theorem sim_lookup (hs : SR g st w) (he : ER g (Safe g st w) w env a.tmps) {zero : AV} {ok : Bool} {m k : PO} {m' k' : Operand} {t ky et : TypeId} (ho : o.op = .lookup t m' k' ok) (hm : ckPO m m' = true) (hk : ckPO k k' = true)
    (ht : P.underlying t = some (.map ky et)) (hkt : P.underlying ky = some .string) (hz : ckZ1 P et zero = true) (h : x_lookup zero ok m k cx bb tb env st = some (.val v st')) : Sim P cx kb kt g st w o a v st' := by
  unfold x_lookup at h
  have hmv := he.ev hm
  have hkv := he.ev hk
  split at h
  · rename_i mi l e1 e2
    rw [e1] at hmv; rw [e2] at hkv
    split at h
    · rename_i es hes
      split at h
      · rename_i r hr
        simp only [Option.some.injEq, R.val.injEq] at h
        obtain ⟨rfl, rfl⟩ := h
        generalize hmu : a.eval m' = mu at hmv
        cases hmv with | map _ b hb =>
        obtain ⟨key, hku, rfl⟩ := hkv.str_inv
        obtain ⟨ents, clock, hblk, hent⟩ := hs.map mi b es hb hes
        obtain ⟨z, hzr, hzv⟩ := ckZ1_ok (w := w) hz
        have hck : ∀ em, (Instr.checkKey em 10000 ky (.string key)).run P w = .ok () w := fun em => Go.MapKept.run_checkKey (d := .string) (k := .string key) hkt trivial em 9999
        have fin : ∀ (u : Value) (b : Bool) (y : AV), VR g (Safe g st w) w y u → VR g (Safe g st w) w (if ok then .tup [y, .d (.bool b)] else y) (if ok then .tuple #[u, .bool b] else u) := by
          intro u b y hy
          cases ok with
          | false => exact hy
          | true =>
            refine .tup _ _ rfl (fun i c v hi hv => ?_)
            match i with
            | 0 => simp at hi hv; subst hi; subst hv; exact hy
            | 1 => simp at hi hv; subst hi; subst hv; exact .d _ _ (.bool _)
            | i + 2 => simp at hi
        rcases findS_ok 0 (entL hent) hr with ⟨rfl, g2, _⟩ | ⟨j, e, x, rfl, g2, g3, g4, g5, g6, g7, _⟩
        · refine Sim.pure hs _ ?_ (fin z false zero (hzv _ _ _))
          simp only [execOp, ho, Instr.lookup, Sem.run_bind, hmu, hku, run_underlying ht, Result.andThen_ok, Go.MapKept.run_getObj_map hblk, Sem.run_pure, hck, Go.MapKept.run_findKey hkt g2, hzr]
        · refine Sim.pure hs _ ?_ (fin e.val true (.d x) (.d _ _ g6))
          simp only [execOp, ho, Instr.lookup, Sem.run_bind, hmu, hku, run_underlying ht, Result.andThen_ok, Go.MapKept.run_getObj_map hblk, Sem.run_pure, hck, Go.MapKept.run_findKey hkt g2]
      · exact absurd h (by simp)
    · exact absurd h (by simp)
  · exact absurd h (by simp)

theorem sim_mapup (hs : SR g st w) (he : ER g (Safe g st w) w env a.tmps) {m k x : PO} {m' k' x' : Operand} {t ky et : TypeId} (ho : o.op = .mapUpdate t m' k' x') (hm : ckPO m m' = true) (hk : ckPO k k' = true) (hx : ckPO x x' = true)
    (ht : P.underlying t = some (.map ky et)) (hkt : P.underlying ky = some .string) (h : x_mapup m k x cx bb tb env st = some (.val v st')) : Sim P cx kb kt g st w o a v st' := by
  unfold x_mapup at h
  have hmv := he.ev hm
  have hkv := he.ev hk
  have hxv := he.ev hx
  split at h
  · rename_i mi l y e1 e2 e3
    rw [e1] at hmv; rw [e2] at hkv; rw [e3] at hxv
    split at h
    · rename_i hc
      split at h
      · rename_i es hes
        split at h
        · rename_i es' hput
          simp only [Option.some.injEq, R.val.injEq] at h
          obtain ⟨rfl, rfl⟩ := h
          generalize hmu : a.eval m' = mu at hmv
          cases hmv with | map _ b hb =>
          generalize hxu : a.eval x' = xu at hxv
          cases hxv with | d _ _ hxd =>
          obtain ⟨key, hku, rfl⟩ := hkv.str_inv
          obtain ⟨ents, clock, hblk, hent⟩ := hs.map mi b es hb hes
          have hck : ∀ em, (Instr.checkKey em 10000 ky (.string key)).run P w = .ok () w := fun em => Go.MapKept.run_checkKey (d := .string) (k := .string key) hkt trivial em 9999
          obtain ⟨r, hr⟩ := putS_findS hput
          have hl := hent.1
          rcases findS_ok 0 (entL hent) hr with ⟨rfl, g2, g3⟩ | ⟨j, e, z, rfl, g2, g3, g4, g5, g6, g7, g8⟩
          · rw [g3 y] at hput
            injection hput with hput; subst hput
            obtain ⟨s1, s2⟩ := map_store (cx := cx) (clock' := clock + 1) (es' := es ++ [(.str (natsOf key), y)]) (ents' := ents.push { key := .string key, val := xu, born := clock }) hs hb hc.1 ⟨by simp [hl], fun i k v e hk2 he2 => by
              rw [List.getElem?_append] at hk2
              rw [Array.getElem?_push] at he2
              split at hk2
              · rename_i hi
                rw [if_neg (by omega)] at he2
                exact hent.2 i k v e hk2 he2
              · rename_i hi
                match hq : i - es.length with
                | 0 =>
                  rw [hq] at hk2
                  simp only [List.getElem?_cons_zero, Option.some.injEq, Prod.mk.injEq] at hk2
                  obtain ⟨rfl, rfl⟩ := hk2
                  rw [if_pos (by omega)] at he2
                  injection he2 with he2; subst he2
                  exact ⟨.str _ _ rfl, hxd, hc.2⟩
                | n + 1 => rw [hq] at hk2; simp at hk2⟩
            refine ⟨g, undef, _, .skip, ?_, .inr ⟨rfl, rfl⟩, VR.undef, s1, s2, ⟨fun i hi _ => ⟨hi, rfl⟩, fun i hi _ => ⟨hi, rfl⟩⟩⟩
            simp only [execOp, ho, Instr.mapUpdate, Sem.run_bind, hmu, hku, hxu, run_underlying ht, Result.andThen_ok, Go.MapKept.run_getObj_map hblk, Sem.run_pure, hck, Go.MapKept.run_findKey hkt g2, Go.MapKept.run_setObj_map _ hblk]
          · rw [g8 y] at hput
            injection hput with hput; subst hput
            have hj : ents[j]? = some e := by simpa using g3
            obtain ⟨s1, s2⟩ := map_store (cx := cx) (clock' := clock) (es' := es.set j (.str (natsOf key), y)) (ents' := ents.modify j fun e => { e with key := .string key, val := xu }) hs hb hc.1 ⟨by simp [hl], fun i k v e2 hk2 he2 => by
              rw [List.getElem?_set] at hk2
              rw [Array.getElem?_modify] at he2
              split at hk2
              · rename_i hij
                subst hij
                split at hk2
                · simp only [Option.some.injEq, Prod.mk.injEq] at hk2
                  obtain ⟨rfl, rfl⟩ := hk2
                  rw [if_pos rfl, hj] at he2
                  simp only [Option.map_some, Option.some.injEq] at he2
                  subst he2
                  exact ⟨.str _ _ rfl, hxd, hc.2⟩
                · exact absurd hk2 (by simp)
              · rename_i hij
                rw [if_neg hij] at he2
                exact hent.2 i k v e2 hk2 he2⟩
            refine ⟨g, undef, _, .skip, ?_, .inr ⟨rfl, rfl⟩, VR.undef, s1, s2, ⟨fun i hi _ => ⟨hi, rfl⟩, fun i hi _ => ⟨hi, rfl⟩⟩⟩
            have hst := Go.MapKept.run_keyThatStays (P := P) (w := w) (d := .string) (k := .string key) trivial
            simp only [execOp, ho, Instr.mapUpdate, Sem.run_bind, hmu, hku, hxu, run_underlying ht, Result.andThen_ok, Go.MapKept.run_getObj_map hblk, Sem.run_pure, hck, Go.MapKept.run_findKey hkt g2, Nat.zero_add, hj, Option.map_some, Option.getD_some, g4, hst, Go.MapKept.run_setObj_map _ hblk]
        · exact absurd h (by simp)
      · exact absurd h (by simp)
    · exact absurd h (by simp)
  · exact absurd h (by simp)
end
end Go.Rf

namespace Go.Rf
open Go.Proofs
set_option linter.unusedVariables false
set_option linter.unusedSimpArgs false
theorem run_checkPair {P : Program} {w : World} {kt el : TypeId} (hu : P.underlying kt = some (.array 2 el)) (he : P.underlying el = some .string) (ha : isAggOf P el = some false) (hz : sizeOfT P el = some 1) (em : Bool) (x y : ByteArray) :
    (Instr.checkKey em 10000 kt (.agg #[.string x, .string y])).run P w = .ok () w := by
  have h1 : ∀ s, (Instr.checkKey em 9999 el (.string s)).run P w = .ok () w := fun s => Go.MapKept.run_checkKey (d := .string) (k := .string s) he trivial em 9998
  rw [show (10000 : Nat) = 9999 + 1 from rfl]
  unfold Instr.checkKey
  simp only [Sem.run_bind, run_underlying hu, Result.andThen_ok]
  simp [Std.Legacy.Range.forIn_eq_forIn_range', Std.Legacy.Range.size, List.range', run_sizeOf hz, part, run_isAgg ha, h1]
theorem run_eqPair {P : Program} {w : World} {kt el : TypeId} (hu : P.underlying kt = some (.array 2 el)) (he : P.underlying el = some .string) (ha : isAggOf P el = some false) (hz : sizeOfT P el = some 1) (x y u v : ByteArray) :
    (Op.equal kt (.agg #[.string x, .string y]) (.agg #[.string u, .string v])).run P w = .ok (beqN (natsOf x) (natsOf u) && beqN (natsOf y) (natsOf v)) w := by
  have h1 : ∀ s t, (Op.equalIn 9999 el (.string s) (.string t)).run P w = .ok (beqN (natsOf s) (natsOf t)) w := fun s t => by
    rw [run_equalIn_string w 9998 el s t he]; unfold natsOf; rw [beqN_map, ByteArray.toList_eq, ByteArray.toList_eq]
  unfold Op.equal Op.maxDepth
  rw [show (10000 : Nat) = 9999 + 1 from rfl]
  unfold Op.equalIn
  simp only [Sem.run_bind, run_underlying hu, Result.andThen_ok]
  simp [Std.Legacy.Range.forIn_eq_forIn_range', Std.Legacy.Range.size, List.range', run_sizeOf hz, part, run_isAgg ha, h1]
  cases beqN (natsOf x) (natsOf u) <;> cases beqN (natsOf y) (natsOf v) <;> simp
theorem pair_dr {S : Nat → Nat → Prop} {w : World} (x y : ByteArray) : DR S w (.agg [.str (natsOf x), .str (natsOf y)]) (.agg #[.string x, .string y]) :=
  .agg _ _ rfl (fun i c v hc hv => by
    match i with
    | 0 => simp at hc hv; subst hc; subst hv; exact .str _ _ rfl
    | 1 => simp at hc hv; subst hc; subst hv; exact .str _ _ rfl
    | i + 2 => simp at hc) (fun c hc => by simp at hc; rcases hc with rfl | rfl <;> rfl)

theorem keyP_inv {g : Gh} {S : Nat → Nat → Prop} {w : World} {k : AV} {a b : List Nat} {u : Value} (h : keyP k = some (a, b)) (hv : VR g S w k u) : ∃ x y, u = .agg #[.string x, .string y] ∧ natsOf x = a ∧ natsOf y = b := by
  unfold keyP at h
  split at h
  · rename_i p q
    simp only [Option.some.injEq, Prod.mk.injEq] at h
    obtain ⟨rfl, rfl⟩ := h
    cases hv with | agg _ vs hl hc ho =>
    obtain ⟨l⟩ := vs
    match l, hl, hc with
    | [v1, v2], hl, hc =>
      obtain ⟨x, rfl, hx⟩ := (hc 0 _ v1 rfl rfl).str_inv
      obtain ⟨y, rfl, hy⟩ := (hc 1 _ v2 rfl rfl).str_inv
      exact ⟨x, y, rfl, hx, hy⟩
    | [], hl, _ => simp at hl
    | [_], hl, _ => simp at hl
    | _ :: _ :: _ :: _, hl, _ => simp at hl
  · exact absurd h (by simp)
theorem isKeyP_inv {S : Nat → Nat → Prop} {w : World} {a b : List Nat} {k : D} {u : Value} {r : Bool} (h : isKeyP a b k = some r) (hv : DR S w k u) : ∃ x y, u = .agg #[.string x, .string y] ∧ r = (beqN a (natsOf x) && beqN b (natsOf y)) ∧ k = .agg [.str (natsOf x), .str (natsOf y)] := by
  unfold isKeyP at h
  split at h
  · rename_i c d
    injection h with h; subst h
    cases hv with | agg _ vs hl hc ho =>
    obtain ⟨l⟩ := vs
    match l, hl, hc with
    | [v1, v2], hl, hc =>
      have h1 := hc 0 _ v1 rfl rfl
      have h2 := hc 1 _ v2 rfl rfl
      cases h1 with | str _ x hx => cases h2 with | str _ y hy =>
      subst hx; subst hy
      exact ⟨x, y, rfl, rfl, rfl⟩
    | [], hl, _ => simp at hl
    | [_], hl, _ => simp at hl
    | _ :: _ :: _ :: _, hl, _ => simp at hl
  · exact absurd h (by simp)
theorem findP_ok {P : Program} {S : Nat → Nat → Prop} {w : World} {kt el : TypeId} (hu : P.underlying kt = some (.array 2 el)) (he : P.underlying el = some .string) (ha : isAggOf P el = some false) (hz : sizeOfT P el = some 1) {x y : ByteArray} : ∀ {es : List (D × D)} {l : List MapEntry} {r : Option D} (i : Nat), EntL S w es l → findP (natsOf x) (natsOf y) es = some r →
    (r = none ∧ (Instr.findAsking kt (.agg #[.string x, .string y]) l i).run P w = .ok none w ∧ ∀ v, putP (natsOf x) (natsOf y) v es = some (es ++ [(.agg [.str (natsOf x), .str (natsOf y)], v)])) ∨
    ∃ j e v, r = some v ∧ (Instr.findAsking kt (.agg #[.string x, .string y]) l i).run P w = .ok (some (i + j, e.val)) w ∧ l[j]? = some e ∧ e.key = .agg #[.string x, .string y] ∧ es[j]? = some (.agg [.str (natsOf x), .str (natsOf y)], v) ∧ DR S w v e.val ∧ v.one = true ∧ ∀ u, putP (natsOf x) (natsOf y) u es = some (es.set j (.agg [.str (natsOf x), .str (natsOf y)], u))
  | [], [], r, i, h, hf => by
    simp only [findP, Option.some.injEq] at hf
    exact .inl ⟨hf.symm, rfl, fun v => rfl⟩
  | [], _ :: _, r, i, h, hf => by simp [EntL] at h
  | _ :: _, [], r, i, h, hf => by simp [EntL] at h
  | (k, u) :: es, e :: l, r, i, h, hf => by
    obtain ⟨h1, h2, h3⟩ := h.2 0 k u e rfl rfl
    simp only [findP] at hf
    split at hf
    · rename_i hk
      injection hf with hf; subst hf
      obtain ⟨p, q, e1, e2, e3⟩ := isKeyP_inv hk h1
      have e2' := e2
      simp only [Bool.true_eq, Bool.and_eq_true, beqN_iff] at e2
      obtain rfl := natsOf_inj e2.1
      obtain rfl := natsOf_inj e2.2
      subst e3
      refine .inr ⟨0, e, u, rfl, ?_, rfl, e1, rfl, h2, h3, fun v => ?_⟩
      · simp only [Instr.findAsking, Sem.run_bind, e1, run_eqPair hu he ha hz, ← e2', Result.andThen_ok, if_true, Sem.run_pure, Nat.add_zero]
      · simp only [putP, hk]; rfl
    · rename_i hk
      obtain ⟨p, q, e1, e2, e3⟩ := isKeyP_inv hk h1
      rcases findP_ok hu he ha hz (i + 1) h.tail hf with ⟨g1, g2, g3⟩ | ⟨j, e', v, g1, g2, g3, g4, g5, g6, g7, g8⟩
      · refine .inl ⟨g1, ?_, fun v => ?_⟩
        · simp only [Instr.findAsking, Sem.run_bind, e1, run_eqPair hu he ha hz, ← e2, Result.andThen_ok, Bool.false_eq_true, if_false, g2]
        · simp only [putP, hk, g3 v]; rfl
      · refine .inr ⟨j + 1, e', v, g1, ?_, by simpa using g3, g4, by simpa using g5, g6, g7, fun v => ?_⟩
        · simp only [Instr.findAsking, Sem.run_bind, e1, run_eqPair hu he ha hz, ← e2, Result.andThen_ok, Bool.false_eq_true, if_false, g2]
          congr 3; omega
        · simp only [putP, hk, g8 v]; rfl
    · exact absurd hf (by simp)
theorem putP_findP {a b : List Nat} {v : D} : ∀ {es out : List (D × D)}, putP a b v es = some out → ∃ r, findP a b es = some r
  | [], _, _ => ⟨none, rfl⟩
  | (k, u) :: es, out, h => by
    unfold putP at h
    unfold findP
    cases hk : isKeyP a b k with
    | none => rw [hk] at h; exact absurd h (by simp)
    | some r =>
      rw [hk] at h
      cases r with
      | true => exact ⟨_, rfl⟩
      | false =>
        obtain ⟨o2, h1, _⟩ := Option.map_eq_some_iff.1 h
        exact putP_findP h1
theorem run_findPair {P : Program} {w : World} {kt el : TypeId} (hu : P.underlying kt = some (.array 2 el)) {k : Value} {l : List MapEntry} {r : Option (Nat × Value)} (h : (Instr.findAsking kt k l 0).run P w = .ok r w) : (Instr.findKey kt k l).run P w = .ok r w := by
  unfold Instr.findKey
  simp only [Sem.run_bind, run_underlying hu, Result.andThen_ok]
  cases l with
  | nil => simpa [Instr.findNow, Instr.findAsking] using h
  | cons e l =>
    have : Instr.findNow (.array 2 el) k (e :: l) 0 = none := by simp [Instr.findNow, Instr.sameNow]
    rw [this]
    exact h
theorem run_pairStays {P : Program} {w : World} (x y : ByteArray) : (Instr.keyThatStays (.agg #[.string x, .string y]) (.agg #[.string x, .string y])).run P w = .ok (.agg #[.string x, .string y]) w := by
  have : Instr.sameBits 10000 (.agg #[.string x, .string y]) (.agg #[.string x, .string y]) = true := by
    rw [show (10000 : Nat) = 9999 + 1 from rfl]
    unfold Instr.sameBits
    simp [Instr.sameBits, (Go.MapKept.bytes_beq _ _).2 rfl]
  simp [Instr.keyThatStays, this]
section
variable {P : Program} {cx : Cx} {kb kt : Option Nat} {g : Gh} {st : St} {w : World} {o : Oper} {a : Act} {env : Env} {bb tb : Nat} {v : AV} {st' : St}

theorem sim_lookup2 (hs : SR g st w) (he : ER g (Safe g st w) w env a.tmps) {zero : AV} {ok : Bool} {m k : PO} {m' k' : Operand} {t ky et el : TypeId} (ho : o.op = .lookup t m' k' ok) (hm : ckPO m m' = true) (hk : ckPO k k' = true)
    (ht : P.underlying t = some (.map ky et)) (hkt : P.underlying ky = some (.array 2 el)) (hel : P.underlying el = some .string) (ha : isAggOf P el = some false) (hsz : sizeOfT P el = some 1) (hz : ckZ1 P et zero = true) (h : x_lookup2 zero ok m k cx bb tb env st = some (.val v st')) : Sim P cx kb kt g st w o a v st' := by
  unfold x_lookup2 at h
  have hmv := he.ev hm
  have hkv := he.ev hk
  split at h
  · rename_i mi la lb e1 e2
    rw [e1] at hmv
    split at h
    · rename_i es hes
      split at h
      · rename_i r hr
        simp only [Option.some.injEq, R.val.injEq] at h
        obtain ⟨rfl, rfl⟩ := h
        generalize hmu : a.eval m' = mu at hmv
        cases hmv with | map _ b hb =>
        obtain ⟨kx, ky2, hku, rfl, rfl⟩ := keyP_inv e2 hkv
        obtain ⟨ents, clock, hblk, hent⟩ := hs.map mi b es hb hes
        obtain ⟨z, hzr, hzv⟩ := ckZ1_ok (w := w) hz
        have hck := fun em => run_checkPair (w := w) hkt hel ha hsz em kx ky2
        have fin : ∀ (u : Value) (b : Bool) (y : AV), VR g (Safe g st w) w y u → VR g (Safe g st w) w (if ok then .tup [y, .d (.bool b)] else y) (if ok then .tuple #[u, .bool b] else u) := by
          intro u b y hy
          cases ok with
          | false => exact hy
          | true =>
            refine .tup _ _ rfl (fun i c v hi hv => ?_)
            match i with
            | 0 => simp at hi hv; subst hi; subst hv; exact hy
            | 1 => simp at hi hv; subst hi; subst hv; exact .d _ _ (.bool _)
            | i + 2 => simp at hi
        rcases findP_ok hkt hel ha hsz 0 (entL hent) hr with ⟨rfl, g2, _⟩ | ⟨j, e, x, rfl, g2, g3, g4, g5, g6, g7, _⟩
        · refine Sim.pure hs _ ?_ (fin z false zero (hzv _ _ _))
          simp only [execOp, ho, Instr.lookup, Sem.run_bind, hmu, hku, run_underlying ht, Result.andThen_ok, Go.MapKept.run_getObj_map hblk, Sem.run_pure, hck, run_findPair hkt g2, hzr]
        · refine Sim.pure hs _ ?_ (fin e.val true (.d x) (.d _ _ g6))
          simp only [execOp, ho, Instr.lookup, Sem.run_bind, hmu, hku, run_underlying ht, Result.andThen_ok, Go.MapKept.run_getObj_map hblk, Sem.run_pure, hck, run_findPair hkt g2]
      · exact absurd h (by simp)
    · exact absurd h (by simp)
  · exact absurd h (by simp)

theorem sim_mapup2 (hs : SR g st w) (he : ER g (Safe g st w) w env a.tmps) {m k x : PO} {m' k' x' : Operand} {t ky et el : TypeId} (ho : o.op = .mapUpdate t m' k' x') (hm : ckPO m m' = true) (hk : ckPO k k' = true) (hx : ckPO x x' = true)
    (ht : P.underlying t = some (.map ky et)) (hkt : P.underlying ky = some (.array 2 el)) (hel : P.underlying el = some .string) (ha : isAggOf P el = some false) (hsz : sizeOfT P el = some 1) (h : x_mapup2 m k x cx bb tb env st = some (.val v st')) : Sim P cx kb kt g st w o a v st' := by
  unfold x_mapup2 at h
  have hmv := he.ev hm
  have hkv := he.ev hk
  have hxv := he.ev hx
  split at h
  · rename_i mi la lb y e1 e2 e3
    rw [e1] at hmv; rw [e3] at hxv
    split at h
    · rename_i hc
      split at h
      · rename_i es hes
        split at h
        · rename_i es' hput
          simp only [Option.some.injEq, R.val.injEq] at h
          obtain ⟨rfl, rfl⟩ := h
          generalize hmu : a.eval m' = mu at hmv
          cases hmv with | map _ b hb =>
          generalize hxu : a.eval x' = xu at hxv
          cases hxv with | d _ _ hxd =>
          obtain ⟨kx, ky2, hku, rfl, rfl⟩ := keyP_inv e2 hkv
          obtain ⟨ents, clock, hblk, hent⟩ := hs.map mi b es hb hes
          have hck := fun em => run_checkPair (w := w) hkt hel ha hsz em kx ky2
          obtain ⟨r, hr⟩ := putP_findP hput
          have hl := hent.1
          rcases findP_ok hkt hel ha hsz 0 (entL hent) hr with ⟨rfl, g2, g3⟩ | ⟨j, e, z, rfl, g2, g3, g4, g5, g6, g7, g8⟩
          · rw [g3 y] at hput
            injection hput with hput; subst hput
            obtain ⟨s1, s2⟩ := map_store (cx := cx) (clock' := clock + 1) (es' := es ++ [(.agg [.str (natsOf kx), .str (natsOf ky2)], y)]) (ents' := ents.push { key := .agg #[.string kx, .string ky2], val := xu, born := clock }) hs hb hc.1 ⟨by simp [hl], fun i k v e hk2 he2 => by
              rw [List.getElem?_append] at hk2
              rw [Array.getElem?_push] at he2
              split at hk2
              · rename_i hi
                rw [if_neg (by omega)] at he2
                exact hent.2 i k v e hk2 he2
              · rename_i hi
                match hq : i - es.length with
                | 0 =>
                  rw [hq] at hk2
                  simp only [List.getElem?_cons_zero, Option.some.injEq, Prod.mk.injEq] at hk2
                  obtain ⟨rfl, rfl⟩ := hk2
                  rw [if_pos (by omega)] at he2
                  injection he2 with he2; subst he2
                  exact ⟨pair_dr _ _, hxd, hc.2⟩
                | n + 1 => rw [hq] at hk2; simp at hk2⟩
            refine ⟨g, undef, _, .skip, ?_, .inr ⟨rfl, rfl⟩, VR.undef, s1, s2, ⟨fun i hi _ => ⟨hi, rfl⟩, fun i hi _ => ⟨hi, rfl⟩⟩⟩
            simp only [execOp, ho, Instr.mapUpdate, Sem.run_bind, hmu, hku, hxu, run_underlying ht, Result.andThen_ok, Go.MapKept.run_getObj_map hblk, Sem.run_pure, hck, run_findPair hkt g2, Go.MapKept.run_setObj_map _ hblk]
          · rw [g8 y] at hput
            injection hput with hput; subst hput
            have hj : ents[j]? = some e := by simpa using g3
            obtain ⟨s1, s2⟩ := map_store (cx := cx) (clock' := clock) (es' := es.set j (.agg [.str (natsOf kx), .str (natsOf ky2)], y)) (ents' := ents.modify j fun e => { e with key := .agg #[.string kx, .string ky2], val := xu }) hs hb hc.1 ⟨by simp [hl], fun i k v e2 hk2 he2 => by
              rw [List.getElem?_set] at hk2
              rw [Array.getElem?_modify] at he2
              split at hk2
              · rename_i hij
                subst hij
                split at hk2
                · simp only [Option.some.injEq, Prod.mk.injEq] at hk2
                  obtain ⟨rfl, rfl⟩ := hk2
                  rw [if_pos rfl, hj] at he2
                  simp only [Option.map_some, Option.some.injEq] at he2
                  subst he2
                  exact ⟨pair_dr _ _, hxd, hc.2⟩
                · exact absurd hk2 (by simp)
              · rename_i hij
                rw [if_neg hij] at he2
                exact hent.2 i k v e2 hk2 he2⟩
            refine ⟨g, undef, _, .skip, ?_, .inr ⟨rfl, rfl⟩, VR.undef, s1, s2, ⟨fun i hi _ => ⟨hi, rfl⟩, fun i hi _ => ⟨hi, rfl⟩⟩⟩
            have hst := run_pairStays (P := P) (w := w) kx ky2
            simp only [execOp, ho, Instr.mapUpdate, Sem.run_bind, hmu, hku, hxu, run_underlying ht, Result.andThen_ok, Go.MapKept.run_getObj_map hblk, Sem.run_pure, hck, run_findPair hkt g2, Nat.zero_add, hj, Option.map_some, Option.getD_some, g4, hst, Go.MapKept.run_setObj_map _ hblk]
        · exact absurd h (by simp)
      · exact absurd h (by simp)
    · exact absurd h (by simp)
  · exact absurd h (by simp)
end
end Go.Rf

namespace Go.Rf
set_option linter.unusedVariables false
set_option linter.unusedSimpArgs false

def sliceT (P : Program) (t : TypeId) : Option TypeId := match P.underlying t with | some (.slice e) => some e | _ => none
def isStrT (P : Program) (t : TypeId) : Bool := match P.underlying t with | some .string => true | _ => false
def isBoolT (P : Program) (t : TypeId) : Bool := match P.underlying t with | some .bool => true | _ => false
def intT (P : Program) (t : TypeId) : Option IntKind := match P.underlying t with | some (.int k) => some k | _ => none
def arrayT (P : Program) (t : TypeId) : Option (Nat × TypeId) := match P.underlying t with | some (.array n e) => some (n, e) | _ => none
def structT (P : Program) (t : TypeId) : Option (Array Field) := match P.underlying t with | some (.struct fs) => some fs | _ => none
def mapT (P : Program) (t : TypeId) : Option (TypeId × TypeId) := match P.underlying t with | some (.map k e) => some (k, e) | _ => none
def plainT (P : Program) (t : TypeId) : Bool := match P.underlying t with | some (.interface _) => false | some _ => true | none => false

theorem sliceT_ok {P : Program} {t e : TypeId} (h : sliceT P t = some e) : P.underlying t = some (.slice e) := by
  unfold sliceT at h; split at h
  · rename_i e' h'; injection h with h; subst h; exact h'
  · exact absurd h (by simp)
def pairT (P : Program) (t : TypeId) : Bool := match P.underlying t with
  | some (.array 2 el) => isStrT P el && isAggOf P el == some false && sizeOfT P el == some 1
  | _ => false
theorem isStrT_ok {P : Program} {t : TypeId} (h : isStrT P t = true) : P.underlying t = some .string := by
  unfold isStrT at h; split at h
  · assumption
  · exact absurd h (by simp)
theorem pairT_ok {P : Program} {t : TypeId} (h : pairT P t = true) : ∃ el, P.underlying t = some (.array 2 el) ∧ P.underlying el = some .string ∧ isAggOf P el = some false ∧ sizeOfT P el = some 1 := by
  unfold pairT at h; split at h
  · rename_i el hu
    simp only [Bool.and_eq_true, beq_iff_eq] at h
    exact ⟨el, hu, isStrT_ok h.1.1, h.1.2, h.2⟩
  · exact absurd h (by simp)
theorem isBoolT_ok {P : Program} {t : TypeId} (h : isBoolT P t = true) : P.underlying t = some .bool := by
  unfold isBoolT at h; split at h
  · assumption
  · exact absurd h (by simp)
theorem intT_ok {P : Program} {t : TypeId} {k : IntKind} (h : intT P t = some k) : P.underlying t = some (.int k) := by
  unfold intT at h; split at h
  · rename_i e' h'; injection h with h; subst h; exact h'
  · exact absurd h (by simp)
theorem arrayT_ok {P : Program} {t e : TypeId} {n : Nat} (h : arrayT P t = some (n, e)) : P.underlying t = some (.array n e) := by
  unfold arrayT at h; split at h
  · rename_i n' e' h'; simp only [Option.some.injEq, Prod.mk.injEq] at h; obtain ⟨rfl, rfl⟩ := h; exact h'
  · exact absurd h (by simp)
theorem structT_ok {P : Program} {t : TypeId} {fs : Array Field} (h : structT P t = some fs) : P.underlying t = some (.struct fs) := by
  unfold structT at h; split at h
  · rename_i e' h'; injection h with h; subst h; exact h'
  · exact absurd h (by simp)
theorem mapT_ok {P : Program} {t k e : TypeId} (h : mapT P t = some (k, e)) : P.underlying t = some (.map k e) := by
  unfold mapT at h; split at h
  · rename_i n' e' h'; simp only [Option.some.injEq, Prod.mk.injEq] at h; obtain ⟨rfl, rfl⟩ := h; exact h'
  · exact absurd h (by simp)
theorem plainT_ok {P : Program} {t : TypeId} (h : plainT P t = true) : ∃ d, P.underlying t = some d ∧ ∀ ms, d ≠ .interface ms := by
  unfold plainT at h; split at h
  · exact absurd h (by simp)
  · rename_i d hd hn
    exact ⟨d, hn, fun ms e => by subst e; exact hd ms rfl⟩
  · exact absurd h (by simp)

def fieldOk (P : Program) (t : TypeId) (n : Nat) (f : Field → Bool) : Bool := match structT P t with
  | some fs => match fs[n]? with
    | some x => f x
    | none => false
  | none => false
theorem fieldOk_ok {P : Program} {t : TypeId} {n : Nat} {f : Field → Bool} (h : fieldOk P t n f = true) : ∃ fs x, P.underlying t = some (.struct fs) ∧ fs[n]? = some x ∧ f x = true := by
  unfold fieldOk at h
  split at h
  · rename_i fs hfs
    split at h
    · rename_i x hx
      exact ⟨fs, x, structT_ok hfs, hx, h⟩
    · exact absurd h (by simp)
  · exact absurd h (by simp)

/-- One argument of a builtin. -/
def arg1 (c : Call) : Option (Operand × TypeId) := match c.args.toList, c.argTypes.toList with
  | [y], [t] => some (y, t)
  | _, _ => none
def arg2 (c : Call) : Option (Operand × Operand) := match c.args.toList with
  | [x, y] => some (x, y)
  | _ => none
def arg3 (c : Call) : Option (Operand × Operand × Operand) := match c.args.toList with
  | [x, y, z] => some (x, y, z)
  | _ => none
def arg22 (c : Call) : Option (Operand × Operand × TypeId × TypeId) := match c.args.toList, c.argTypes.toList with
  | [x, y], [t, u] => some (x, y, t, u)
  | _, _ => none
theorem toList_eq {α : Type} {a : Array α} {l : List α} (h : a.toList = l) : a = l.toArray := by subst h; rfl
theorem arg1_ok {c : Call} {y : Operand} {t : TypeId} (h : arg1 c = some (y, t)) : c.args = #[y] ∧ c.argTypes = #[t] := by
  unfold arg1 at h; split at h
  · rename_i a b h1 h2
    simp only [Option.some.injEq, Prod.mk.injEq] at h; obtain ⟨rfl, rfl⟩ := h
    exact ⟨toList_eq h1, toList_eq h2⟩
  · exact absurd h (by simp)
theorem arg3_ok {c : Call} {x y z : Operand} (h : arg3 c = some (x, y, z)) : c.args = #[x, y, z] := by
  unfold arg3 at h; split at h
  · rename_i a b d h1
    simp only [Option.some.injEq, Prod.mk.injEq] at h; obtain ⟨rfl, rfl, rfl⟩ := h
    exact toList_eq h1
  · exact absurd h (by simp)
theorem arg2_ok {c : Call} {x y : Operand} (h : arg2 c = some (x, y)) : c.args = #[x, y] := by
  unfold arg2 at h; split at h
  · rename_i a b h1
    simp only [Option.some.injEq, Prod.mk.injEq] at h; obtain ⟨rfl, rfl⟩ := h
    exact toList_eq h1
  · exact absurd h (by simp)
theorem arg22_ok {c : Call} {x y : Operand} {t u : TypeId} (h : arg22 c = some (x, y, t, u)) : c.args = #[x, y] ∧ c.argTypes = #[t, u] := by
  unfold arg22 at h; split at h
  · rename_i a b a' b' h1 h2
    simp only [Option.some.injEq, Prod.mk.injEq] at h; obtain ⟨rfl, rfl, rfl, rfl⟩ := h
    exact ⟨toList_eq h1, toList_eq h2⟩
  · exact absurd h (by simp)

def ck_call (b : Builtin) (op : Op) (f : Call → Bool) : Bool := match op with
  | .call c => (match c.callee with | .builtin b' => decide (b' = b) | _ => false) && f c
  | _ => false
theorem ck_call_ok {b : Builtin} {op : Op} {f : Call → Bool} (h : ck_call b op f = true) : ∃ c, op = .call c ∧ c.callee = .builtin b ∧ f c = true := by
  unfold ck_call at h
  split at h
  · rename_i c
    simp only [Bool.and_eq_true] at h
    obtain ⟨h1, h2⟩ := h
    split at h1
    · rename_i b' hb
      simp only [decide_eq_true_eq] at h1
      subst h1
      exact ⟨c, rfl, hb, h2⟩
    · exact absurd h1 (by simp)
  · exact absurd h (by simp)

def ckA : AV → Value → Bool
  | .agg cs, .agg vs => ckCells cs vs.toList && cs.all AV.isOne
  | v, u => ckC v u
theorem ckA_ok {g : Gh} {S : Nat → Nat → Prop} {w : World} {v : AV} {u : Value} (h : ckA v u = true) : VR g S w v u := by
  unfold ckA at h
  split at h
  · rename_i cs vs
    simp only [Bool.and_eq_true] at h
    have hc := ckCells_ok (g := g) (S := S) (w := w) h.1
    have h2 := h.2
    rw [List.all_eq_true] at h2
    exact .agg _ _ (by simpa using hc.1) (fun i c v hc' hv => hc.2 i c v hc' (by simpa using hv)) h2
  · exact ckC_ok h
/-- The type's zero value, one cell or several. -/
def ckZA (P : Program) (t : TypeId) (zero : AV) : Bool := match P.info? t with
  | some i => match i.zero with
    | some z => ckA zero z
    | none => false
  | none => false
theorem ckZA_ok {P : Program} {t : TypeId} {zero : AV} (h : ckZA P t zero = true) : ∃ z, (P.info? t).map (·.zero) = some (some z) ∧ ∀ g S w, VR g S w zero z := by
  unfold ckZA at h
  split at h
  · rename_i i hi
    split at h
    · rename_i z hz
      exact ⟨z, by simp [hi, hz], fun g S w => ckA_ok h⟩
    · exact absurd h (by simp)
  · exact absurd h (by simp)

/-- Every operation but calls and panics. -/
def ckOp (P : Program) (rz : List (List AV)) (rt : List (Nat × Nat)) : PI → Op → Bool
  | .mv x, op => match op with | .move y => ckPO x y | .assign y => ckPO x y | _ => false
  | .pick c x y, op => match op with | .pick c' x' y' => ckPO c c' && ckPO x x' && ckPO y y' | _ => false
  | .alloc j, op => match op with | .alloc e => (match rz[j]? with | some z => ckZero P e z && z.all plainCell | none => false) | _ => false
  | .box x, op => match op with | .box e y => ckPO x y | _ => false
  | .build zero parts, op => match op with
    | .build t ps => ckZero P t zero && (match structT P t with
      | some fs => sizesOk P fs.toList && ckParts P fs parts ps.toList
      | none => match arrayT P t with
        | some (n, e) => (match sizeOfT P e with | some esz => ckPartsA esz parts ps.toList | none => false)
        | none => false)
    | _ => false
  | .bslice j esz len zero parts, op => match op with
    | .buildSlice t len' ps => match sliceT P t with
      | some e => len == len' && sizeOfT P e == some esz && Nat.blt 0 esz && Nat.ble (len * esz) 16777216 && ckZero P e (zero.map .d) && zero.length == esz && zero.all D.one && ckPartsS parts ps.toList && rt[j]? == some (len, esz)
      | none => false
    | _ => false
  | .bsliceB esz len zero parts, op => match op with
    | .buildSlice t len' ps => match sliceT P t with
      | some e => len == len' && sizeOfT P e == some esz && Nat.blt 0 esz && Nat.ble (len * esz) 16777216 && ckZero P e zero && zero.length == esz && ckPartsA esz (parts.map fun (i, x) => (i * esz, esz, x)) ps.toList
      | none => false
    | _ => false
  | .mkB esz bytes zero n, op => match op with
    | .makeSlice t l c => match sliceT P t with
      | some e => ckPO n l && ckPO n c && elemOk P e esz bytes && Nat.blt 0 esz && Nat.blt 0 bytes && ckZero P e zero && zero.length == esz && zero.all plainCell
      | none => false
    | _ => false
  | .load agg n x, op => match op with | .load t y => ckPO x y && isAggOf P t == some agg && sizeOfT P t == some n | _ => false
  | .store n x y, op => match op with | .store t x' y' => ckPO x x' && ckPO y y' && sizeOfT P t == some n | _ => false
  | .nilchk x, op => match op with | .nilCheck y => ckPO x y | _ => false
  | .bin b x y, op => match op with | .binOp b' t x' y' t2 => decide (b = b') && ckPO x x' && ckPO y y' | _ => false
  | .eqB neg x y, op => match op with | .binOp b' t x' y' t2 => decide (b' = (if neg then .neq else .eql)) && ckPO x x' && ckPO y y' && isBoolT P t | _ => false
  | .eqS ks neg x y, op => match op with | .binOp b' t x' y' t2 => decide (b' = (if neg then .neq else .eql)) && ckPO x x' && ckPO y y' && (structT P t).isSome && !(P.stoodInHeld t) && !(P.eqGuardType P.depth t) && ckFlat P (P.fieldsOf t).toList ks 0 | _ => false
  | .not x, op => match op with | .unOp .not t y => ckPO x y | _ => false
  | .neg x, op => match op with | .unOp .neg t y => ckPO x y | _ => false
  | .conv k x, op => match op with | .convert t t2 y => ckPO x y && (intT P t).isSome && (match intT P t2 with | some k' => decide (k' = k) | none => false) | _ => false
  | .convSS x, op => match op with | .convert t t2 y => ckPO x y && isStrT P t && isStrT P t2 | _ => false
  | .mkI t x, op => match op with | .makeInterface t' y => t == t' && ckPO x y && plainT P t' | _ => false
  | .mkF f caps, op => match op with | .makeFunc (.func f') first ys => f == f' && first.isEmpty && ckPOs caps ys.toList | _ => false
  | .mkM, op => match op with | .makeMap t none => true | _ => false
  | .slStr x lo hi, op => match op with | .slice t x' lo' hi' none => ckPO x x' && ckOpt lo lo' && ckOpt hi hi' && isStrT P t | _ => false
  | .slSl esz x lo hi, op => match op with
    | .slice t x' lo' hi' none => ckPO x x' && ckOpt lo lo' && ckOpt hi hi' && (match sliceT P t with | some e => sizeOfT P e == some esz | none => false)
    | _ => false
  | .fldA off x, op => match op with | .fieldAddr t y n => ckPO x y && fieldOk P t n (fun f => f.offset == off && (match sizeOfT P f.type with | some sz => sz != 0 | none => false)) | _ => false
  | .fldV agg off n x, op => match op with | .field t y k => ckPO x y && fieldOk P t k (fun f => f.offset == off && isAggOf P f.type == some agg && sizeOfT P f.type == some n) | _ => false
  | .idxA esz x i, op => match op with | .indexAddr t x' i' => ckPO x x' && ckPO i i' && (match sliceT P t with | some e => sizeOfT P e == some esz | none => false) | _ => false
  | .idxAA esz len x i, op => match op with | .indexAddr t x' i' => ckPO x x' && ckPO i i' && (match arrayT P t with | some (n, e) => n == len && sizeOfT P e == some esz | none => false) | _ => false
  | .idxS x i, op => match op with | .index t x' i' => ckPO x x' && ckPO i i' && isStrT P t | _ => false
  | .idxV agg esz len x i, op => match op with | .index t x' i' => ckPO x x' && ckPO i i' && (match arrayT P t with | some (n, e) => n == len && isAggOf P e == some agg && sizeOfT P e == some esz | none => false) | _ => false
  | .lookup zero ok m k, op => match op with | .lookup t m' k' ok' => ok == ok' && ckPO m m' && ckPO k k' && (match mapT P t with | some (kt, et) => isStrT P kt && ckZ1 P et zero | none => false) | _ => false
  | .mapup m k x, op => match op with | .mapUpdate t m' k' x' => ckPO m m' && ckPO k k' && ckPO x x' && (match mapT P t with | some (kt, et) => isStrT P kt | none => false) | _ => false
  | .lookup2 zero ok m k, op => match op with | .lookup t m' k' ok' => ok == ok' && ckPO m m' && ckPO k k' && (match mapT P t with | some (kt, et) => pairT P kt && ckZ1 P et zero | none => false) | _ => false
  | .mapup2 m k x, op => match op with | .mapUpdate t m' k' x' => ckPO m m' && ckPO k k' && ckPO x x' && (match mapT P t with | some (kt, et) => pairT P kt | none => false) | _ => false
  | .tassert t zero x, op => match op with | .typeAssert y xt t' true => t == t' && ckPO x y && plainT P t' && ckZA P t' zero | _ => false
  | .ext i x, op => match op with | .extract y i' => i == i' && ckPO x y | _ => false
  | .lenS x, op => ck_call .len op fun c => match arg1 c with | some (y, t) => ckPO x y && isStrT P t | none => false
  | .lenL x, op => ck_call .len op fun c => match arg1 c with | some (y, t) => ckPO x y && (sliceT P t).isSome | none => false
  | .app j esz bytes s x, op => ck_call .append op fun c => match arg22 c with
    | some (s', x', t, tx) => ckPO s s' && ckPO x x' && (sliceT P tx).isSome && Nat.blt 0 bytes && Nat.blt j rt.length && (match sliceT P t with | some e => elemOk P e esz bytes | none => false)
    | none => false
  | .mx x y, op => ck_call .max op fun c => match arg2 c with | some (x', y') => ckPO x x' && ckPO y y' | none => false
  | .eqNil x, op => match op with | .binOp .eql t x' (.const (.slice none 0 0)) t2 => ckPO x x' && (sliceT P t).isSome | _ => false
  | .mn3 x y z, op => ck_call .min op fun c => match arg3 c with | some (x', y', z') => ckPO x x' && ckPO y y' && ckPO z z' | none => false
  | .mn x y, op => ck_call .min op fun c => match arg2 c with | some (x', y') => ckPO x x' && ckPO y y' | none => false
  | _, _ => false

/-- The box, the token that an operation makes. -/
def kbOf (bb : Nat) : PI → Option Nat
  | .alloc j => some (bb + j)
  | _ => none
def ktOf (tb : Nat) : PI → Option Nat
  | .bslice j _ _ _ _ => some (tb + j)
  | .app j _ _ _ _ => some (tb + j)
  | _ => none

theorem sim_op {P : Program} {cx : Cx} {g : Gh} {st : St} {w : World} {o : Oper} {a : Act} {env : Env} {bb tb : Nat} {v : AV} {st' : St} {rz : List (List AV)} {rt : List (Nat × Nat)} {pi : PI}
    (hs : SR g st w) (he : ER g (Safe g st w) w env a.tmps) (hcx : CxOk cx st) (hck : ckOp P rz rt pi o.op = true)
    (hb : ∀ (i : Nat), kbOf bb pi = some i → g.bx[i]? = some none) (ht : ∀ (i : Nat), ktOf tb pi = some i → g.tk[i]? = some none) (htb : cx.t ≤ tb)
    (hz : ∀ (j : Nat) z, rz[j]? = some z → kbOf bb pi = some (bb + j) → st.boxes[bb + j]? = some z) (hrt : ∀ (j : Nat) p, rt[j]? = some p → ktOf tb pi = some (tb + j) → st.toks[tb + j]? = some p)
    (h : exec cx bb tb env st pi = some (.val v st')) : Sim P cx (kbOf bb pi) (ktOf tb pi) g st w o a v st' := by
  cases pi with
  | mv x =>
    simp only [ckOp] at hck
    simp only [exec] at h
    split at hck
    · rename_i y e; exact sim_mv (bb := bb) (tb := tb) hs he (.inl e) hck h
    · rename_i y e; exact sim_mv (bb := bb) (tb := tb) hs he (.inr e) hck h
    · exact absurd hck (by simp)
  | pick c x y =>
    simp only [ckOp] at hck
    simp only [exec] at h
    split at hck
    · rename_i e; simp only [Bool.and_eq_true] at hck; exact sim_pick hs he e hck.1.1 hck.1.2 hck.2 h
    · exact absurd hck (by simp)
  | alloc j =>
    simp only [ckOp] at hck
    simp only [exec] at h
    split at hck
    · rename_i e2 e
      split at hck
      · rename_i z hj
        simp only [Bool.and_eq_true] at hck
        exact sim_alloc hs e hck.1 (hb _ rfl) (hz j z hj rfl) h
      · exact absurd hck (by simp)
    · exact absurd hck (by simp)
  | box x =>
    simp only [ckOp] at hck
    simp only [exec] at h
    split at hck
    · rename_i e; exact sim_box hs he hcx e hck h
    · exact absurd hck (by simp)
  | build zero parts =>
    simp only [ckOp] at hck
    simp only [exec] at h
    split at hck
    · rename_i t ps e
      simp only [Bool.and_eq_true] at hck
      obtain ⟨h1, h2⟩ := hck
      refine sim_build hs he e h1 ?_ h
      split at h2
      · rename_i fs hfs
        simp only [Bool.and_eq_true] at h2
        exact .inl ⟨fs, structT_ok hfs, h2.1, h2.2⟩
      · split at h2
        · rename_i n e2 hn
          split at h2
          · rename_i esz hsz
            exact .inr ⟨n, e2, esz, arrayT_ok hn, hsz, h2⟩
          · exact absurd h2 (by simp)
        · exact absurd h2 (by simp)
    · exact absurd hck (by simp)
  | bslice j esz len zero parts =>
    simp only [ckOp] at hck
    simp only [exec] at h
    split at hck
    · rename_i t len' ps e
      split at hck
      · rename_i e2 hsl
        simp only [Bool.and_eq_true, beq_iff_eq, Nat.blt_eq, Nat.ble_eq] at hck
        obtain ⟨⟨⟨⟨⟨⟨⟨⟨h1, h2⟩, h3⟩, h4⟩, h5⟩, h6⟩, h7⟩, h8⟩, h9⟩ := hck
        subst h1
        exact sim_bslice hs he e (sliceT_ok hsl) h2 h3 h4 h5 h6 h7 h8 (ht _ rfl) (hrt j _ h9 rfl) h
      · exact absurd hck (by simp)
    · exact absurd hck (by simp)
  | bsliceB esz len zero parts =>
    simp only [ckOp] at hck
    simp only [exec] at h
    split at hck
    · rename_i t len' ps e
      split at hck
      · rename_i e2 hsl
        simp only [Bool.and_eq_true, beq_iff_eq, Nat.blt_eq, Nat.ble_eq] at hck
        obtain ⟨⟨⟨⟨⟨⟨h1, h2⟩, h3⟩, h4⟩, h5⟩, h6⟩, h7⟩ := hck
        subst h1
        exact sim_bsliceB hs he hcx e (sliceT_ok hsl) h2 h3 h4 h5 h6 h7 h
      · exact absurd hck (by simp)
    · exact absurd hck (by simp)
  | load agg n x =>
    simp only [ckOp] at hck
    simp only [exec] at h
    split at hck
    · rename_i e; simp only [Bool.and_eq_true, beq_iff_eq] at hck; exact sim_load hs he e hck.1.1 hck.1.2 hck.2 h
    · exact absurd hck (by simp)
  | store n x y =>
    simp only [ckOp] at hck
    simp only [exec] at h
    split at hck
    · rename_i e; simp only [Bool.and_eq_true, beq_iff_eq] at hck; exact sim_store hs he hcx e hck.1.1 hck.1.2 hck.2 h
    · exact absurd hck (by simp)
  | nilchk x =>
    simp only [ckOp] at hck
    simp only [exec] at h
    split at hck
    · rename_i e; exact sim_nilchk hs he e hck h
    · exact absurd hck (by simp)
  | bin b x y =>
    simp only [ckOp] at hck
    simp only [exec] at h
    split at hck
    · rename_i e; simp only [Bool.and_eq_true, decide_eq_true_eq] at hck; obtain ⟨⟨rfl, h1⟩, h2⟩ := hck; exact sim_bin hs he e h1 h2 h
    · exact absurd hck (by simp)
  | eqB neg x y =>
    simp only [ckOp] at hck
    simp only [exec] at h
    split at hck
    · rename_i e; simp only [Bool.and_eq_true, decide_eq_true_eq] at hck; obtain ⟨⟨⟨rfl, h1⟩, h2⟩, h3⟩ := hck; exact sim_eqB hs he e h1 h2 (isBoolT_ok h3) h
    · exact absurd hck (by simp)
  | eqS ks neg x y =>
    simp only [ckOp] at hck
    simp only [exec] at h
    split at hck
    · rename_i b' t x' y' t2 e
      simp only [Bool.and_eq_true, decide_eq_true_eq, Bool.not_eq_true'] at hck
      obtain ⟨⟨⟨⟨⟨⟨rfl, h1⟩, h2⟩, h3⟩, h4⟩, h5⟩, h6⟩ := hck
      obtain ⟨fs, hfs⟩ := Option.isSome_iff_exists.1 h3
      have hu := structT_ok hfs
      have hf : P.fieldsOf t = fs := by simp [Program.fieldsOf, hu]
      exact sim_eqS hs he e h1 h2 (by rw [hf]; exact hu) h4 h5 h6 h
    · exact absurd hck (by simp)
  | not x =>
    simp only [ckOp] at hck
    simp only [exec] at h
    split at hck
    · rename_i e; exact sim_not hs he e hck h
    · exact absurd hck (by simp)
  | neg x =>
    simp only [ckOp] at hck
    simp only [exec] at h
    split at hck
    · rename_i e; exact sim_neg hs he e hck h
    · exact absurd hck (by simp)
  | conv k x =>
    simp only [ckOp] at hck
    simp only [exec] at h
    split at hck
    · rename_i e
      simp only [Bool.and_eq_true] at hck
      obtain ⟨⟨h1, h2⟩, h3⟩ := hck
      obtain ⟨k', hk'⟩ := Option.isSome_iff_exists.1 h2
      split at h3
      · rename_i k2 hk2
        simp only [decide_eq_true_eq] at h3
        subst h3
        exact sim_conv hs he e h1 ⟨k', intT_ok hk'⟩ (intT_ok hk2) h
      · exact absurd h3 (by simp)
    · exact absurd hck (by simp)
  | convSS x =>
    simp only [ckOp] at hck
    simp only [exec] at h
    split at hck
    · rename_i e; simp only [Bool.and_eq_true] at hck; exact sim_convSS hs he e hck.1.1 (isStrT_ok hck.1.2) (isStrT_ok hck.2) h
    · exact absurd hck (by simp)
  | mkI t x =>
    simp only [ckOp] at hck
    simp only [exec] at h
    split at hck
    · rename_i e; simp only [Bool.and_eq_true, beq_iff_eq] at hck; exact sim_mkI hs he e hck.1.1 hck.1.2 (plainT_ok hck.2) h
    · exact absurd hck (by simp)
  | mkF f caps =>
    simp only [ckOp] at hck
    simp only [exec] at h
    split at hck
    · rename_i f' first ys e
      simp only [Bool.and_eq_true, beq_iff_eq, Array.isEmpty_iff] at hck
      obtain ⟨⟨h1, h2⟩, h3⟩ := hck
      subst h2
      exact sim_mkF hs he e h1 h3 h
    · exact absurd hck (by simp)
  | mkM =>
    simp only [ckOp] at hck
    simp only [exec] at h
    split at hck
    · rename_i e; exact sim_mkM hs hcx e h
    · exact absurd hck (by simp)
  | slStr x lo hi =>
    simp only [ckOp] at hck
    simp only [exec] at h
    split at hck
    · rename_i e; simp only [Bool.and_eq_true] at hck; exact sim_slStr hs he e hck.1.1.1 hck.1.1.2 hck.1.2 (isStrT_ok hck.2) h
    · exact absurd hck (by simp)
  | slSl esz x lo hi =>
    simp only [ckOp] at hck
    simp only [exec] at h
    split at hck
    · rename_i e
      simp only [Bool.and_eq_true] at hck
      obtain ⟨⟨⟨h1, h2⟩, h3⟩, h4⟩ := hck
      split at h4
      · rename_i e2 hsl; exact sim_slSl hs he e h1 h2 h3 (sliceT_ok hsl) (by simpa using h4) h
      · exact absurd h4 (by simp)
    · exact absurd hck (by simp)
  | fldA off x =>
    simp only [ckOp] at hck
    simp only [exec] at h
    split at hck
    · rename_i e
      simp only [Bool.and_eq_true] at hck
      obtain ⟨h1, h2⟩ := hck
      obtain ⟨fs, f, h3, h4, h5⟩ := fieldOk_ok h2
      simp only [Bool.and_eq_true, beq_iff_eq] at h5
      obtain ⟨h5, h6⟩ := h5
      split at h6
      · rename_i sz hsz; exact sim_fldA hs he e h1 ⟨fs, f, h3, h4, h5, sz, hsz, by simpa using h6⟩ h
      · exact absurd h6 (by simp)
    · exact absurd hck (by simp)
  | fldV agg off n x =>
    simp only [ckOp] at hck
    simp only [exec] at h
    split at hck
    · rename_i e
      simp only [Bool.and_eq_true] at hck
      obtain ⟨h1, h2⟩ := hck
      obtain ⟨fs, f, h3, h4, h5⟩ := fieldOk_ok h2
      simp only [Bool.and_eq_true, beq_iff_eq] at h5
      exact sim_fldV hs he e h1 ⟨fs, f, h3, h4, h5.1.1, h5.1.2, h5.2⟩ h
    · exact absurd hck (by simp)
  | idxA esz x i =>
    simp only [ckOp] at hck
    simp only [exec] at h
    split at hck
    · rename_i e
      simp only [Bool.and_eq_true] at hck
      obtain ⟨⟨h1, h2⟩, h4⟩ := hck
      split at h4
      · rename_i e2 hsl; exact sim_idxA hs he e h1 h2 (sliceT_ok hsl) (by simpa using h4) h
      · exact absurd h4 (by simp)
    · exact absurd hck (by simp)
  | idxAA esz len x i =>
    simp only [ckOp] at hck
    simp only [exec] at h
    split at hck
    · rename_i e
      simp only [Bool.and_eq_true] at hck
      obtain ⟨⟨h1, h2⟩, h4⟩ := hck
      split at h4
      · rename_i n e2 hsl
        simp only [Bool.and_eq_true, beq_iff_eq] at h4
        obtain ⟨rfl, h5⟩ := h4
        exact sim_idxAA hs he e h1 h2 (arrayT_ok hsl) h5 h
      · exact absurd h4 (by simp)
    · exact absurd hck (by simp)
  | idxS x i =>
    simp only [ckOp] at hck
    simp only [exec] at h
    split at hck
    · rename_i e; simp only [Bool.and_eq_true] at hck; exact sim_idxS hs he e hck.1.1 hck.1.2 (isStrT_ok hck.2) h
    · exact absurd hck (by simp)
  | idxV agg esz len x i =>
    simp only [ckOp] at hck
    simp only [exec] at h
    split at hck
    · rename_i e
      simp only [Bool.and_eq_true] at hck
      obtain ⟨⟨h1, h2⟩, h4⟩ := hck
      split at h4
      · rename_i n e2 hsl
        simp only [Bool.and_eq_true, beq_iff_eq] at h4
        obtain ⟨⟨rfl, h5⟩, h6⟩ := h4
        exact sim_idxV hs he e h1 h2 (arrayT_ok hsl) h5 h6 h
      · exact absurd h4 (by simp)
    · exact absurd hck (by simp)
  | lookup zero ok m k =>
    simp only [ckOp] at hck
    simp only [exec] at h
    split at hck
    · rename_i e
      simp only [Bool.and_eq_true, beq_iff_eq] at hck
      obtain ⟨⟨⟨rfl, h1⟩, h2⟩, h4⟩ := hck
      split at h4
      · rename_i kt et hm
        simp only [Bool.and_eq_true] at h4
        exact sim_lookup hs he e h1 h2 (mapT_ok hm) (isStrT_ok h4.1) h4.2 h
      · exact absurd h4 (by simp)
    · exact absurd hck (by simp)
  | mapup m k x =>
    simp only [ckOp] at hck
    simp only [exec] at h
    split at hck
    · rename_i e
      simp only [Bool.and_eq_true] at hck
      obtain ⟨⟨⟨h1, h2⟩, h3⟩, h4⟩ := hck
      split at h4
      · rename_i kt et hm; exact sim_mapup hs he e h1 h2 h3 (mapT_ok hm) (isStrT_ok h4) h
      · exact absurd h4 (by simp)
    · exact absurd hck (by simp)
  | lookup2 zero ok m k =>
    simp only [ckOp] at hck
    simp only [exec] at h
    split at hck
    · rename_i e
      simp only [Bool.and_eq_true, beq_iff_eq] at hck
      obtain ⟨⟨⟨rfl, h1⟩, h2⟩, h4⟩ := hck
      split at h4
      · rename_i kt et hm
        simp only [Bool.and_eq_true] at h4
        obtain ⟨el, p1, p2, p3, p4⟩ := pairT_ok h4.1
        exact sim_lookup2 hs he e h1 h2 (mapT_ok hm) p1 p2 p3 p4 h4.2 h
      · exact absurd h4 (by simp)
    · exact absurd hck (by simp)
  | mapup2 m k x =>
    simp only [ckOp] at hck
    simp only [exec] at h
    split at hck
    · rename_i e
      simp only [Bool.and_eq_true] at hck
      obtain ⟨⟨⟨h1, h2⟩, h3⟩, h4⟩ := hck
      split at h4
      · rename_i kt et hm
        obtain ⟨el, p1, p2, p3, p4⟩ := pairT_ok h4
        exact sim_mapup2 hs he e h1 h2 h3 (mapT_ok hm) p1 p2 p3 p4 h
      · exact absurd h4 (by simp)
    · exact absurd hck (by simp)
  | eqNil x =>
    simp only [ckOp] at hck
    simp only [exec] at h
    split at hck
    · rename_i e
      simp only [Bool.and_eq_true] at hck
      obtain ⟨el, hel⟩ := Option.isSome_iff_exists.1 hck.2
      exact sim_eqNil hs he e hck.1 rfl (sliceT_ok hel) h
    · exact absurd hck (by simp)
  | mn3 x y z =>
    simp only [exec] at h
    obtain ⟨⟨ce, args, tys⟩, e, hc, hf⟩ := ck_call_ok hck
    split at hf
    · rename_i x' y' z' ha
      simp only [Bool.and_eq_true] at hf
      have h1 := arg3_ok ha
      simp only at hc h1
      subst hc; subst h1
      exact sim_mn3 hs he e hf.1.1 hf.1.2 hf.2 h
    · exact absurd hf (by simp)
  | tassert t zero x =>
    simp only [ckOp] at hck
    simp only [exec] at h
    split at hck
    · rename_i e
      simp only [Bool.and_eq_true, beq_iff_eq] at hck
      obtain ⟨⟨⟨rfl, h1⟩, h2⟩, h3⟩ := hck
      obtain ⟨z, hz1, hz2⟩ := ckZA_ok h3
      exact sim_tassert hs he e h1 (plainT_ok h2) hz1 hz2 h
    · exact absurd hck (by simp)
  | ext i x =>
    simp only [ckOp] at hck
    simp only [exec] at h
    split at hck
    · rename_i e; simp only [Bool.and_eq_true, beq_iff_eq] at hck; obtain ⟨rfl, h1⟩ := hck; exact sim_ext hs he e h1 h
    · exact absurd hck (by simp)
  | lenS x =>
    simp only [exec] at h
    obtain ⟨⟨ce, args, tys⟩, e, hc, hf⟩ := ck_call_ok hck
    split at hf
    · rename_i y t ha
      simp only [Bool.and_eq_true] at hf
      obtain ⟨h1, h2⟩ := arg1_ok ha
      simp only at hc h1 h2
      subst hc; subst h1; subst h2
      exact sim_lenS hs he e hf.1 (isStrT_ok hf.2) h
    · exact absurd hf (by simp)
  | lenL x =>
    simp only [exec] at h
    obtain ⟨⟨ce, args, tys⟩, e, hc, hf⟩ := ck_call_ok hck
    split at hf
    · rename_i y t ha
      simp only [Bool.and_eq_true] at hf
      obtain ⟨h1, h2⟩ := arg1_ok ha
      obtain ⟨e2, he2⟩ := Option.isSome_iff_exists.1 hf.2
      simp only at hc h1 h2
      subst hc; subst h1; subst h2
      exact sim_lenL hs he e hf.1 (sliceT_ok he2) h
    · exact absurd hf (by simp)
  | app j esz bytes s x =>
    simp only [exec] at h
    obtain ⟨⟨ce, args, tys⟩, e, hc, hf⟩ := ck_call_ok hck
    split at hf
    · rename_i s' x' t tx ha
      simp only [Bool.and_eq_true, Nat.blt_eq] at hf
      obtain ⟨⟨⟨⟨⟨f1, f2⟩, f3⟩, f4⟩, f5⟩, f6⟩ := hf
      obtain ⟨h1, h2⟩ := arg22_ok ha
      obtain ⟨e2, he2⟩ := Option.isSome_iff_exists.1 f3
      simp only at hc h1 h2
      subst hc; subst h1; subst h2
      split at f6
      · rename_i e3 he3
        exact sim_app hs he hcx e f1 f2 (sliceT_ok he3) (sliceT_ok he2) f6 f4 ⟨ht _ rfl, by omega⟩ h
      · exact absurd f6 (by simp)
    · exact absurd hf (by simp)
  | mx x y =>
    simp only [exec] at h
    obtain ⟨⟨ce, args, tys⟩, e, hc, hf⟩ := ck_call_ok hck
    split at hf
    · rename_i x' y' ha
      simp only [Bool.and_eq_true] at hf
      have h1 := arg2_ok ha
      simp only at hc h1
      subst hc; subst h1
      exact sim_mx hs he e hf.1 hf.2 h
    · exact absurd hf (by simp)
  | mn x y =>
    simp only [exec] at h
    obtain ⟨⟨ce, args, tys⟩, e, hc, hf⟩ := ck_call_ok hck
    split at hf
    · rename_i x' y' ha
      simp only [Bool.and_eq_true] at hf
      have h1 := arg2_ok ha
      simp only at hc h1
      subst hc; subst h1
      exact sim_mn hs he e hf.1 hf.2 h
    · exact absurd hf (by simp)
  | mkB esz bytes zero n =>
    simp only [ckOp] at hck
    simp only [exec] at h
    split at hck
    · rename_i t l c e
      split at hck
      · rename_i e2 hsl
        simp only [Bool.and_eq_true, beq_iff_eq, Nat.blt_eq] at hck
        obtain ⟨⟨⟨⟨⟨⟨⟨h1, h2⟩, h3⟩, h4⟩, h5⟩, h6⟩, h7⟩, h8⟩ := hck
        exact sim_mkB hs he hcx e (sliceT_ok hsl) h3 h4 h5 h6 h7 h8 h1 h2 h
      · exact absurd hck (by simp)
    · exact absurd hck (by simp)
  | appB _ _ _ => simp [ckOp] at hck
  | panic _ => simp [ckOp] at hck
  | call _ _ => simp [ckOp] at hck
  | callv _ _ => simp [ckOp] at hck
end Go.Rf
