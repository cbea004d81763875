/- The interpreter: regions, code, functions; its soundness; memos of calls; laws from runs. -/
import Derived.Test.YtojhechepdlnhaaGreatDoorMb
import Derived.Conc.MuLone
import Derived.Orders
import Derived.Scope
import Derived.Below
namespace Go.Rf
set_option linter.unusedVariables false
set_option linter.unusedSimpArgs false

/-- Blocks that are a box, a token or a map. -/
def Reg (g : Gh) (b : Nat) : Prop := (∃ i : Nat, g.bx[i]? = some (some b)) ∨ (∃ t sz used : Nat, g.tk[t]? = some (some (b, sz, used))) ∨ ∃ m : Nat, g.mp[m]? = some b
theorem Reg.ofB {g : Gh} {i b : Nat} (h : g.bx[i]? = some (some b)) : Reg g b := Or.inl ⟨i, h⟩
theorem Reg.ofT {g : Gh} {t b sz used : Nat} (h : g.tk[t]? = some (some (b, sz, used))) : Reg g b := Or.inr (Or.inl ⟨t, sz, used, h⟩)
theorem Reg.ofM {g : Gh} {m r : Nat} (h : g.mp[m]? = some r) : Reg g r := Or.inr (Or.inr ⟨m, h⟩)
open Classical in
noncomputable def clean (n : Nat) (g : Gh) : Gh := { g with role := fun b => if Reg g b then g.role b else if n ≤ b then .free else match g.role b with | .other => .other | _ => .free }

section
variable {g : Gh} {st : St} {w : World} {n : Nat}

theorem clean_reg {b : Nat} (h : Reg g b) : (clean n g).role b = g.role b := if_pos h
theorem clean_not {b : Nat} (h : ¬ Reg g b) (h2 : n ≤ b ∨ g.role b ≠ .other) : (clean n g).role b = .free := by
  have : (clean n g).role b = _ := if_neg h
  rw [this]
  split
  · rfl
  · rename_i hn
    have h2 := h2.resolve_left hn
    cases hr : g.role b <;> first | rfl | exact absurd hr h2
theorem reg_role (hs : SR g st w) {b : Nat} (h : Reg g b) : (g.role b).idle ≠ true := by
  rcases h with ⟨i, h⟩ | ⟨t, sz, used, h⟩ | ⟨m, h⟩
  · rw [hs.rb i b h]; simp [Role.idle]
  · rw [hs.rt t b sz used h]; simp [Role.idle]
  · rw [hs.rm m b h]; simp [Role.idle]
theorem clean_free (hs : SR g st w) {b : Nat} (h : g.role b = .free) : (clean n g).role b = .free := by
  by_cases hr : Reg g b
  · exact absurd (by rw [h]; rfl) (reg_role hs hr)
  · exact clean_not hr (.inr (by rw [h]; simp))
theorem clean_idle (hs : SR g st w) {b : Nat} (hb : b < n) (h : (g.role b).idle = true) : (clean n g).role b = g.role b := by
  by_cases hr : Reg g b
  · exact absurd h (reg_role hs hr)
  · have : (clean n g).role b = _ := if_neg hr
    rw [this, if_neg (by omega)]
    cases hx : g.role b <;> first | rfl | (rw [hx] at h; simp [Role.idle] at h)

theorem clean_keeps (hs : SR g st w) : Keeps g (Safe g st w) w (clean n g) (Safe (clean n g) st w) w := by
  refine ⟨fun _ _ h => h, fun t b sz used h => ⟨b, sz, used, h, .inr ⟨rfl, rfl, rfl, fun cur _ h => ⟨cur, h, rfl⟩⟩⟩, fun _ _ h => h, fun b off ⟨h1, h2⟩ => ⟨⟨h1, ?_⟩, fun _ hv => hv⟩⟩
  rcases h2 with h2 | ⟨t, sz, used, e1, e2, e3⟩
  · exact .inl (clean_free hs h2)
  · exact .inr ⟨t, sz, used, by rw [clean_reg (.ofT e2)]; exact e1, e2, e3⟩

theorem SR.clean (hs : SR g st w) : SR (clean n g) st w := by
  have hk := clean_keeps (n := n) hs
  refine ⟨hs.lb, hs.lt, hs.lm, fun i b h => ?_, fun t b sz used h => ?_, fun m r h => ?_, fun i b cs h hc => ?_, hs.one, hs.tok, fun m r es h hm => ?_⟩
  · rw [clean_reg (g := g) (.ofB h)]; exact hs.rb i b h
  · rw [clean_reg (g := g) (.ofT h)]; exact hs.rt t b sz used h
  · rw [clean_reg (g := g) (.ofM h)]; exact hs.rm m r h
  · obtain ⟨cur, ty, h1, h2, h3⟩ := hs.box i b cs h hc
    exact ⟨cur, ty, h1, h2, fun j c v hj hv => (h3 j c v hj hv).keep hk⟩
  · obtain ⟨ents, clock, h1, h2, h3⟩ := hs.map m r es h hm
    exact ⟨ents, clock, h1, h2, fun i k v e hk2 he => by
      obtain ⟨h4, h5, h6⟩ := h3 i k v e hk2 he
      exact ⟨h4.keep hk.safe, h5.keep hk.safe, h6⟩⟩

/-- The entry's counts. -/
def cxAll (st : St) : Cx := ⟨st.boxes.length, st.toks.length, st.maps.length⟩

/-- Behind a sandbox: all is as it was. -/
theorem SR.over {g1 : Gh} {st1 : St} {w1 : World} (hs : SR g st w) (he : Ext (cxAll st) g st w g1 st1 w1) : SR g st w1 ∧ Keeps g (Safe g st w) w g (Safe g st w1) w1 := by
  have hb : ∀ (i b : Nat), g.bx[i]? = some (some b) → w1.heap[b]? = w.heap[b]? := fun i b h => he.rob i b (by show i < st.boxes.length; rw [← hs.lb]; exact (List.getElem?_eq_some_iff.1 h).1) h
  have ht : ∀ (t b sz used : Nat), g.tk[t]? = some (some (b, sz, used)) → w1.heap[b]? = w.heap[b]? := fun t b sz used h => (he.rot t _ (by show t < st.toks.length; rw [← hs.lt]; exact (List.getElem?_eq_some_iff.1 h).1) h).1
  have hm : ∀ (m r : Nat), g.mp[m]? = some r → w1.heap[r]? = w.heap[r]? := fun m r h => he.rom m r (by show m < st.maps.length; rw [← hs.lm]; exact (List.getElem?_eq_some_iff.1 h).1) h
  have hk : Keeps g (Safe g st w) w g (Safe g st w1) w1 := by
    refine ⟨fun _ _ h => h, fun t b sz used h => ⟨b, sz, used, h, .inr ⟨rfl, rfl, rfl, fun cur _ hc => ⟨cur, by rw [ht t b sz used h]; exact hc, rfl⟩⟩⟩, fun _ _ h => h, fun b off ⟨h1, h2⟩ => ?_⟩
    have hsame : w1.heap[b]? = w.heap[b]? := by
      rcases h2 with h2 | ⟨t, sz, used, e1, e2, e3⟩
      · exact (he.free b h1 (by rw [h2]; rfl)).1
      · exact ht t b sz used e2
    refine ⟨⟨Nat.lt_of_lt_of_le h1 he.size, h2⟩, fun v hv => ?_⟩
    simp only [cellA, World.cell?] at hv ⊢
    rw [hsame]; exact hv
  refine ⟨⟨hs.lb, hs.lt, hs.lm, hs.rb, hs.rt, hs.rm, fun i b cs h hc => ?_, hs.one, fun t b sz used h => ?_, fun m r es h hme => ?_⟩, hk⟩
  · obtain ⟨cur, ty, h1, h2, h3⟩ := hs.box i b cs h hc
    exact ⟨cur, ty, by rw [hb i b h]; exact h1, h2, fun j c v hj hv => (h3 j c v hj hv).keep hk⟩
  · obtain ⟨cur, ty, h1, h2⟩ := hs.tok t b sz used h
    exact ⟨cur, ty, h1, by rw [ht t b sz used h]; exact h2⟩
  · obtain ⟨ents, clock, h1, h2, h3⟩ := hs.map m r es h hme
    exact ⟨ents, clock, by rw [hm m r h]; exact h1, h2, fun i k v e hk2 he2 => by
      obtain ⟨h4, h5, h6⟩ := h3 i k v e hk2 he2
      exact ⟨h4.keep hk.safe, h5.keep hk.safe, h6⟩⟩

theorem quiet_ext {g1 : Gh} {st1 : St} {w1 : World} {cx : Cx} (hcx : CxOk cx st) (hs : SR g st w) (he : Ext (cxAll st) g st w g1 st1 w1) : Ext cx g st w (clean w.heap.size g) st w1 := by
  obtain ⟨h1, h2⟩ := hs.over he
  refine ⟨he.os, he.tape, he.output, he.size, fun b hb hr => ⟨(he.free b hb hr).1, clean_idle hs hb hr⟩, h2.trans (clean_keeps h1), fun i b hi h => he.rob i b (Nat.lt_of_lt_of_le hi hcx.b) h, fun t x ht h => ⟨(he.rot t x (Nat.lt_of_lt_of_le ht hcx.t) h).1, h⟩, fun m r hm h => he.rom m r (Nat.lt_of_lt_of_le hm hcx.m) h, fun _ _ => rfl, fun _ _ => rfl, fun _ _ => rfl, Nat.le_refl _, Nat.le_refl _, Nat.le_refl _⟩

/-- What may be read behind a sandbox. -/
theorem quiet_safe {g1 : Gh} {st1 : St} {w1 : World} (hs : SR g st w) (hs1 : SR g1 st1 w1) (he : Ext (cxAll st) g st w g1 st1 w1) (b off : Nat) (h : Safe g1 st1 w1 b off) : Safe (clean w.heap.size g) st w1 b off := by
  obtain ⟨h1, h2⟩ := h
  refine ⟨h1, ?_⟩
  by_cases hr : Reg g b
  · rcases hr with ⟨i, hi⟩ | ⟨t, sz, used, ht⟩ | ⟨m, hm⟩
    · have := hs1.rb i b (he.keeps.bx i b hi)
      rcases h2 with h2 | ⟨_, _, _, h2, _⟩ <;> rw [this] at h2 <;> simp at h2
    · obtain ⟨_, e1⟩ := he.rot t _ (by show t < st.toks.length; rw [← hs.lt]; exact (List.getElem?_eq_some_iff.1 ht).1) ht
      have hr1 := hs1.rt t b sz used e1
      rcases h2 with h2 | ⟨t', sz', used', h2, h3, h4⟩
      · rw [hr1] at h2; simp at h2
      · rw [hr1] at h2
        injection h2 with h2; subst h2
        rw [e1] at h3
        simp only [Option.some.injEq, Prod.mk.injEq, true_and] at h3
        obtain ⟨rfl, rfl⟩ := h3
        exact .inr ⟨t, sz, used, by rw [clean_reg (.ofT ht)]; exact hs.rt t b sz used ht, ht, h4⟩
    · have := hs1.rm m b (he.keeps.mp m b hm)
      rcases h2 with h2 | ⟨_, _, _, h2, _⟩ <;> rw [this] at h2 <;> simp at h2
  · by_cases ho : g.role b = .other
    · rcases Nat.lt_or_ge b w.heap.size with hb | hb
      · have := (he.free b hb (by rw [ho]; rfl)).2
        rw [ho] at this
        rcases h2 with h2 | ⟨_, _, _, h2, _⟩ <;> rw [this] at h2 <;> simp at h2
      · exact .inl (clean_not hr (.inl hb))
    · exact .inl (clean_not hr (.inr ho))

theorem quiet_bx {g1 : Gh} {st1 : St} {w1 : World} (hs : SR g st w) (he : Ext (cxAll st) g st w g1 st1 w1) (hv : Rsv none none g st g1 st1) {i b : Nat} (hi : i < st.boxes.length) (h : g1.bx[i]? = some (some b)) : g.bx[i]? = some (some b) := by
  have hl : i < g.bx.length := by rw [hs.lb]; exact hi
  rcases hx : g.bx[i] with _ | b0
  · have h0 : g.bx[i]? = some none := by rw [List.getElem?_eq_getElem hl, hx]
    rw [(hv.b i h0 (by simp)).1] at h; simp at h
  · have h0 : g.bx[i]? = some (some b0) := by rw [List.getElem?_eq_getElem hl, hx]
    rw [he.keeps.bx i b0 h0] at h
    simp only [Option.some.injEq] at h
    subst h; exact h0
theorem quiet_tk {g1 : Gh} {st1 : St} {w1 : World} (hs : SR g st w) (he : Ext (cxAll st) g st w g1 st1 w1) (hv : Rsv none none g st g1 st1) {t : Nat} {x : Nat × Nat × Nat} (hi : t < st.toks.length) (h : g1.tk[t]? = some (some x)) : g.tk[t]? = some (some x) := by
  have hl : t < g.tk.length := by rw [hs.lt]; exact hi
  rcases hx : g.tk[t] with _ | x0
  · have h0 : g.tk[t]? = some none := by rw [List.getElem?_eq_getElem hl, hx]
    rw [(hv.t t h0 (by simp)).1] at h; simp at h
  · have h0 : g.tk[t]? = some (some x0) := by rw [List.getElem?_eq_getElem hl, hx]
    rw [(he.rot t x0 hi h0).2] at h
    simp only [Option.some.injEq] at h
    subst h; exact h0

section
variable {g1 : Gh} {st1 : St} {w1 : World} (hs : SR g st w) (hs1 : SR g1 st1 w1) (he : Ext (cxAll st) g st w g1 st1 w1) (hrv : Rsv none none g st g1 st1)
include hs hs1 he hrv

theorem freeze1_ok {x y : AV} {u : Value} (h : VR g1 (Safe g1 st1 w1) w1 x u) (hf : freeze1 (cxAll st) x = some y) : VR (clean w.heap.size g) (Safe (clean w.heap.size g) st w1) w1 y u ∧ (x.isOne = true → y.isOne = true) := by
  have hsafe : ∀ (b off : Nat), Safe g1 st1 w1 b off → Safe (clean w.heap.size g) st w1 b off ∧ ∀ v, cellA w1 b off = some v → cellA w1 b off = some v := fun b off h => ⟨quiet_safe hs hs1 he b off h, fun _ h => h⟩
  cases h with
  | d x v hx => simp only [freeze1, Option.some.injEq] at hf; subst hf; exact ⟨.d _ _ (hx.keep hsafe), fun h => h⟩
  | own t rows v b sz used e1 e2 e3 e4 =>
    simp only [freeze1] at hf
    split at hf
    · rename_i ht
      injection hf with hf; subst hf
      exact ⟨.own t rows u b sz used (quiet_tk hs he hrv ht e1) e2 (e3.keep hsafe) e4, fun h => h⟩
    · injection hf with hf; subst hf
      exact ⟨.d _ _ (e3.keep hsafe), fun h => rfl⟩
  | nilS => simp only [freeze1, Option.some.injEq] at hf; subst hf; exact ⟨.nilS, fun h => h⟩
  | bsl id n full b cap e1 e2 e3 =>
    simp only [freeze1] at hf
    split at hf
    · rename_i ht
      injection hf with hf; subst hf
      exact ⟨.bsl id n full b cap (quiet_bx hs he hrv ht e1) e2 e3, fun h => h⟩
    · exact absurd hf (by simp)
  | ptr id off b e1 =>
    simp only [freeze1] at hf
    split at hf
    · rename_i ht
      injection hf with hf; subst hf
      exact ⟨.ptr id off b (quiet_bx hs he hrv ht e1), fun h => h⟩
    · exact absurd hf (by simp)
  | cptr cs b off vals e1 e2 =>
    simp only [freeze1, Option.some.injEq] at hf; subst hf
    refine ⟨.cptr cs b off vals (fun i c hi => ?_) (fun i c hi => (e2 i c hi).keep hsafe), fun h => h⟩
    obtain ⟨h1, h2, h3⟩ := e1 i c hi
    exact ⟨h1, (hsafe _ _ h2).1, h3⟩
  | fn f caps vs hl hv =>
    simp only [freeze1] at hf
    split at hf
    · rename_i hu
      split at hf
      · rename_i hall
        injection hf with hf; subst hf
        refine ⟨.fn f caps vs hl (fun i c v hc hvv => ?_), fun h => h⟩
        have h1 := hv i c v hc hvv
        rw [List.all_eq_true] at hall
        have h2 := hall c (List.mem_of_getElem? hc)
        have h3 : ∀ (l : List AV), underL (cxAll st).b l = true → ∀ c, c ∈ l → c.under (cxAll st).b = true := by
          intro l
          induction l with
          | nil => intro _ c hc; simp at hc
          | cons a l ih =>
            intro hl c hc
            simp only [underL, Bool.and_eq_true] at hl
            rcases List.mem_cons.1 hc with rfl | hc
            · exact hl.1
            · exact ih hl.2 c hc
        have h4 := h3 caps hu c (List.mem_of_getElem? hc)
        cases h1 with
        | ptr id off b e1 =>
          simp only [AV.under, Nat.blt_eq] at h4
          exact .ptr id off b (quiet_bx hs he hrv h4 e1)
        | _ => simp at h2
      · exact absurd hf (by simp)
    · exact absurd hf (by simp)
  | map m r e1 =>
    simp only [freeze1] at hf
    split at hf
    · rename_i ht
      injection hf with hf; subst hf
      refine ⟨.map m r ?_, fun h => h⟩
      show g.mp[m]? = some r
      have hl : m < g.mp.length := by rw [hs.lm]; exact ht
      have h0 : g.mp[m]? = some g.mp[m] := List.getElem?_eq_getElem hl
      rw [he.keeps.mp m _ h0] at e1
      rw [h0]; exact e1
    · exact absurd hf (by simp)
  | agg cs vs hl hv ho => simp [freeze1] at hf
  | tup cs vs hl hv => simp [freeze1] at hf

theorem freezeL_ok : ∀ {xs ys : List AV} {us : List Value}, xs.length = us.length → (∀ (i : Nat) c v, xs[i]? = some c → us[i]? = some v → VR g1 (Safe g1 st1 w1) w1 c v) → freezeL (cxAll st) xs = some ys →
    ys.length = us.length ∧ (∀ (i : Nat) c v, ys[i]? = some c → us[i]? = some v → VR (clean w.heap.size g) (Safe (clean w.heap.size g) st w1) w1 c v) ∧ ((∀ c, c ∈ xs → c.isOne = true) → ∀ c, c ∈ ys → c.isOne = true)
  | [], ys, us, hl, hv, hf => by
    simp only [freezeL, Option.some.injEq] at hf
    subst hf
    exact ⟨hl, fun i c v h => by simp at h, fun h => h⟩
  | x :: xs, ys, [], hl, hv, hf => by simp at hl
  | x :: xs, ys, u :: us, hl, hv, hf => by
    simp only [freezeL] at hf
    split at hf
    · rename_i y ys' h1 h2
      injection hf with hf; subst hf
      obtain ⟨k1, k2⟩ := freeze1_ok hs hs1 he hrv (hv 0 x u rfl rfl) h1
      obtain ⟨k3, k4, k5⟩ := freezeL_ok (xs := xs) (us := us) (by simpa using hl) (fun i c v hc hvv => hv (i + 1) c v (by simpa using hc) (by simpa using hvv)) h2
      refine ⟨by simp [k3], fun i c v hc hvv => ?_, fun h c hc => ?_⟩
      · cases i with
        | zero => simp at hc hvv; subst hc; subst hvv; exact k1
        | succ i => exact k4 i c v (by simpa using hc) (by simpa using hvv)
      · rcases List.mem_cons.1 hc with rfl | hc
        · exact k2 (h x (List.mem_cons_self ..))
        · exact k5 (fun c hc => h c (List.mem_cons_of_mem _ hc)) c hc
    · exact absurd hf (by simp)

theorem freeze2_ok {x y : AV} {u : Value} (h : VR g1 (Safe g1 st1 w1) w1 x u) (hf : freeze2 (cxAll st) x = some y) : VR (clean w.heap.size g) (Safe (clean w.heap.size g) st w1) w1 y u := by
  cases x with
  | agg cs =>
    simp only [freeze2] at hf
    obtain ⟨ys, h1, rfl⟩ := Option.map_eq_some_iff.1 hf
    cases h with
    | agg _ vs hl hv ho =>
      obtain ⟨k1, k2, k3⟩ := freezeL_ok hs hs1 he hrv (us := vs.toList) (by simpa using hl) (fun i c v hc hvv => hv i c v hc (by simpa using hvv)) h1
      exact .agg _ _ (by simpa using k1) (fun i c v hc hvv => k2 i c v hc (by simpa using hvv)) (k3 ho)
  | _ => exact (freeze1_ok hs hs1 he hrv h hf).1

theorem freeze2L_ok : ∀ {xs ys : List AV} {us : List Value}, xs.length = us.length → (∀ (i : Nat) c v, xs[i]? = some c → us[i]? = some v → VR g1 (Safe g1 st1 w1) w1 c v) → freeze2L (cxAll st) xs = some ys →
    ys.length = us.length ∧ (∀ (i : Nat) c v, ys[i]? = some c → us[i]? = some v → VR (clean w.heap.size g) (Safe (clean w.heap.size g) st w1) w1 c v)
  | [], ys, us, hl, hv, hf => by
    simp only [freeze2L, Option.some.injEq] at hf
    subst hf
    exact ⟨hl, fun i c v h => by simp at h⟩
  | x :: xs, ys, [], hl, hv, hf => by simp at hl
  | x :: xs, ys, u :: us, hl, hv, hf => by
    simp only [freeze2L] at hf
    split at hf
    · rename_i y ys' h1 h2
      injection hf with hf; subst hf
      have k1 := freeze2_ok hs hs1 he hrv (hv 0 x u rfl rfl) h1
      obtain ⟨k3, k4⟩ := freeze2L_ok (xs := xs) (us := us) (by simpa using hl) (fun i c v hc hvv => hv (i + 1) c v (by simpa using hc) (by simpa using hvv)) h2
      refine ⟨by simp [k3], fun i c v hc hvv => ?_⟩
      cases i with
      | zero => simp at hc hvv; subst hc; subst hvv; exact k1
      | succ i => exact k4 i c v (by simpa using hc) (by simpa using hvv)
    · exact absurd hf (by simp)

theorem freeze_ok {x y : AV} {u : Value} (h : VR g1 (Safe g1 st1 w1) w1 x u) (hf : freeze (cxAll st) x = some y) : VR (clean w.heap.size g) (Safe (clean w.heap.size g) st w1) w1 y u := by
  cases x with
  | tup cs =>
    simp only [freeze] at hf
    obtain ⟨ys, h1, rfl⟩ := Option.map_eq_some_iff.1 hf
    cases h with
    | tup _ vs hl hv =>
      obtain ⟨k1, k2⟩ := freeze2L_ok hs hs1 he hrv (us := vs.toList) (by simpa using hl) (fun i c v hc hvv => hv i c v hc (by simpa using hvv)) h1
      exact .tup _ _ (by simpa using k1) (fun i c v hc hvv => k2 i c v hc (by simpa using hvv))
  | _ => exact freeze2_ok hs hs1 he hrv h hf
end
end
end Go.Rf

namespace Go.Rf
set_option linter.unusedVariables false
set_option linter.unusedSimpArgs false

theorem underL_mem {n : Nat} : ∀ {l : List AV}, underL n l = true → ∀ c, c ∈ l → c.under n = true
  | [], _, c, hc => by simp at hc
  | a :: l, h, c, hc => by
    simp only [underL, Bool.and_eq_true] at h
    rcases List.mem_cons.1 hc with rfl | hc
    · exact h.1
    · exact underL_mem h.2 c hc

mutual
theorem under_mono {n m : Nat} (hnm : n ≤ m) : ∀ (x : AV), x.under n = true → x.under m = true
  | .ptr b o, h => by simp only [AV.under, Nat.blt_eq] at h ⊢; omega
  | .bsl b k f, h => by simp only [AV.under, Nat.blt_eq] at h ⊢; omega
  | .fn f caps, h => by simp only [AV.under] at h ⊢; exact underL_mono hnm caps h
  | .agg cs, h => by simp only [AV.under] at h ⊢; exact underL_mono hnm cs h
  | .tup vs, h => by simp only [AV.under] at h ⊢; exact underL_mono hnm vs h
  | .d _, _ => rfl
  | .own _ _, _ => rfl
  | .nilS, _ => rfl
  | .cptr _, _ => rfl
  | .map _, _ => rfl
theorem underL_mono {n m : Nat} (hnm : n ≤ m) : ∀ (l : List AV), underL n l = true → underL m l = true
  | [], _ => rfl
  | a :: l, h => by
    simp only [underL, Bool.and_eq_true] at h ⊢
    exact ⟨under_mono hnm a h.1, underL_mono hnm l h.2⟩
end

noncomputable def cutG (n k : Nat) (g : Gh) : Gh := clean k { g with bx := g.bx.take n }
def cutS (n : Nat) (st : St) : St := { st with boxes := st.boxes.take n }

section
variable {g : Gh} {st : St} {w : World} {n k : Nat}

theorem cut_bx {i b : Nat} (hi : i < n) (h : g.bx[i]? = some (some b)) : (cutG n k g).bx[i]? = some (some b) := by
  show (g.bx.take n)[i]? = _
  rw [List.getElem?_take, if_pos hi]; exact h
theorem cut_bx' {i b : Nat} (h : (cutG n k g).bx[i]? = some (some b)) : i < n ∧ g.bx[i]? = some (some b) := by
  have h' : (g.bx.take n)[i]? = some (some b) := h
  rw [List.getElem?_take] at h'
  split at h'
  · rename_i hi; exact ⟨hi, h'⟩
  · exact absurd h' (by simp)
theorem cut_reg {b : Nat} (h : Reg { g with bx := g.bx.take n } b) : Reg g b := by
  rcases h with ⟨i, h⟩ | h | h
  · exact .ofB (cut_bx' (n := n) (k := 0) h).2
  · exact Or.inr (Or.inl h)
  · exact Or.inr (Or.inr h)
theorem cut_free (hs : SR g st w) {b : Nat} (h : g.role b = .free) : (cutG n k g).role b = .free := by
  by_cases hr : Reg { g with bx := g.bx.take n } b
  · exact absurd (by rw [h]; rfl) (reg_role hs (cut_reg hr))
  · exact clean_not hr (.inr (by show g.role b ≠ .other; rw [h]; simp))
theorem cut_idle (hs : SR g st w) {b : Nat} (hb : b < k) (h : (g.role b).idle = true) : (cutG n k g).role b = g.role b := by
  by_cases hr : Reg { g with bx := g.bx.take n } b
  · exact absurd h (reg_role hs (cut_reg hr))
  · have : (cutG n k g).role b = _ := if_neg hr
    rw [this, if_neg (by omega)]
    show (match g.role b with | .other => Role.other | _ => .free) = g.role b
    cases hx : g.role b <;> first | rfl | (rw [hx] at h; simp [Role.idle] at h)
theorem cut_safe (hs : SR g st w) (b off : Nat) (h : Safe g st w b off) : Safe (cutG n k g) (cutS n st) w b off := by
  obtain ⟨h1, h2⟩ := h
  refine ⟨h1, ?_⟩
  rcases h2 with h2 | ⟨t, sz, used, e1, e2, e3⟩
  · exact .inl (cut_free hs h2)
  · refine .inr ⟨t, sz, used, ?_, e2, e3⟩
    have : (cutG n k g).role b = g.role b := clean_reg (g := { g with bx := g.bx.take n }) (.ofT e2)
    rw [this]; exact e1

theorem VR.cut (hs : SR g st w) {x : AV} {u : Value} (h : VR g (Safe g st w) w x u) (hu : x.under n = true) : VR (cutG n k g) (Safe (cutG n k g) (cutS n st) w) w x u := by
  have hsafe : ∀ (b off : Nat), Safe g st w b off → Safe (cutG n k g) (cutS n st) w b off ∧ ∀ v, cellA w b off = some v → cellA w b off = some v := fun b off h => ⟨cut_safe hs b off h, fun _ h => h⟩
  induction h with
  | d x v hx => exact .d _ _ (hx.keep hsafe)
  | own t rows v b sz used e1 e2 e3 e4 => exact .own t rows v b sz used e1 e2 (e3.keep hsafe) e4
  | nilS => exact .nilS
  | bsl id k full b cap e1 e2 e3 => simp only [AV.under, Nat.blt_eq] at hu; exact .bsl id k full b cap (cut_bx hu e1) e2 e3
  | ptr id off b e1 => simp only [AV.under, Nat.blt_eq] at hu; exact .ptr id off b (cut_bx hu e1)
  | cptr cs b off vals e1 e2 =>
    refine .cptr cs b off vals (fun i c hi => ?_) (fun i c hi => (e2 i c hi).keep hsafe)
    obtain ⟨h1, h2, h3⟩ := e1 i c hi
    exact ⟨h1, (hsafe _ _ h2).1, h3⟩
  | fn f caps vs hl _ ih =>
    simp only [AV.under] at hu
    exact .fn f caps vs hl (fun i c v hc hv => ih i c v hc hv (underL_mem hu c (List.mem_of_getElem? hc)))
  | map m r e1 => exact .map m r e1
  | agg cs vs hl _ ho ih =>
    simp only [AV.under] at hu
    exact .agg cs vs hl (fun i c v hc hv => ih i c v hc hv (underL_mem hu c (List.mem_of_getElem? hc))) ho
  | tup cs vs hl _ ih =>
    simp only [AV.under] at hu
    exact .tup cs vs hl (fun i c v hc hv => ih i c v hc hv (underL_mem hu c (List.mem_of_getElem? hc)))

theorem SR.cut (hs : SR g st w) : SR (cutG n k g) (cutS n st) w := by
  refine ⟨?_, hs.lt, hs.lm, fun i b h => ?_, fun t b sz used h => ?_, fun m r h => ?_, fun i b cs h hc => ?_, fun i cs hc => ?_, hs.tok, fun m r es h hm => ?_⟩
  · show (g.bx.take n).length = (st.boxes.take n).length
    simp [hs.lb]
  · obtain ⟨h1, h2⟩ := cut_bx' h
    have : (cutG n k g).role b = g.role b := clean_reg (g := { g with bx := g.bx.take n }) (.ofB h)
    rw [this]; exact hs.rb i b h2
  · have : (cutG n k g).role b = g.role b := clean_reg (g := { g with bx := g.bx.take n }) (.ofT h)
    rw [this]; exact hs.rt t b sz used h
  · have : (cutG n k g).role r = g.role r := clean_reg (g := { g with bx := g.bx.take n }) (.ofM h)
    rw [this]; exact hs.rm m r h
  · obtain ⟨h1, h2⟩ := cut_bx' h
    have hc' : (st.boxes.take n)[i]? = some cs := hc
    rw [List.getElem?_take, if_pos h1] at hc'
    obtain ⟨cur, ty, e1, e2, e3⟩ := hs.box i b cs h2 hc'
    have hu := (hs.one i cs hc').2
    exact ⟨cur, ty, e1, e2, fun j c v hj hv => (e3 j c v hj hv).cut hs (under_mono (Nat.le_of_lt h1) c (underL_mem hu c (List.mem_of_getElem? hj)))⟩
  · have hc' : (st.boxes.take n)[i]? = some cs := hc
    rw [List.getElem?_take] at hc'
    split at hc'
    · exact hs.one i cs hc'
    · exact absurd hc' (by simp)
  · obtain ⟨ents, clock, h1, h2, h3⟩ := hs.map m r es h hm
    exact ⟨ents, clock, h1, h2, fun i k v e hk he => by
      obtain ⟨h4, h5, h6⟩ := h3 i k v e hk he
      exact ⟨h4.keep (fun b off h => ⟨cut_safe hs b off h, fun _ h => h⟩), h5.keep (fun b off h => ⟨cut_safe hs b off h, fun _ h => h⟩), h6⟩⟩

theorem Ext.cut {g1 : Gh} {st1 : St} {w1 : World} {cx : Cx} (hcx : CxOk cx st) (hs : SR g st w) (hs1 : SR g1 st1 w1) (he : Ext cx g st w g1 st1 w1) :
    Ext cx g st w (cutG st.boxes.length w.heap.size g1) (cutS st.boxes.length st1) w1 := by
  refine ⟨he.os, he.tape, he.output, he.size, fun b hb hr => ⟨(he.free b hb hr).1, (cut_idle hs1 hb (by rw [(he.free b hb hr).2]; exact hr)).trans (he.free b hb hr).2⟩, ⟨fun i b h => cut_bx (by rw [← hs.lb]; exact (List.getElem?_eq_some_iff.1 h).1) (he.keeps.bx i b h), he.keeps.tk, he.keeps.mp, fun b off h => ?_⟩, he.rob, he.rot, he.rom, fun i hi => ?_, he.stk, he.sm, ?_, he.lent, he.lenm⟩
  · obtain ⟨h1, h2⟩ := he.keeps.safe b off h
    exact ⟨cut_safe hs1 b off h1, h2⟩
  · show (st1.boxes.take _)[i]? = _
    rw [List.getElem?_take, if_pos (Nat.lt_of_lt_of_le hi hcx.b)]
    exact he.sb i hi
  · show _ ≤ (st1.boxes.take _).length
    have := he.lenb
    simp; omega
theorem Rsv.cut {g1 : Gh} {st1 : St} (hl : g.bx.length = st.boxes.length) (h : Rsv none none g st g1 st1) : Rsv none none g st (cutG st.boxes.length k g1) (cutS st.boxes.length st1) := by
  refine ⟨fun i e hk => ?_, h.t⟩
  obtain ⟨h1, h2⟩ := h.b i e hk
  have hi : i < st.boxes.length := by rw [← hl]; exact (List.getElem?_eq_some_iff.1 e).1
  refine ⟨?_, ?_⟩
  · show (g1.bx.take _)[i]? = _
    rw [List.getElem?_take, if_pos hi]; exact h1
  · show (st1.boxes.take _)[i]? = _
    rw [List.getElem?_take, if_pos hi]; exact h2
end
end Go.Rf

namespace Go.Rf
set_option linter.unusedVariables false
set_option linter.unusedSimpArgs false

def isSimple : PI → Bool
  | .call _ _ => false
  | .callv _ _ => false
  | .panic _ => false
  | _ => true
theorem exec_val {cx : Cx} {bb tb : Nat} {env : Env} {st : St} {pi : PI} {r : R} (hs : isSimple pi = true) (h : exec cx bb tb env st pi = some r) : ∃ v s, r = .val v s := by
  cases pi <;> first
    | (simp [isSimple] at hs; done)
    | (simp only [exec, x_mv, x_pick, x_alloc, x_box, x_build, x_bslice, x_bsliceB, x_mkB, x_load, x_store, x_nilchk, x_bin, x_eqB, x_eqS, x_not, x_neg, x_conv, x_convSS, x_mkI, x_mkF, x_mkM, x_slStr, x_slSl, x_fldA, x_fldV, x_idxA, x_idxAA, x_idxS, x_idxV, x_lookup, x_mapup, x_lookup2, x_mapup2, x_mn3, x_eqNil, x_tassert, x_ext, x_lenS, x_lenL, x_app, x_appB, x_mx, x_mn] at h
       repeat' split at h
       all_goals first
         | (simp at h; done)
         | (simp only [Option.some.injEq] at h; exact ⟨_, _, h.symm⟩)
         | (obtain ⟨_, _, h⟩ := Option.map_eq_some_iff.1 h; exact ⟨_, _, h.symm⟩))

def EndR (g : Gh) (st : St) (w : World) : Ending → Out → Prop
  | .returned u, .ret v => VR g (Safe g st w) w v u
  | .panicked chain, .pan d => ∃ u, chain = [{ v := u, recovered := false }] ∧ DR (Safe g st w) w d u
  | _, _ => False

/-- A function with a body, entered by a call. -/
def enters (P : Program) (f : Nat) : Bool := match P.funcs[f]? with
  | some fn => fn.body.isSome && !(fn.name == "runtime.NumGoroutine")
  | none => false

def ArgsR (g : Gh) (S : Nat → Nat → Prop) (w : World) (args : List AV) (vs : Array Value) : Prop :=
  args.length = vs.size ∧ ∀ (i : Nat) c v, args[i]? = some c → vs[i]? = some v → VR g S w c v

/-- What a call comes to. -/
def CallR (P : Program) (cx : Cx) (g : Gh) (st : St) (w : World) (f : Nat) (vs : Array Value) (o : Out) (st' : St) : Prop :=
  Calls P f vs w fun e w' => ∃ g', SR g' st' w' ∧ Ext cx g st w g' st' w' ∧ Rsv none none g st g' st' ∧ EndR g' st' w' e o

def CalleeOk (P : Program) (callee : Callee) : Prop :=
  ∀ f args cx st o st', callee f args cx st = some (o, st') → enters P f = true ∧ ∀ g w vs, SR g st w → CxOk cx st → ArgsR g (Safe g st w) w args vs → CallR P cx g st w f vs o st'

theorem run_callFunc_ok {P : Program} {f : Nat} {args : Array Value} {w : World} (h : enters P f = true) : (callFunc f args).run P w = .ok (.enter f args) w := by
  unfold enters at h
  split at h
  · rename_i fn hf
    simp only [Bool.and_eq_true, Bool.not_eq_true'] at h
    obtain ⟨c, hc⟩ := Option.isSome_iff_exists.1 h.1
    have h2 := h.2
    simp only [beq_eq_false_iff_ne] at h2
    simp [callFunc, hf, hc, h2]
  · exact absurd h (by simp)

/-- All operations. -/
def ckOpr (P : Program) (rz : List (List AV)) (rt : List (Nat × Nat)) : PI → Op → Bool
  | .call f args, op => match op with
    | .call c => (match c.callee with | .value (.func f') => f == f' | _ => false) && ckPOs args c.args.toList
    | _ => false
  | .callv f args, op => match op with
    | .call c => (match c.callee with | .value y => ckPO f y | _ => false) && ckPOs args c.args.toList
    | _ => false
  | .panic x, op => match op with | .panic y => ckPO x y | _ => false
  | pi, op => ckOp P rz rt pi op

section
variable {P : Program} {callee : Callee} {cx : Cx} {g : Gh} {st : St} {w : World} {o : Oper} {a : Act} {env : Env} {bb tb : Nat} {out : Out} {st' : St} {rz : List (List AV)} {rt : List (Nat × Nat)} {pi : PI}

theorem ckPOs_size {xs : List PO} {ys : List Operand} : ckPOs xs ys = true → xs.length = ys.length := by
  induction xs generalizing ys with
  | nil => cases ys <;> simp [ckPOs]
  | cons x xs ih => cases ys with
    | nil => simp [ckPOs]
    | cons y ys => simp only [ckPOs, Bool.and_eq_true, List.length_cons]; exact fun h => by rw [ih h.2]

theorem args_ok (he : ER g (Safe g st w) w env a.tmps) {xs : List PO} {ys : Array Operand} (h : ckPOs xs ys.toList = true) : ArgsR g (Safe g st w) w (xs.map (·.ev env)) (ys.map a.eval) := by
  have := ckPOs_arr he h
  exact this

theorem op_wp (hcal : CalleeOk P callee) (hs : SR g st w) (he : ER g (Safe g st w) w env a.tmps) (hcx : CxOk cx st) (hck : ckOpr P rz rt pi o.op = true)
    (hb : ∀ (i : Nat), kbOf bb pi = some i → g.bx[i]? = some none) (ht : ∀ (i : Nat), ktOf tb pi = some i → g.tk[i]? = some none) (htb : cx.t ≤ tb)
    (hz : ∀ (j : Nat) z, rz[j]? = some z → kbOf bb pi = some (bb + j) → st.boxes[bb + j]? = some z) (hrt : ∀ (j : Nat) p, rt[j]? = some p → ktOf tb pi = some (tb + j) → st.toks[tb + j]? = some p)
    (h : stepOp callee cx bb tb env st pi = some (out, st')) {K : Act → World → Prop} {Q : Exit → Act → World → Prop}
    (hK : ∀ v u g' w', out = .ret v → VR g' (Safe g' st' w') w' v u → SR g' st' w' → Ext cx g st w g' st' w' → Rsv (kbOf bb pi) (ktOf tb pi) g st g' st' → K (a.put o.dst u) w')
    (hP : ∀ d u g' w', out = .pan d → DR (Safe g' st' w') w' d u → SR g' st' w' → Ext cx g st w g' st' w' → Rsv (kbOf bb pi) (ktOf tb pi) g st g' st' → Q (.panic [{ v := u, recovered := false }]) a w') :
    o.wp P a w K Q := by
  have callCase : ∀ f args vs, callee f args cx st = some (out, st') → ArgsR g (Safe g st w) w args vs → (enters P f = true → (execOp a.eval o).run P w = .ok (.enter f vs) w) → o.wp P a w K Q := by
    intro f args vs hc ha hr
    obtain ⟨he1, he2⟩ := hcal f args cx st out st' hc
    have hcall := he2 g w vs hs hcx ha
    unfold Oper.wp
    rw [hr he1, Oper.upon_enter]
    refine Calls.mono hcall fun e w' ⟨g', h1, h2, h3, h4⟩ => ?_
    cases e with
    | returned u => cases out with
      | ret v => exact hK v u g' w' rfl h4 h1 h2 (h3.mono _ _)
      | pan d => exact h4.elim
    | panicked chain => cases out with
      | ret v => exact h4.elim
      | pan d =>
        obtain ⟨u, rfl, h5⟩ := h4
        exact hP d u g' w' rfl h5 h1 h2 (h3.mono _ _)
    | outgrown => cases out <;> exact h4.elim
  unfold stepOp at h
  split at h
  · rename_i v st1 hx
    simp only [Option.some.injEq, Prod.mk.injEq] at h
    obtain ⟨rfl, rfl⟩ := h
    have hck' : ckOp P rz rt pi o.op = true := by
      cases pi with
      | call f args => simp [exec, x_call] at hx
      | callv f args => simp only [exec, x_callv] at hx; split at hx <;> simp at hx
      | panic x => simp only [exec, x_panic] at hx; split at hx <;> simp at hx
      | _ => exact hck
    obtain ⟨g', u, w', nx, h1, h2, h3, h4, h5, h6⟩ := sim_op hs he hcx hck' hb ht htb hz hrt hx
    unfold Oper.wp
    rw [h1]
    rcases h2 with rfl | ⟨rfl, rfl⟩
    · exact hK v u g' w' rfl h3 h4 h5 h6
    · exact hK v undef g' w' rfl h3 h4 h5 h6
  · rename_i f args hx
    cases pi with
    | call f' xs =>
      simp only [exec, x_call, Option.some.injEq, R.enter.injEq] at hx
      obtain ⟨rfl, rfl⟩ := hx
      simp only [ckOpr] at hck
      split at hck
      · rename_i c ec
        simp only [Bool.and_eq_true] at hck
        obtain ⟨c1, c2⟩ := hck
        split at c1
        · rename_i f2 ef
          simp only [beq_iff_eq] at c1
          subst c1
          refine callCase _ _ _ h (args_ok he c2) (fun hen => ?_)
          simp only [execOp, ec, resolve, ef, Sem.run_bind]
          have : a.eval (.func f') = .func (.func f') #[] #[] := rfl
          rw [this]
          simp [Deferred.ofValue, invoke, run_callFunc_ok hen]
        · exact absurd c1 (by simp)
      · exact absurd hck (by simp)
    | callv y xs =>
      simp only [exec, x_callv] at hx
      split at hx
      · rename_i f2 caps ey
        simp only [Option.some.injEq, R.enter.injEq] at hx
        obtain ⟨rfl, rfl⟩ := hx
        simp only [ckOpr] at hck
        split at hck
        · rename_i c ec
          simp only [Bool.and_eq_true] at hck
          obtain ⟨c1, c2⟩ := hck
          split at c1
          · rename_i y' ef
            have hy := he.ev c1
            rw [ey] at hy
            generalize hu : a.eval y' = u at hy
            cases hy with
            | fn _ _ vs hl hv =>
              obtain ⟨k1, k2⟩ := args_ok he c2
              refine callCase _ _ (c.args.map a.eval ++ vs) h ⟨by rw [List.length_append, Array.size_append, k1, hl], fun i d v hd hv2 => ?_⟩ (fun hen => ?_)
              · rw [List.getElem?_append] at hd
                rw [Array.getElem?_append] at hv2
                split at hd
                · rename_i hi
                  rw [if_pos (by omega)] at hv2
                  exact k2 i d v hd hv2
                · rename_i hi
                  rw [if_neg (by omega)] at hv2
                  rw [k1] at hd
                  exact hv _ d v hd hv2
              · simp only [execOp, ec, resolve, ef, Sem.run_bind, hu]
                simp [Deferred.ofValue, invoke, run_callFunc_ok hen]
          · exact absurd c1 (by simp)
        · exact absurd hck (by simp)
      · exact absurd hx (by simp)
    | panic x => simp only [exec, x_panic] at hx; split at hx <;> simp at hx
    | _ => obtain ⟨_, _, e⟩ := exec_val rfl hx; cases e
  · rename_i d hx
    simp only [Option.some.injEq, Prod.mk.injEq] at h
    obtain ⟨rfl, rfl⟩ := h
    cases pi with
    | panic x =>
      simp only [exec, x_panic] at hx
      split at hx
      · rename_i t v ex
        simp only [Option.some.injEq, R.pan.injEq] at hx
        subst hx
        simp only [ckOpr] at hck
        split at hck
        · rename_i y ey
          have hy := he.ev hck
          rw [ex] at hy
          generalize hu : a.eval y = u at hy
          cases hy with
          | d _ _ hd =>
            have hd2 := hd
            cases hd with
            | iface _ _ z hz2 =>
              unfold Oper.wp
              have : (execOp a.eval o).run P w = .halt (.panic (.iface t z)) w := by
                simp [execOp, ey, hu, Instr.panic, goPanic]
              rw [this, Oper.upon_panic]
              exact hP _ _ g w rfl hd2 hs (Ext.refl _ _ _ _) (Rsv.refl _ _ _ _)
        · exact absurd hck (by simp)
      · exact absurd hx (by simp)
    | call f args => simp [exec, x_call] at hx
    | callv f args => simp only [exec, x_callv] at hx; split at hx <;> simp at hx
    | _ => obtain ⟨_, _, e⟩ := exec_val rfl hx; cases e
  · exact absurd h (by simp)
end
end Go.Rf

namespace Go.Rf
set_option linter.unusedVariables false
set_option linter.unusedSimpArgs false

def ExR (g : Gh) (st : St) (w : World) : Ex → Exit → Prop
  | .normal, .normal => True
  | .exit i, .exit j => i = j
  | .ret, .ret => True
  | .pan d, .panic chain => ∃ u, chain = [{ v := u, recovered := false }] ∧ DR (Safe g st w) w d u
  | _, _ => False

/-- Where a piece of code comes to. -/
structure Comes1 (cx : Cx) (g : Gh) (st : St) (w : World) (a : Act) (ex : Ex) (env' : Env) (st' : St) (e : Exit) (a' : Act) (w' : World) (g' : Gh) : Prop where
  ex : ExR g' st' w' ex e
  sr : SR g' st' w'
  er : ER g' (Safe g' st' w') w' env' a'.tmps
  defers : a'.defers = a.defers
  ext : Ext cx g st w g' st' w'
  rsv : Rsv none none g st g' st'

theorem put_defers (a : Act) (dst : Option Tmp) (v : Value) : (a.put dst v).defers = a.defers := by cases dst <;> rfl

/-- A guard. -/
def ckGuard (ops : Array Oper) : Option (Nat × Bool) → Option (Nat × Bool) → Bool
  | none, none => true
  | some (d, b), some (j, want) => b == want && (match ops[j]? with | some o => o.dst == some d | none => false)
  | _, _ => false

theorem VR.bool_of {g : Gh} {S : Nat → Nat → Prop} {w : World} {x : AV} {b : Bool} (h : VR g S w x (.bool b)) : x = .d (.bool b) := by
  cases h with
  | d x v hx => cases hx; rfl
  | own t rows v b2 sz used h1 h2 h3 h4 => cases h3

theorem wanted_eq {g : Gh} {S : Nat → Nat → Prop} {w : World} {env : Env} {tmps : Array Value} {ops : Array Oper} {o : Oper} {gd : Option (Nat × Bool)} (he : ER g S w env tmps) (h : ckGuard ops gd o.guard = true) :
    Region.wanted o (yielded ops tmps) = wanted env gd := by
  cases gd with
  | none => cases hg : o.guard with
    | none => simp [Region.wanted, wanted, hg]
    | some p => rw [hg] at h; simp [ckGuard] at h
  | some p =>
    obtain ⟨d, b⟩ := p
    cases hg : o.guard with
    | none => rw [hg] at h; simp [ckGuard] at h
    | some q =>
      obtain ⟨j, want⟩ := q
      rw [hg] at h
      simp only [ckGuard, Bool.and_eq_true, beq_iff_eq] at h
      obtain ⟨rfl, h2⟩ := h
      split at h2
      · rename_i o2 ho2
        simp only [beq_iff_eq] at h2
        simp only [Region.wanted, hg, wanted, yielded, ho2, Option.bind_some, h2]
        have hv := he.get d
        rcases Nat.lt_or_ge d env.length with hd | hd
        · have e1 : env[d]? = some env[d] := List.getElem?_eq_getElem hd
          have hd2 : d < tmps.size := by have := he.1; omega
          have e2 : tmps[d]? = some tmps[d] := Array.getElem?_eq_getElem hd2
          have hv2 := he.2 d _ _ e1 e2
          simp only [List.getD_eq_getElem?_getD, e1, e2, Option.getD_some]
          generalize hx : env[d] = x at *
          generalize hu : tmps[d] = u at *
          cases hv2 with
          | d x v hx2 => cases hx2 <;> rfl
          | own t rows v b2 sz used h1 h2 h3 h4 => cases h3 <;> rfl
          | _ => rfl
        · have e1 : env[d]? = none := List.getElem?_eq_none hd
          have e2 : tmps[d]? = none := Array.getElem?_eq_none (by have := he.1; omega)
          simp [List.getD_eq_getElem?_getD, e1, e2, undefA]
      · exact absurd h2 (by simp)

/-- Operations against the loaded ones. -/
def ckOps (P : Program) (rz : List (List AV)) (rt : List (Nat × Nat)) (all : Array Oper) : List POp → List Oper → Bool
  | [], [] => true
  | p :: ps, o :: os => p.dst == o.dst && ckGuard all p.guard o.guard && ckOpr P rz rt p.pi o.op && ckOps P rz rt all ps os
  | _, _ => false

def apart1 (p q : POp) : Bool := (match kbOf 0 p.pi with | some i => kbOf 0 q.pi != some i | none => true) && (match ktOf 0 p.pi with | some i => ktOf 0 q.pi != some i | none => true)
/-- No box and no token is made twice. -/
def distinct : List POp → Bool
  | [] => true
  | p :: ps => ps.all (apart1 p) && distinct ps

theorem kbOf_shift (bb : Nat) (pi : PI) : kbOf bb pi = (kbOf 0 pi).map (bb + ·) := by cases pi <;> simp [kbOf]
theorem ktOf_shift (bb : Nat) (pi : PI) : ktOf bb pi = (ktOf 0 pi).map (bb + ·) := by cases pi <;> simp [ktOf]
theorem apart1_b {p q : POp} (h : apart1 p q = true) (bb : Nat) {i : Nat} (hq : kbOf bb q.pi = some i) : kbOf bb p.pi ≠ some i := by
  intro hp
  simp only [apart1, Bool.and_eq_true] at h
  rw [kbOf_shift] at hp hq
  obtain ⟨j, hj, rfl⟩ := Option.map_eq_some_iff.1 hp
  obtain ⟨k, hk, he⟩ := Option.map_eq_some_iff.1 hq
  have : k = j := by omega
  subst this
  rw [hj] at h
  simp [hk] at h
theorem apart1_t {p q : POp} (h : apart1 p q = true) (bb : Nat) {i : Nat} (hq : ktOf bb q.pi = some i) : ktOf bb p.pi ≠ some i := by
  intro hp
  simp only [apart1, Bool.and_eq_true] at h
  rw [ktOf_shift] at hp hq
  obtain ⟨j, hj, rfl⟩ := Option.map_eq_some_iff.1 hp
  obtain ⟨k, hk, he⟩ := Option.map_eq_some_iff.1 hq
  have : k = j := by omega
  subst this
  have h2 := h.2
  rw [hj] at h2
  simp [hk] at h2

/-- What is still kept ready for an operation. -/
structure Fresh1 (bb tb : Nat) (rz : List (List AV)) (rt : List (Nat × Nat)) (g : Gh) (st : St) (p : POp) : Prop where
  b : ∀ (i : Nat), kbOf bb p.pi = some i → g.bx[i]? = some none ∧ st.boxes[i]? = rz[i - bb]?
  t : ∀ (i : Nat), ktOf tb p.pi = some i → g.tk[i]? = some none ∧ st.toks[i]? = rt[i - tb]?

theorem Fresh1.keep {bb tb : Nat} {rz : List (List AV)} {rt : List (Nat × Nat)} {g g' : Gh} {st st' : St} {p q : POp} (h : Fresh1 bb tb rz rt g st q) (ha : apart1 p q = true) (hr : Rsv (kbOf bb p.pi) (ktOf tb p.pi) g st g' st') : Fresh1 bb tb rz rt g' st' q :=
  ⟨fun i hi => by
    obtain ⟨h1, h2⟩ := h.b i hi
    obtain ⟨h3, h4⟩ := hr.b i h1 (apart1_b ha bb hi)
    exact ⟨h3, h4.trans h2⟩, fun i hi => by
    obtain ⟨h1, h2⟩ := h.t i hi
    obtain ⟨h3, h4⟩ := hr.t i h1 (apart1_t ha tb hi)
    exact ⟨h3, h4.trans h2⟩⟩

theorem CxOk.ext {cx : Cx} {g g' : Gh} {st st' : St} {w w' : World} (h : CxOk cx st) (he : Ext cx g st w g' st' w') : CxOk cx st' :=
  ⟨Nat.le_trans h.b he.lenb, Nat.le_trans h.t he.lent, Nat.le_trans h.m he.lenm⟩

/-- What an operation of a region may touch of what was there before the region. -/
def Inner (bb tb : Nat) (g : Gh) (st : St) (g' : Gh) (st' : St) : Prop :=
  (∀ (i : Nat), i < bb → g.bx[i]? = some none → g'.bx[i]? = some none ∧ st'.boxes[i]? = st.boxes[i]?) ∧ (∀ (t : Nat), t < tb → g.tk[t]? = some none → g'.tk[t]? = some none ∧ st'.toks[t]? = st.toks[t]?)
theorem Inner.trans {bb tb : Nat} {g1 g2 g3 : Gh} {s1 s2 s3 : St} (h : Inner bb tb g1 s1 g2 s2) (k : Inner bb tb g2 s2 g3 s3) : Inner bb tb g1 s1 g3 s3 :=
  ⟨fun i hi e => by
    obtain ⟨h1, h2⟩ := h.1 i hi e
    obtain ⟨h3, h4⟩ := k.1 i hi h1
    exact ⟨h3, h4.trans h2⟩, fun i hi e => by
    obtain ⟨h1, h2⟩ := h.2 i hi e
    obtain ⟨h3, h4⟩ := k.2 i hi h1
    exact ⟨h3, h4.trans h2⟩⟩
theorem kbOf_ge {bb i : Nat} {pi : PI} (h : kbOf bb pi = some i) : bb ≤ i := by
  rw [kbOf_shift] at h; obtain ⟨j, _, rfl⟩ := Option.map_eq_some_iff.1 h; omega
theorem ktOf_ge {bb i : Nat} {pi : PI} (h : ktOf bb pi = some i) : bb ≤ i := by
  rw [ktOf_shift] at h; obtain ⟨j, _, rfl⟩ := Option.map_eq_some_iff.1 h; omega
theorem Rsv.inner {bb tb : Nat} {pi : PI} {g g' : Gh} {st st' : St} (h : Rsv (kbOf bb pi) (ktOf tb pi) g st g' st') : Inner bb tb g st g' st' :=
  ⟨fun i hi e => h.b i e (fun hk => by have := kbOf_ge hk; omega), fun i hi e => h.t i e (fun hk => by have := ktOf_ge hk; omega)⟩

section
variable {P : Program} {callee : Callee} {cx : Cx} {bb tb : Nat} {rz : List (List AV)} {rt : List (Nat × Nat)} {ops : Array Oper}

/-- The operations from i on, in the text's order. -/
theorem text_wp (hcal : CalleeOk P callee) (htb : cx.t ≤ tb) {Q : Exit → Act → World → Prop} {ex : Ex} {env' : Env} {st' : St} : ∀ (ps : List POp) (i : Nat) (env : Env) (st : St) (g : Gh) (w : World) (a : Act),
    ckOps P rz rt ops ps (ops.toList.drop i) = true → distinct ps = true → (∀ p, p ∈ ps → Fresh1 bb tb rz rt g st p) → SR g st w → ER g (Safe g st w) w env a.tmps → CxOk cx st →
    runOps callee cx bb tb ps env st = some (ex, env', st') →
    (∀ e a' w' g', ExR g' st' w' ex e → SR g' st' w' → ER g' (Safe g' st' w') w' env' a'.tmps → a'.defers = a.defers → Ext cx g st w g' st' w' → Inner bb tb g st g' st' → Q e a' w') →
    wpOps P ops Q (List.range' i ps.length) a w
  | [], i, env, st, g, w, a, hck, hd, hf, hs, he, hcx, h, hQ => by
    simp only [runOps, Option.some.injEq, Prod.mk.injEq] at h
    obtain ⟨rfl, rfl, rfl⟩ := h
    exact hQ .normal a w g trivial hs he rfl (Ext.refl _ _ _ _) ⟨fun _ _ e => ⟨e, rfl⟩, fun _ _ e => ⟨e, rfl⟩⟩
  | p :: ps, i, env, st, g, w, a, hck, hd, hf, hs, he, hcx, h, hQ => by
    rcases hdrop : ops.toList.drop i with _ | ⟨o, os⟩
    · rw [hdrop] at hck; simp [ckOps] at hck
    rw [hdrop] at hck
    have hi : ops[i]? = some o := by
      have := List.getElem?_drop (xs := ops.toList) (i := i) (j := 0)
      rw [hdrop] at this
      simpa using this.symm
    have hdrop2 : ops.toList.drop (i + 1) = os := by
      have : ops.toList.drop (i + 1) = (ops.toList.drop i).drop 1 := by rw [List.drop_drop]
      rw [this, hdrop]; rfl
    simp only [ckOps, Bool.and_eq_true, beq_iff_eq] at hck
    obtain ⟨⟨⟨h1, h2⟩, h3⟩, h4⟩ := hck
    simp only [distinct, Bool.and_eq_true] at hd
    obtain ⟨hd1, hd2⟩ := hd
    rw [List.all_eq_true] at hd1
    simp only [List.length_cons, List.range'_succ]
    rw [wpOps, hi]
    simp only []
    have hw := wanted_eq he h2
    simp only [runOps] at h
    have hfp := hf p (List.mem_cons_self ..)
    split
    · rename_i hwant
      rw [hw] at hwant
      rw [if_pos hwant] at h
      refine .inl ?_
      have go : ∀ out st1, stepOp callee cx bb tb env st p.pi = some (out, st1) →
          (∀ v u g' w', out = .ret v → VR g' (Safe g' st1 w') w' v u → SR g' st1 w' → Ext cx g st w g' st1 w' → Rsv (kbOf bb p.pi) (ktOf tb p.pi) g st g' st1 → wpOps P ops Q (List.range' (i + 1) ps.length) (a.put o.dst u) w') →
          (∀ d u g' w', out = .pan d → DR (Safe g' st1 w') w' d u → SR g' st1 w' → Ext cx g st w g' st1 w' → Rsv (kbOf bb p.pi) (ktOf tb p.pi) g st g' st1 → Q (.panic [{ v := u, recovered := false }]) a w') →
          o.wp P a w (wpOps P ops Q (List.range' (i + 1) ps.length)) Q := fun out st1 hst hK hP =>
        op_wp hcal hs he hcx h3 (fun i hi => (hfp.b i hi).1) (fun i hi => (hfp.t i hi).1) htb (fun j z hj hk => by
          have := (hfp.b _ hk).2; rw [this, Nat.add_sub_cancel_left]; exact hj) (fun j z hj hk => by
          have := (hfp.t _ hk).2; rw [this, Nat.add_sub_cancel_left]; exact hj) hst hK hP
      split at h
      · rename_i v st1 hst
        refine go _ _ hst (fun v' u g' w' e hv hs' hext hr => ?_) (fun d u g' w' e => by cases e)
        injection e with e; subst e
        refine text_wp hcal htb ps (i + 1) _ st1 g' w' _ (by rw [hdrop2]; exact h4) hd2 (fun q hq => (hf q (List.mem_cons_of_mem _ hq)).keep (hd1 q hq) hr) hs' (by rw [h1]; exact (he.keep hext.keeps).put o.dst hv) (hcx.ext hext) h (fun e a' w'' g'' k1 k2 k3 k4 k5 k6 => ?_)
        exact hQ e a' w'' g'' k1 k2 k3 (k4.trans (put_defers ..)) (hext.trans k5) (hr.inner.trans k6)
      · rename_i d st1 hst
        simp only [Option.some.injEq, Prod.mk.injEq] at h
        obtain ⟨rfl, rfl, rfl⟩ := h
        refine go _ _ hst (fun v' u g' w' e => by cases e) (fun d' u g' w' e hdv hs' hext hr => ?_)
        injection e with e; subst e
        exact hQ _ a w' g' ⟨u, rfl, hdv⟩ hs' (he.keep hext.keeps) rfl hext hr.inner
      · exact absurd h (by simp)
    · rename_i hwant
      rw [hw] at hwant
      rw [if_neg hwant] at h
      refine text_wp hcal htb ps (i + 1) _ st g w _ (by rw [hdrop2]; exact h4) hd2 (fun q hq => hf q (List.mem_cons_of_mem _ hq)) hs (by rw [h1]; exact he.put o.dst VR.undef) hcx h (fun e a' w'' g'' k1 k2 k3 k4 k5 k6 => ?_)
      exact hQ e a' w'' g'' k1 k2 k3 (k4.trans (put_defers ..)) k5 k6

/-- At a region's begin. -/
theorem region_begin {g : Gh} {st : St} {w : World} {env : Env} {a : Act} (hs : SR g st w) (he : ER g (Safe g st w) w env a.tmps) (hcx : CxOk cx st) (hz : rz.all (fun z => z.all plainCell) = true) {ps : List POp}
    (hidx : ∀ p, p ∈ ps → (∀ j, kbOf 0 p.pi = some j → j < rz.length) ∧ ∀ j, ktOf 0 p.pi = some j → j < rt.length) :
    ∃ g0, SR g0 { boxes := st.boxes ++ rz, toks := st.toks ++ rt, maps := st.maps } w ∧ ER g0 (Safe g0 { boxes := st.boxes ++ rz, toks := st.toks ++ rt, maps := st.maps } w) w env a.tmps ∧
      CxOk cx { boxes := st.boxes ++ rz, toks := st.toks ++ rt, maps := st.maps } ∧ Ext cx g st w g0 { boxes := st.boxes ++ rz, toks := st.toks ++ rt, maps := st.maps } w ∧
      Rsv none none g st g0 { boxes := st.boxes ++ rz, toks := st.toks ++ rt, maps := st.maps } ∧
      ∀ p, p ∈ ps → Fresh1 st.boxes.length st.toks.length rz rt g0 { boxes := st.boxes ++ rz, toks := st.toks ++ rt, maps := st.maps } p := by
  obtain ⟨h1, h2⟩ := hs.reserve rz rt (fun i cs hi => by
    rw [List.all_eq_true] at hz
    exact plain_one _ (hz cs (List.mem_of_getElem? hi)))
  refine ⟨_, h1, he.keep h2.keeps, ⟨?_, ?_, hcx.m⟩, h2.ext hs (fun i hi => ?_) (fun i hi => ?_) (fun _ _ => rfl) (by simp) (by simp) (Nat.le_refl _), ⟨fun i e _ => ?_, fun i e _ => ?_⟩, fun p hp => ⟨fun i hi => ?_, fun i hi => ?_⟩⟩
  · have := hcx.b; show cx.b ≤ (st.boxes ++ rz).length; simp; omega
  · have := hcx.t; show cx.t ≤ (st.toks ++ rt).length; simp; omega
  · exact List.getElem?_append_left (Nat.lt_of_lt_of_le hi hcx.b)
  · exact List.getElem?_append_left (Nat.lt_of_lt_of_le hi hcx.t)
  · have hl := (List.getElem?_eq_some_iff.1 e).1
    exact ⟨by show (g.bx ++ _)[i]? = _; rw [List.getElem?_append_left hl]; exact e, List.getElem?_append_left (by rw [← hs.lb]; exact hl)⟩
  · have hl := (List.getElem?_eq_some_iff.1 e).1
    exact ⟨by show (g.tk ++ _)[i]? = _; rw [List.getElem?_append_left hl]; exact e, List.getElem?_append_left (by rw [← hs.lt]; exact hl)⟩
  · rw [kbOf_shift] at hi
    obtain ⟨j, hj, rfl⟩ := Option.map_eq_some_iff.1 hi
    have hjl := (hidx p hp).1 j hj
    refine ⟨?_, ?_⟩
    · show (g.bx ++ List.replicate rz.length none)[st.boxes.length + j]? = _
      rw [List.getElem?_append_right (by rw [hs.lb]; omega), List.getElem?_replicate, if_pos (by rw [hs.lb]; omega)]
    · show (st.boxes ++ rz)[st.boxes.length + j]? = _
      rw [List.getElem?_append_right (by omega)]
  · rw [ktOf_shift] at hi
    obtain ⟨j, hj, rfl⟩ := Option.map_eq_some_iff.1 hi
    have hjl := (hidx p hp).2 j hj
    refine ⟨?_, ?_⟩
    · show (g.tk ++ List.replicate rt.length none)[st.toks.length + j]? = _
      rw [List.getElem?_append_right (by rw [hs.lt]; omega), List.getElem?_replicate, if_pos (by rw [hs.lt]; omega)]
    · show (st.toks ++ rt)[st.toks.length + j]? = _
      rw [List.getElem?_append_right (by omega)]
end
end Go.Rf

namespace Go.Rf
set_option linter.unusedVariables false
set_option linter.unusedSimpArgs false

def readsO : PO → List Nat
  | .t i => [i]
  | .c _ => []
def readsOpt : Option PO → List Nat
  | some x => readsO x
  | none => []
def readsL : List PO → List Nat
  | [] => []
  | x :: xs => readsO x ++ readsL xs
def readsP : PI → List Nat
  | .mv x => readsO x
  | .pick c a b => readsO c ++ readsO a ++ readsO b
  | .alloc _ => []
  | .box x => readsO x
  | .build _ ps => readsL (ps.map fun p => p.2.2)
  | .bslice _ _ _ _ ps => readsL (ps.map fun p => p.2)
  | .bsliceB _ _ _ ps => readsL (ps.map fun p => p.2)
  | .mkB _ _ _ n => readsO n
  | .load _ _ x => readsO x
  | .store _ a v => readsO a ++ readsO v
  | .nilchk x => readsO x
  | .bin _ x y => readsO x ++ readsO y
  | .eqB _ x y => readsO x ++ readsO y
  | .eqS _ _ x y => readsO x ++ readsO y
  | .not x => readsO x
  | .neg x => readsO x
  | .conv _ x => readsO x
  | .convSS x => readsO x
  | .mkI _ x => readsO x
  | .mkF _ xs => readsL xs
  | .mkM => []
  | .slStr x lo hi => readsO x ++ readsOpt lo ++ readsOpt hi
  | .slSl _ x lo hi => readsO x ++ readsOpt lo ++ readsOpt hi
  | .fldA _ x => readsO x
  | .fldV _ _ _ x => readsO x
  | .idxA _ x i => readsO x ++ readsO i
  | .idxAA _ _ x i => readsO x ++ readsO i
  | .idxS x i => readsO x ++ readsO i
  | .idxV _ _ _ x i => readsO x ++ readsO i
  | .lookup _ _ m k => readsO m ++ readsO k
  | .mapup m k v => readsO m ++ readsO k ++ readsO v
  | .lookup2 _ _ m k => readsO m ++ readsO k
  | .mapup2 m k v => readsO m ++ readsO k ++ readsO v
  | .mn3 x y z => readsO x ++ readsO y ++ readsO z
  | .eqNil x => readsO x
  | .tassert _ _ x => readsO x
  | .ext _ x => readsO x
  | .lenS x => readsO x
  | .lenL x => readsO x
  | .app _ _ _ s x => readsO s ++ readsO x
  | .appB _ _ x => readsO x
  | .mx x y => readsO x ++ readsO y
  | .mn x y => readsO x ++ readsO y
  | .panic x => readsO x
  | .call _ xs => readsL xs
  | .callv f xs => readsO f ++ readsL xs

def Agree (l : List Nat) (e e' : Env) : Prop := ∀ t, t ∈ l → e.getD t undefA = e'.getD t undefA
theorem Agree.left {l m : List Nat} {e e' : Env} (h : Agree (l ++ m) e e') : Agree l e e' := fun t ht => h t (List.mem_append_left _ ht)
theorem Agree.right {l m : List Nat} {e e' : Env} (h : Agree (l ++ m) e e') : Agree m e e' := fun t ht => h t (List.mem_append_right _ ht)
theorem Agree.ev {x : PO} {e e' : Env} (h : Agree (readsO x) e e') : x.ev e = x.ev e' := by
  cases x with
  | t i => exact h i (by simp [readsO])
  | c v => rfl
theorem Agree.evL : ∀ {xs : List PO} {e e' : Env}, Agree (readsL xs) e e' → xs.map (·.ev e) = xs.map (·.ev e')
  | [], _, _, _ => rfl
  | x :: xs, e, e', h => by simp only [List.map_cons, Agree.ev h.left, Agree.evL (xs := xs) h.right]
theorem Agree.ev3 : ∀ {ps : List (Nat × Nat × PO)} {e e' : Env}, Agree (readsL (ps.map fun p => p.2.2)) e e' → (ps.map fun (o, n, x) => (o, n, x.ev e)) = ps.map fun (o, n, x) => (o, n, x.ev e')
  | [], _, _, _ => rfl
  | p :: ps, e, e', h => by simp only [List.map_cons]; rw [Agree.ev3 (ps := ps) h.right, Agree.ev (x := p.2.2) h.left]
theorem Agree.ev2 : ∀ {ps : List (Nat × PO)} {e e' : Env}, Agree (readsL (ps.map fun p => p.2)) e e' → (ps.map fun (i, x) => (i, x.ev e)) = ps.map fun (i, x) => (i, x.ev e')
  | [], _, _, _ => rfl
  | p :: ps, e, e', h => by simp only [List.map_cons]; rw [Agree.ev2 (ps := ps) h.right, Agree.ev (x := p.2) h.left]
theorem Agree.ev4 (esz : Nat) : ∀ {ps : List (Nat × PO)} {e e' : Env}, Agree (readsL (ps.map fun p => p.2)) e e' → (ps.map fun (i, x) => (i * esz, esz, x.ev e)) = ps.map fun (i, x) => (i * esz, esz, x.ev e')
  | [], _, _, _ => rfl
  | p :: ps, e, e', h => by simp only [List.map_cons]; rw [Agree.ev4 esz (ps := ps) h.right, Agree.ev (x := p.2) h.left]
theorem Agree.bound {x : Option PO} {e e' : Env} (h : Agree (readsOpt x) e e') (top d : Nat) : bound e top x d = bound e' top x d := by
  cases x with
  | none => rfl
  | some x => simp only [Rf.bound, Agree.ev (x := x) h]

theorem exec_congr {cx : Cx} {bb tb : Nat} {e e' : Env} {st : St} {pi : PI} (h : Agree (readsP pi) e e') : exec cx bb tb e st pi = exec cx bb tb e' st pi := by
  cases pi with
  | mv x => simp only [exec, x_mv, h.ev]
  | pick c x y => simp only [exec, x_pick, h.left.left.ev, h.left.right.ev, h.right.ev]
  | alloc j => rfl
  | box x => simp only [exec, x_box, h.ev]
  | build z ps => simp only [exec, x_build, h.ev3]
  | bslice j es n z ps => simp only [exec, x_bslice, h.ev2]
  | bsliceB es n z ps => simp only [exec, x_bsliceB, h.ev4 es]
  | mkB es b z n => simp only [exec, x_mkB, h.ev]
  | load ag n x => simp only [exec, x_load, h.ev]
  | store n x y => simp only [exec, x_store, h.left.ev, h.right.ev]
  | nilchk x => simp only [exec, x_nilchk, h.ev]
  | bin o x y => simp only [exec, x_bin, h.left.ev, h.right.ev]
  | eqB n x y => simp only [exec, x_eqB, h.left.ev, h.right.ev]
  | eqS k n x y => simp only [exec, x_eqS, h.left.ev, h.right.ev]
  | not x => simp only [exec, x_not, h.ev]
  | neg x => simp only [exec, x_neg, h.ev]
  | conv k x => simp only [exec, x_conv, h.ev]
  | convSS x => simp only [exec, x_convSS, h.ev]
  | mkI t x => simp only [exec, x_mkI, h.ev]
  | mkF f xs => simp only [exec, x_mkF, h.evL]
  | mkM => rfl
  | slStr x lo hi => simp only [exec, x_slStr, h.left.left.ev, h.left.right.bound, h.right.bound]
  | slSl es x lo hi => simp only [exec, x_slSl, h.left.left.ev, h.left.right.bound, h.right.bound]
  | fldA o x => simp only [exec, x_fldA, h.ev]
  | fldV ag o n x => simp only [exec, x_fldV, h.ev]
  | idxA es x i => simp only [exec, x_idxA, h.left.ev, h.right.ev]
  | idxAA es n x i => simp only [exec, x_idxAA, h.left.ev, h.right.ev]
  | idxS x i => simp only [exec, x_idxS, h.left.ev, h.right.ev]
  | idxV ag es n x i => simp only [exec, x_idxV, h.left.ev, h.right.ev]
  | lookup z o m k => simp only [exec, x_lookup, h.left.ev, h.right.ev]
  | mapup m k v => simp only [exec, x_mapup, h.left.left.ev, h.left.right.ev, h.right.ev]
  | lookup2 z o m k => simp only [exec, x_lookup2, h.left.ev, h.right.ev]
  | mapup2 m k v => simp only [exec, x_mapup2, h.left.left.ev, h.left.right.ev, h.right.ev]
  | mn3 x y z => simp only [exec, x_mn3, h.left.left.ev, h.left.right.ev, h.right.ev]
  | eqNil x => simp only [exec, x_eqNil, h.ev]
  | tassert t z x => simp only [exec, x_tassert, h.ev]
  | ext i x => simp only [exec, x_ext, h.ev]
  | lenS x => simp only [exec, x_lenS, h.ev]
  | lenL x => simp only [exec, x_lenL, h.ev]
  | app j es b s x => simp only [exec, x_app, h.left.ev, h.right.ev]
  | appB es b x => simp only [exec, x_appB, h.ev]
  | mx x y => simp only [exec, x_mx, h.left.ev, h.right.ev]
  | mn x y => simp only [exec, x_mn, h.left.ev, h.right.ev]
  | panic x => simp only [exec, x_panic, h.ev]
  | call f xs => simp only [exec, x_call, h.evL]
  | callv f xs => simp only [exec, x_callv, h.left.ev, h.right.evL]

theorem stepOp_congr {callee : Callee} {cx : Cx} {bb tb : Nat} {e e' : Env} {st : St} {pi : PI} (h : Agree (readsP pi) e e') : stepOp callee cx bb tb e st pi = stepOp callee cx bb tb e' st pi := by
  unfold stepOp; rw [exec_congr h]

/-- 0: the state plays no part; 1: it is read; 2: it may be written. -/
def cls2 : PI → Nat
  | .lookup2 _ _ _ _ => 1
  | .mapup2 _ _ _ => 2
  | _ => 0
def cls (loud : Nat → Bool) : PI → Nat
  | .load _ _ _ => 1
  | .lookup _ _ _ _ => 1
  | .call f _ => if loud f then 2 else 1
  | .callv _ _ => 2
  | .box _ => 2
  | .bsliceB _ _ _ _ => 2
  | .mkB _ _ _ _ => 2
  | .store _ _ _ => 2
  | .mkM => 2
  | .mapup _ _ _ => 2
  | .app _ _ _ _ _ => 2
  | .appB _ _ _ => 2
  | .panic _ => 2
  | pi => cls2 pi

theorem exec_P {loud : Nat → Bool} {cx : Cx} {bb tb : Nat} {e : Env} {st : St} {pi : PI} {r : R} (hc : cls loud pi = 0) (h : exec cx bb tb e st pi = some r) : ∃ v, r = .val v st ∧ ∀ st2, exec cx bb tb e st2 pi = some (.val v st2) := by
  cases pi with
  | load => simp [cls, cls2] at hc
  | lookup => simp [cls, cls2] at hc
  | lookup2 => simp [cls, cls2] at hc
  | call f xs => simp only [cls, cls2] at hc; split at hc <;> simp at hc
  | callv => simp [cls, cls2] at hc
  | box => simp [cls, cls2] at hc
  | bsliceB => simp [cls, cls2] at hc
  | mkB => simp [cls, cls2] at hc
  | store => simp [cls, cls2] at hc
  | mkM => simp [cls, cls2] at hc
  | mapup => simp [cls, cls2] at hc
  | mapup2 => simp [cls, cls2] at hc
  | app => simp [cls, cls2] at hc
  | appB => simp [cls, cls2] at hc
  | panic => simp [cls, cls2] at hc
  | mn3 x y z =>
    simp only [exec, x_mn3] at h ⊢
    split at h
    · rename_i k a k' b k'' c e1 e2 e3
      split at h
      · rename_i hk
        simp only [Option.some.injEq] at h; subst h
        exact ⟨_, rfl, fun st2 => by simp only [e1, e2, e3, if_pos hk]⟩
      · simp at h
    · simp at h
  | _ =>
    simp only [exec, x_mv, x_pick, x_alloc, x_build, x_bslice, x_nilchk, x_bin, x_eqB, x_eqS, x_not, x_neg, x_conv, x_convSS, x_mkI, x_mkF, x_slStr, x_slSl, x_fldA, x_fldV, x_idxA, x_idxAA, x_idxS, x_idxV, x_tassert, x_ext, x_lenS, x_lenL, x_mx, x_mn, x_mn3, x_eqNil] at h ⊢
    (repeat' split at h) <;> first
      | (simp at h; done)
      | (simp only [Option.some.injEq] at h; subst h; exact ⟨_, rfl, fun st2 => by simp_all <;> omega⟩)
      | (obtain ⟨q, hq, h⟩ := Option.map_eq_some_iff.1 h; subst h; exact ⟨_, rfl, fun st2 => by simp_all⟩)

theorem exec_R {loud : Nat → Bool} {cx : Cx} {bb tb : Nat} {e : Env} {st st1 : St} {pi : PI} {v : AV} (hc : cls loud pi = 1) (h : exec cx bb tb e st pi = some (.val v st1)) : st1 = st := by
  cases pi with
  | load ag n x =>
    simp only [exec, x_load] at h
    (repeat' split at h) <;> first
      | (simp at h; done)
      | (simp only [Option.some.injEq, R.val.injEq] at h; exact h.2.symm)
      | (obtain ⟨q, hq, h⟩ := Option.map_eq_some_iff.1 h; simp only [R.val.injEq] at h; exact h.2.symm)
  | lookup z ok m k =>
    simp only [exec, x_lookup] at h
    (repeat' split at h) <;> first
      | (simp at h; done)
      | (simp only [Option.some.injEq, R.val.injEq] at h; exact h.2.symm)
  | lookup2 z ok m k =>
    simp only [exec, x_lookup2] at h
    (repeat' split at h) <;> first
      | (simp at h; done)
      | (simp only [Option.some.injEq, R.val.injEq] at h; exact h.2.symm)
  | call f xs => simp [exec, x_call] at h
  | _ => simp [cls, cls2] at hc
end Go.Rf

namespace Go.Rf
set_option linter.unusedVariables false
set_option linter.unusedSimpArgs false

/-- The environment once the operations of X are carried out. -/
structure Val (ps : List POp) (V : Nat → AV) (env0 : Env) (X : Nat → Prop) (env : Env) : Prop where
  len : env.length = env0.length
  set : ∀ (i : Nat) p d, ps[i]? = some p → X i → p.dst = some d → d < env0.length → env[d]? = some (V i)
  old : ∀ d, (∀ (i : Nat) p, ps[i]? = some p → X i → p.dst ≠ some d) → env[d]? = env0[d]?

section
variable {ps : List POp} {V : Nat → AV} {env0 : Env}

theorem Val.step (hdst : ∀ (i k : Nat) p q d, ps[i]? = some p → ps[k]? = some q → p.dst = some d → q.dst = some d → i = k) {X : Nat → Prop} {env : Env} (h : Val ps V env0 X env) {i : Nat} {p : POp} (hi : ps[i]? = some p) :
    Val ps V env0 (fun k => X k ∨ k = i) (putE env p.dst (V i)) := by
  have hlen : (putE env p.dst (V i)).length = env.length := by unfold putE; split <;> simp
  refine ⟨hlen.trans h.len, fun k q d hk hX hd hl => ?_, fun d hd => ?_⟩
  · rcases hX with hX | rfl
    · have h1 := h.set k q d hk hX hd hl
      cases hp : p.dst with
      | none => exact h1
      | some d' =>
        simp only [putE]
        by_cases he : d' = d
        · subst he
          have := hdst k i q p d' hk hi hd hp
          subst this
          rw [List.getElem?_set_self (by rw [h.len]; exact hl)]
        · rw [List.getElem?_set_ne he]; exact h1
    · rw [hi] at hk
      injection hk with hk; subst hk
      rw [hd]
      simp only [putE]
      rw [List.getElem?_set_self (by rw [h.len]; exact hl)]
  · have h1 := h.old d (fun k q hk hX => hd k q hk (.inl hX))
    cases hp : p.dst with
    | none => exact h1
    | some d' =>
      have hne : d' ≠ d := fun e => hd i p hi (.inr rfl) (by rw [hp, e])
      simp only [putE]
      rw [List.getElem?_set_ne hne]; exact h1

theorem Val.get (hdst : ∀ (i k : Nat) p q d, ps[i]? = some p → ps[k]? = some q → p.dst = some d → q.dst = some d → i = k) {X Y : Nat → Prop} {e e' : Env} (h : Val ps V env0 X e) (k : Val ps V env0 Y e') {t : Nat}
    (ht : ∀ (i : Nat) p, ps[i]? = some p → p.dst = some t → (X i ↔ Y i)) : e[t]? = e'[t]? := by
  rcases Nat.lt_or_ge t env0.length with hl | hl
  · by_cases hx : ∃ i p, ps[i]? = some p ∧ p.dst = some t ∧ X i
    · obtain ⟨i, p, h1, h2, h3⟩ := hx
      rw [h.set i p t h1 h3 h2 hl, k.set i p t h1 ((ht i p h1 h2).1 h3) h2 hl]
    · rw [h.old t (fun i p h1 h2 h3 => hx ⟨i, p, h1, h3, h2⟩), k.old t (fun i p h1 h2 h3 => hx ⟨i, p, h1, h3, (ht i p h1 h3).2 h2⟩)]
  · rw [List.getElem?_eq_none (by rw [h.len]; exact hl), List.getElem?_eq_none (by rw [k.len]; exact hl)]
end

/-- The binding edges. -/
def aft (o : Oper) : List Nat := (o.after.toList.filter fun e => Region.binds .any e).map (·.on)

/-- A run, index by index. -/
structure Trc (callee : Callee) (cx : Cx) (bb tb : Nat) (ps : List POp) (env : Env) (st : St) (envN : Env) (stN : St) (E : Nat → Env) (S : Nat → St) (V : Nat → AV) : Prop where
  e0 : E 0 = env
  s0 : S 0 = st
  en : E ps.length = envN
  sn : S ps.length = stN
  tr : ∀ (i : Nat), i ≤ ps.length → (traceOps callee cx bb tb ps env st)[i]? = some (E i, S i)
  step : ∀ (i : Nat) p, ps[i]? = some p → ((wanted (E i) p.guard = true ∧ stepOp callee cx bb tb (E i) (S i) p.pi = some (.ret (V i), S (i + 1))) ∨ (wanted (E i) p.guard = false ∧ V i = undefA ∧ S (i + 1) = S i)) ∧ E (i + 1) = putE (E i) p.dst (V i)

theorem runOps_trace {callee : Callee} {cx : Cx} {bb tb : Nat} : ∀ {ps : List POp} {env : Env} {st : St} {envN : Env} {stN : St}, runOps callee cx bb tb ps env st = some (.normal, envN, stN) →
    ∃ (E : Nat → Env) (S : Nat → St) (V : Nat → AV), Trc callee cx bb tb ps env st envN stN E S V
  | [], env, st, envN, stN, h => by
    simp only [runOps, Option.some.injEq, Prod.mk.injEq, true_and] at h
    obtain ⟨rfl, rfl⟩ := h
    exact ⟨fun _ => env, fun _ => st, fun _ => undefA, rfl, rfl, rfl, rfl, fun i hi => (by
      have : i = 0 := by simpa using hi
      rw [this]; rfl), fun i p h => by simp at h⟩
  | p :: ps, env, st, envN, stN, h => by
    have key : ∀ v st1, runOps callee cx bb tb ps (putE env p.dst v) st1 = some (.normal, envN, stN) →
        ((wanted env p.guard = true ∧ stepOp callee cx bb tb env st p.pi = some (.ret v, st1)) ∨ (wanted env p.guard = false ∧ v = undefA ∧ st1 = st)) → ∃ (E : Nat → Env) (S : Nat → St) (V : Nat → AV), Trc callee cx bb tb (p :: ps) env st envN stN E S V := fun v st1 hr hcase => by
      obtain ⟨E, S, V, h1, h2, h3, h4, h6, h5⟩ := runOps_trace hr
      refine ⟨fun i => match i with | 0 => env | i + 1 => E i, fun i => match i with | 0 => st | i + 1 => S i, fun i => match i with | 0 => v | i + 1 => V i, rfl, rfl, h3, h4, fun i hi => ?_, fun i q hi => ?_⟩
      · cases i with
        | zero => rfl
        | succ i =>
          have h7 := h6 i (by simpa using hi)
          rcases hcase with ⟨g1, g2⟩ | ⟨g1, g2, g3⟩
          · simp only [traceOps, g1, if_true, g2, List.getElem?_cons_succ]; exact h7
          · subst g2; subst g3
            simp only [traceOps, g1, Bool.false_eq_true, if_false, List.getElem?_cons_succ]; exact h7
      cases i with
      | zero =>
        simp only [List.getElem?_cons_zero, Option.some.injEq] at hi
        subst hi
        simp only [h1, h2]
        exact ⟨hcase, trivial⟩
      | succ i => exact h5 i q (by simpa using hi)
    simp only [runOps] at h
    split at h
    · rename_i hw
      split at h
      · rename_i v st1 hst
        exact key v st1 h (.inl ⟨hw, hst⟩)
      · simp at h
      · exact absurd h (by simp)
    · rename_i hw
      exact key undefA st h (.inr ⟨by simpa using hw, rfl, rfl⟩)

/-- Where a reading operation may come: between these cuts. -/
def rng (loud : Nat → Bool) (i : Nat) (p : POp) : Nat × Nat := if cls loud p.pi = 1 then p.re.getD (i, i) else (i, i)
def readsAll (p : POp) : List Nat := readsP p.pi ++ (match p.guard with | some (d, _) => [d] | none => [])

/-- What the check makes sure of. -/
structure DrawOk (P : Program) (loud : Nat → Bool) (rz : List (List AV)) (rt : List (Nat × Nat)) (ops : Array Oper) (ps : List POp) (cl : Nat → List Nat) : Prop where
  len : ps.length = ops.size
  op : ∀ (i : Nat) p o, ps[i]? = some p → ops[i]? = some o → p.dst = o.dst ∧ ckGuard ops p.guard o.guard = true ∧ ckOpr P rz rt p.pi o.op = true
  clo : ∀ (j : Nat) o i, ops[j]? = some o → i ∈ cl j → i ∈ aft o ∨ ∃ k, k ∈ aft o ∧ i ∈ cl k
  alt : ∀ (j : Nat) o i, ops[j]? = some o → i ∈ aft o → i < j
  dst : ∀ (i k : Nat) p q d, ps[i]? = some p → ps[k]? = some q → p.dst = some d → q.dst = some d → i = k
  read : ∀ (i k : Nat) p q t, ps[i]? = some p → ps[k]? = some q → t ∈ readsAll p → q.dst = some t → k ∈ cl i ∨ i ∈ cl k
  ord : ∀ (i k : Nat) p q, ps[i]? = some p → ps[k]? = some q → cls loud p.pi ≠ 0 → cls loud q.pi = 2 → k ≠ i → (k < (rng loud i p).1 → k ∈ cl i) ∧ ((rng loud i p).2 ≤ k → i ∈ cl k)
  apart : ∀ (i k : Nat) p q, ps[i]? = some p → ps[k]? = some q → i ≠ k → apart1 p q = true

def QuietOk (callee : Callee) (loud : Nat → Bool) : Prop := ∀ f args cx st o st', loud f = false → callee f args cx st = some (o, st') → st' = st

section
variable {P : Program} {callee : Callee} {loud : Nat → Bool} {cx : Cx} {bb tb : Nat} {rz : List (List AV)} {rt : List (Nat × Nat)} {ops : Array Oper} {ps : List POp} {cl : Nat → List Nat}

theorem cl_lt (hd : DrawOk P loud rz rt ops ps cl) : ∀ (j i : Nat), j < ops.size → i ∈ cl j → i < j := by
  intro j
  induction j using Nat.strongRecOn with
  | _ j ih =>
    intro i hj hi
    have ho : ops[j]? = some ops[j] := Array.getElem?_eq_getElem hj
    rcases hd.clo j _ i ho hi with h | ⟨k, h1, h2⟩
    · exact hd.alt j _ i ho h
    · have hk := hd.alt j _ k ho h1
      have := ih k hk i (by omega) h2
      omega

/-- Listed: closed under the edges. -/
def Closed (ops : Array Oper) (listed : Array Bool) : Prop := ∀ (j : Nat) o, ops[j]? = some o → listed.getD j false = true → ∀ i, i ∈ aft o → listed.getD i false = true

theorem closed_cl (hd : DrawOk P loud rz rt ops ps cl) {listed : Array Bool} (hc : Closed ops listed) : ∀ (j : Nat) o, ops[j]? = some o → (∀ i, i ∈ aft o → listed.getD i false = true) → ∀ i, i ∈ cl j → listed.getD i false = true := by
  intro j
  induction j using Nat.strongRecOn with
  | _ j ih =>
    intro o ho ha i hi
    rcases hd.clo j o i ho hi with h | ⟨k, h1, h2⟩
    · exact ha i h
    · have hk := hd.alt j o k ho h1
      have hjl := (Array.getElem?_eq_some_iff.1 ho).1
      have hko : ops[k]? = some ops[k] := Array.getElem?_eq_getElem (by omega)
      exact ih k hk _ hko (hc k _ hko (ha k h1)) i h2

/-- The state stays where nothing is written. -/
theorem same_between {S : Nat → St} {W : Nat → Prop} (hS : ∀ i, ¬ W i → S (i + 1) = S i) (a : Nat) : ∀ (n : Nat), (∀ k, a ≤ k → k < a + n → ¬ W k) → S (a + n) = S a
  | 0, _ => rfl
  | n + 1, h => by
    rw [← Nat.add_assoc, hS (a + n) (h _ (by omega) (by omega))]
    exact same_between hS a n (fun k h1 h2 => h k h1 (by omega))
theorem same_cut {S : Nat → St} {W : Nat → Prop} (hS : ∀ i, ¬ W i → S (i + 1) = S i) {a b : Nat} (h : ∀ k, (a ≤ k ∧ k < b) ∨ (b ≤ k ∧ k < a) → ¬ W k) : S a = S b := by
  rcases Nat.le_total a b with hab | hab
  · have := same_between hS a (b - a) (fun k h1 h2 => h k (.inl ⟨h1, by omega⟩))
    rw [show a + (b - a) = b by omega] at this
    exact this.symm
  · have := same_between hS b (a - b) (fun k h1 h2 => h k (.inr ⟨h1, by omega⟩))
    rwa [show b + (a - b) = a by omega] at this
end
end Go.Rf

namespace Go.Rf
set_option linter.unusedVariables false
set_option linter.unusedSimpArgs false

/-- How it stands along any order. -/
structure Inv (loud : Nat → Bool) (cx : Cx) (bb tb : Nat) (rz : List (List AV)) (rt : List (Nat × Nat)) (ops : Array Oper) (ps : List POp) (S : Nat → St) (V : Nat → AV) (env0 : Env) (g0 : Gh) (st0 : St) (w0 : World) (a0 : Act)
    (listed : Array Bool) (a : Act) (w : World) (m : Nat) (env : Env) (g : Gh) : Prop where
  sz : listed.size = ops.size
  closed : Closed ops listed
  val : Val ps V env0 (fun i => listed.getD i false = true) env
  mle : m ≤ ps.length
  cut : ∀ (i : Nat) p, ps[i]? = some p → cls loud p.pi = 2 → (i < m ↔ listed.getD i false = true)
  sr : SR g (S m) w
  er : ER g (Safe g (S m) w) w env a.tmps
  cxo : CxOk cx (S m)
  fresh : ∀ (i : Nat) p, ps[i]? = some p → listed.getD i false = false → Fresh1 bb tb rz rt g (S m) p
  defers : a.defers = a0.defers
  ext : Ext cx g0 st0 w0 g (S m) w
  inner : Inner bb tb g0 st0 g (S m)

def unl (n : Nat) (listed : Array Bool) : Nat := ((List.range n).filter fun j => !listed.getD j true).length

theorem getD_set {l : Array Bool} {i : Nat} (hi : i < l.size) (k : Nat) (d : Bool) : (l.setIfInBounds i true).getD k d = if k = i then true else l.getD k d := by
  simp only [Array.getD_eq_getD_getElem?, Array.getElem?_setIfInBounds]
  by_cases h : i = k
  · subst h; simp [hi]
  · rw [if_neg h, if_neg (fun e : k = i => h e.symm)]
theorem getD_tf {l : Array Bool} {i : Nat} (hi : i < l.size) : l.getD i true = l.getD i false := by
  simp [Array.getD_eq_getD_getElem?, hi]

theorem unl_set {n : Nat} {l : Array Bool} {i : Nat} (hi : i < l.size) (hn : i < n) (hu : l.getD i true = false) : unl n (l.setIfInBounds i true) < unl n l := by
  unfold unl
  have h1 : ((List.range n).filter fun j => !(l.setIfInBounds i true).getD j true) = ((List.range n).filter fun j => !l.getD j true).filter (fun j => j != i) := by
    rw [List.filter_filter]
    refine List.filter_congr fun j _ => ?_
    rw [getD_set hi]
    by_cases h : j = i <;> simp [h]
  rw [h1]
  refine List.length_filter_lt_length_iff_exists.2 ⟨i, ?_, by simp⟩
  rw [List.mem_filter]
  exact ⟨by simpa using hn, by rw [hu]; rfl⟩

section
variable {P : Program} {callee : Callee} {loud : Nat → Bool} {cx : Cx} {bb tb : Nat} {rz : List (List AV)} {rt : List (Nat × Nat)} {ops : Array Oper} {ps : List POp} {cl : Nat → List Nat}
  {E : Nat → Env} {S : Nat → St} {V : Nat → AV} {env0 envN : Env} {st0 stN : St} {g0 : Gh} {w0 : World} {a0 : Act}

theorem trc_val (hd : DrawOk P loud rz rt ops ps cl) (tr : Trc callee cx bb tb ps env0 st0 envN stN E S V) : ∀ (i : Nat), i ≤ ps.length → Val ps V env0 (fun k => k < i) (E i)
  | 0, _ => by rw [tr.e0]; exact ⟨rfl, fun i p d h hx => by omega, fun d h => rfl⟩
  | i + 1, hi => by
    have hp : ps[i]? = some ps[i] := List.getElem?_eq_getElem (by omega)
    rw [(tr.step i _ hp).2]
    have := (trc_val hd tr i (by omega)).step hd.dst hp
    refine ⟨this.len, fun k p d h1 h2 => this.set k p d h1 (by omega), fun d h => this.old d (fun k p h1 h2 => h k p h1 (by omega))⟩

theorem step_st (hq : QuietOk callee loud) {env : Env} {st st' : St} {pi : PI} {v : AV} (hc : cls loud pi ≠ 2) (h : stepOp callee cx bb tb env st pi = some (.ret v, st')) : st' = st := by
  unfold stepOp at h
  split at h
  · rename_i v' st1 hx
    simp only [Option.some.injEq, Prod.mk.injEq] at h
    obtain ⟨_, rfl⟩ := h
    rcases Nat.lt_or_ge (cls loud pi) 1 with h0 | h1
    · obtain ⟨u, e, _⟩ := exec_P (loud := loud) (by omega) hx
      simp only [R.val.injEq] at e; exact e.2
    · have : cls loud pi = 1 := by
        have : cls loud pi ≤ 2 := by cases pi <;> simp only [cls, cls2] <;> (try split) <;> omega
        omega
      exact exec_R this hx
  · rename_i f args hx
    cases pi with
    | call f' xs =>
      simp only [exec, x_call, Option.some.injEq, R.enter.injEq] at hx
      obtain ⟨rfl, _⟩ := hx
      simp only [cls, cls2] at hc
      have : loud f' = false := by
        cases hl : loud f' with
        | false => rfl
        | true => rw [hl] at hc; simp at hc
      exact hq _ _ _ _ _ _ this h
    | callv f' xs => simp [cls, cls2] at hc
    | panic x => simp [cls, cls2] at hc
    | _ => obtain ⟨_, _, e⟩ := exec_val rfl hx; cases e
  · simp at h
  · exact absurd h (by simp)

theorem trc_same (hq : QuietOk callee loud) (tr : Trc callee cx bb tb ps env0 st0 envN stN E S V) {i : Nat} {p : POp} (hp : ps[i]? = some p) (hc : cls loud p.pi ≠ 2) : S (i + 1) = S i := by
  rcases (tr.step i p hp).1 with ⟨_, h⟩ | ⟨_, _, h⟩
  · exact step_st hq hc h
  · exact h

theorem trc_cut (hq : QuietOk callee loud) (tr : Trc callee cx bb tb ps env0 st0 envN stN E S V) {a b : Nat} (ha : a ≤ ps.length) (hb : b ≤ ps.length) (h : ∀ (k : Nat) p, ps[k]? = some p → cls loud p.pi = 2 → ¬ ((a ≤ k ∧ k < b) ∨ (b ≤ k ∧ k < a))) : S a = S b := by
  refine same_cut (W := fun k => ∀ p, ps[k]? = some p → cls loud p.pi = 2) (fun i hi => ?_) (fun k hk hw => ?_)
  · have : ∃ p, ps[i]? = some p ∧ cls loud p.pi ≠ 2 := by
      refine Classical.byContradiction fun hn => hi fun p hp => Classical.byContradiction fun hc => hn ⟨p, hp, hc⟩
    obtain ⟨p, hp, hc⟩ := this
    exact trc_same hq tr hp hc
  · have hkl : k < ps.length := by rcases hk with hk | hk <;> omega
    have hp : ps[k]? = some ps[k] := List.getElem?_eq_getElem hkl
    exact h k _ hp (hw _ hp) hk

theorem any_wp (hcal : CalleeOk P callee) (hq : QuietOk callee loud) (hd : DrawOk P loud rz rt ops ps cl) (tr : Trc callee cx bb tb ps env0 st0 envN stN E S V) (htb : cx.t ≤ tb)
    (hrl : ∀ (i : Nat) p, ps[i]? = some p → (rng loud i p).1 ≤ (rng loud i p).2 ∧ (rng loud i p).2 ≤ ps.length)
    (hre : ∀ (i : Nat) p, ps[i]? = some p → cls loud p.pi = 1 → wanted (E i) p.guard = true → ∀ k, (rng loud i p).1 ≤ k → k ≤ (rng loud i p).2 → stepOp callee cx bb tb (E i) (S k) p.pi = some (.ret (V i), S k))
    {Q : Exit → Act → World → Prop} (hQ : ∀ a' w' g', SR g' stN w' → ER g' (Safe g' stN w') w' envN a'.tmps → a'.defers = a0.defers → Ext cx g0 st0 w0 g' stN w' → Inner bb tb g0 st0 g' stN → Q .normal a' w') :
    ∀ (fuel : Nat) (listed : Array Bool) (a : Act) (w : World) (m : Nat) (env : Env) (g : Gh), Inv loud cx bb tb rz rt ops ps S V env0 g0 st0 w0 a0 listed a w m env g → unl ops.size listed ≤ fuel → wpAny P .any ops Q fuel listed a w := by
  have done : ∀ (listed : Array Bool) (a : Act) (w : World) (m : Nat) (env : Env) (g : Gh), Inv loud cx bb tb rz rt ops ps S V env0 g0 st0 w0 a0 listed a w m env g → (∀ j, j < ops.size → listed.getD j false = true) → Q .normal a w := by
    intro listed a w m env g I hall
    have hn := hd.len
    have hm : S m = stN := by
      rw [← tr.sn]
      refine trc_cut hq tr I.mle (Nat.le_refl _) (fun k p hp hc hk => ?_)
      have hkl := (List.getElem?_eq_some_iff.1 hp).1
      have := (I.cut k p hp hc).2 (hall k (by omega))
      omega
    have henv : env = envN := by
      rw [← tr.en]
      refine List.ext_getElem? fun t => I.val.get hd.dst (trc_val hd tr _ (Nat.le_refl _)) (fun i p hp _ => ?_)
      have hkl := (List.getElem?_eq_some_iff.1 hp).1
      exact ⟨fun _ => hkl, fun _ => hall i (by omega)⟩
    have h1 := I.sr; have h2 := I.er; have h3 := I.ext; have h4 := I.inner
    rw [hm] at h1 h2 h3 h4
    rw [henv] at h2
    exact hQ a w g h1 h2 I.defers h3 h4
  have fin : ∀ (listed : Array Bool) (a : Act) (w : World) (m : Nat) (env : Env) (g : Gh), Inv loud cx bb tb rz rt ops ps S V env0 g0 st0 w0 a0 listed a w m env g → Region.ready .any ops listed = [] → Q .normal a w := by
    intro listed a w m env g I hr
    refine done listed a w m env g I fun j => ?_
    induction j using Nat.strongRecOn with
    | _ j ih =>
      intro hj
      have ho : ops[j]? = some ops[j] := Array.getElem?_eq_getElem hj
      cases hl : listed.getD j false with
      | true => rfl
      | false =>
        have : j ∈ Region.ready .any ops listed := by
          unfold Region.ready
          rw [List.mem_filter]
          refine ⟨by simpa using hj, ?_⟩
          rw [getD_tf (by rw [I.sz]; exact hj), hl, ho]
          simp only [Bool.not_false, Bool.true_and, Option.map_some, Option.getD_some]
          rw [← Array.all_toList, List.all_eq_true]
          intro e he
          cases hb : Region.binds .any e with
          | false => rfl
          | true =>
            have hmem : e.on ∈ aft ops[j] := by
              unfold aft
              exact List.mem_map.2 ⟨e, List.mem_filter.2 ⟨he, hb⟩, rfl⟩
            have hlt := hd.alt j _ _ ho hmem
            rw [ih e.on hlt (by omega)]; simp
        rw [hr] at this
        exact absurd this (by simp)
  intro fuel
  induction fuel with
  | zero =>
    intro listed a w m env g I hf
    have hnil : ∀ j, j < ops.size → listed.getD j false = true := by
      intro j hj
      cases hl : listed.getD j false with
      | true => rfl
      | false =>
        have : j ∈ (List.range ops.size).filter fun j => !listed.getD j true := by
          rw [List.mem_filter]
          exact ⟨by simpa using hj, by rw [getD_tf (by rw [I.sz]; exact hj), hl]; rfl⟩
        have := List.length_pos_of_mem this
        unfold unl at hf
        omega
    refine ⟨?_, done listed a w m env g I hnil⟩
    unfold Region.ready
    rw [List.filter_eq_nil_iff]
    intro j hj
    simp only [List.mem_range] at hj
    rw [getD_tf (by rw [I.sz]; exact hj), hnil j hj]
    simp
  | succ fuel ih =>
    intro listed a w m env g I hf
    refine ⟨fin listed a w m env g I, fun i hi => ?_⟩
    unfold Region.ready at hi
    rw [List.mem_filter] at hi
    obtain ⟨hi1, hi2⟩ := hi
    have hin : i < ops.size := by simpa using hi1
    have hisz : i < listed.size := by rw [I.sz]; exact hin
    have ho : ops[i]? = some ops[i] := Array.getElem?_eq_getElem hin
    have hip : i < ps.length := by rw [hd.len]; exact hin
    have hp : ps[i]? = some ps[i] := List.getElem?_eq_getElem hip
    generalize ops[i] = o at ho
    generalize ps[i] = p at hp
    rw [ho] at hi2
    simp only [Option.map_some, Option.getD_some, Bool.and_eq_true, Bool.not_eq_true'] at hi2
    obtain ⟨hu, hafter⟩ := hi2
    have hu' : listed.getD i false = false := by rw [← getD_tf hisz]; exact hu
    have haft : ∀ k, k ∈ aft o → listed.getD k false = true := by
      intro k hk
      obtain ⟨e, he, rfl⟩ := List.mem_map.1 hk
      obtain ⟨he1, he2⟩ := List.mem_filter.1 he
      rw [← Array.all_toList, List.all_eq_true] at hafter
      have := hafter e he1
      rw [he2] at this
      simpa using this
    have hcl := closed_cl hd I.closed i o ho haft
    obtain ⟨hdst, hg, hck⟩ := hd.op i p o hp ho
    have notin : ∀ (k : Nat), k < ops.size → i ∈ cl k → listed.getD k false = false := by
      intro k hk hik
      cases hl : listed.getD k false with
      | false => rfl
      | true =>
        have hko : ops[k]? = some ops[k] := Array.getElem?_eq_getElem hk
        have := closed_cl hd I.closed k _ hko (I.closed k _ hko hl) i hik
        rw [hu'] at this; exact absurd this (by simp)
    have hagree : Agree (readsAll p) env (E i) := by
      intro t ht
      rw [List.getD_eq_getElem?_getD, List.getD_eq_getElem?_getD]
      congr 1
      refine I.val.get hd.dst (trc_val hd tr i (by omega)) (fun k q hq hqd => ?_)
      have hkl := (List.getElem?_eq_some_iff.1 hq).1
      rcases hd.read i k p q t hp hq ht hqd with h | h
      · exact ⟨fun _ => cl_lt hd i k hin h, fun _ => hcl k h⟩
      · have h1 := notin k (by rw [← hd.len]; exact hkl) h
        have h2 := cl_lt hd k i (by rw [← hd.len]; exact hkl) h
        exact ⟨fun hx => by rw [h1] at hx; exact absurd hx (by simp), fun hx => by omega⟩
    have hwant : wanted env p.guard = wanted (E i) p.guard := by
      cases hgd : p.guard with
      | none => rfl
      | some q =>
        obtain ⟨d, b⟩ := q
        have := hagree d (by unfold readsAll; rw [hgd]; simp)
        simp only [wanted, this]
    have hstep := tr.step i p hp
    -- the cut behind it
    have hcut2 : cls loud p.pi = 2 → S m = S i := fun hc => trc_cut hq tr I.mle (by omega) (fun k q hqk hck2 hk => by
      have hkl := (List.getElem?_eq_some_iff.1 hqk).1
      by_cases hki : k = i
      · subst hki
        have h1 := I.cut k q hqk hck2
        rw [hu'] at h1
        have : ¬ k < m := fun hx => by have := h1.1 hx; exact absurd this (by simp)
        omega
      · obtain ⟨o1, o2⟩ := hd.ord i k p q hp hqk (by rw [hc]; simp) hck2 hki
        have hr : rng loud i p = (i, i) := by unfold rng; rw [if_neg (by rw [hc]; simp)]
        rw [hr] at o1 o2
        simp only at o1 o2
        rcases hk with ⟨k1, k2⟩ | ⟨k1, k2⟩
        · have := (I.cut k q hqk hck2).2 (hcl k (o1 k2)); omega
        · have h1 := (I.cut k q hqk hck2).1 k2
          rw [notin k (by rw [← hd.len]; exact hkl) (o2 k1)] at h1
          exact absurd h1 (by simp))
    have next : ∀ (m' : Nat) (a' : Act) (w' : World) (g' : Gh), ((cls loud p.pi ≠ 2 ∧ m' = m) ∨ (cls loud p.pi = 2 ∧ m' = i + 1)) → SR g' (S m') w' → ER g' (Safe g' (S m') w') w' (putE env p.dst (V i)) a'.tmps → CxOk cx (S m') →
        (∀ (k : Nat) q, ps[k]? = some q → k ≠ i → listed.getD k false = false → Fresh1 bb tb rz rt g' (S m') q) → a'.defers = a0.defers → Ext cx g0 st0 w0 g' (S m') w' → Inner bb tb g0 st0 g' (S m') →
        wpAny P .any ops Q fuel (listed.setIfInBounds i true) a' w' := by
      intro m' a' w' g' hm' k1 k2 k3 k4 k5 k6 k7
      refine ih _ a' w' m' (putE env p.dst (V i)) g' ⟨by simpa using I.sz, fun j oj hoj hlj k hk => ?_, ?_, ?_, fun k q hqk hck2 => ?_, k1, k2, k3, fun k q hqk hlk => ?_, k5, k6, k7⟩ ?_
      · rw [getD_set hisz] at hlj ⊢
        by_cases hki : k = i
        · rw [if_pos hki]
        · rw [if_neg hki]
          by_cases hji : j = i
          · subst hji
            rw [ho] at hoj
            injection hoj with hoj; subst hoj
            exact haft k hk
          · rw [if_neg hji] at hlj
            exact I.closed j oj hoj hlj k hk
      · have h1 := I.val.step hd.dst hp
        refine ⟨h1.len, fun k q d hqk hX => h1.set k q d hqk ?_, fun d hdd => h1.old d (fun k q hqk hX => hdd k q hqk ?_)⟩
        · rw [getD_set hisz] at hX
          by_cases hki : k = i
          · exact .inr hki
          · rw [if_neg hki] at hX; exact .inl hX
        · show (listed.setIfInBounds i true).getD k false = true
          rw [getD_set hisz]
          rcases hX with hX | hX
          · by_cases hki : k = i
            · rw [if_pos hki]
            · rw [if_neg hki]; exact hX
          · rw [if_pos hX]
      · rcases hm' with ⟨_, rfl⟩ | ⟨_, rfl⟩
        · exact I.mle
        · omega
      · have hkl := (List.getElem?_eq_some_iff.1 hqk).1
        rw [getD_set hisz]
        rcases hm' with ⟨hc, rfl⟩ | ⟨hc, rfl⟩
        · have hki : k ≠ i := by
            rintro rfl
            rw [hp] at hqk; injection hqk with hqk; subst hqk; exact hc hck2
          rw [if_neg hki]; exact I.cut k q hqk hck2
        · by_cases hki : k = i
          · subst hki; simp
          · rw [if_neg hki]
            obtain ⟨o1, o2⟩ := hd.ord i k p q hp hqk (by rw [hc]; simp) hck2 hki
            have hr : rng loud i p = (i, i) := by unfold rng; rw [if_neg (by rw [hc]; simp)]
            rw [hr] at o1 o2
            simp only at o1 o2
            refine ⟨fun h => hcl k (o1 (by omega)), fun h => ?_⟩
            refine Classical.byContradiction fun hn => ?_
            rw [notin k (by rw [← hd.len]; exact hkl) (o2 (by omega))] at h
            exact absurd h (by simp)
      · rw [getD_set hisz] at hlk
        by_cases hki : k = i
        · rw [if_pos hki] at hlk; exact absurd hlk (by simp)
        · rw [if_neg hki] at hlk
          exact k4 k q hqk hki hlk
      · have := unl_set (n := ops.size) hisz hin hu
        omega
    have hfp := I.fresh i p hp hu'
    have hw := wanted_eq I.er hg
    unfold wpOp
    rw [ho]
    simp only []
    split
    · rename_i hwt
      rw [hw, hwant] at hwt
      refine .inl ?_
      have hst : ∃ m', ((cls loud p.pi ≠ 2 ∧ m' = m) ∨ (cls loud p.pi = 2 ∧ m' = i + 1)) ∧ stepOp callee cx bb tb env (S m) p.pi = some (.ret (V i), S m') := by
        have hst0 : stepOp callee cx bb tb (E i) (S i) p.pi = some (.ret (V i), S (i + 1)) := by
          rcases hstep.1 with ⟨_, h⟩ | ⟨h, _⟩
          · exact h
          · rw [hwt] at h; exact absurd h (by simp)
        rw [stepOp_congr (fun t ht => hagree t (List.mem_append_left _ ht))]
        by_cases hc2 : cls loud p.pi = 2
        · exact ⟨i + 1, .inr ⟨hc2, rfl⟩, by rw [hcut2 hc2]; exact hst0⟩
        · refine ⟨m, .inl ⟨hc2, rfl⟩, ?_⟩
          by_cases hc1 : cls loud p.pi = 1
          · obtain ⟨r1, r2⟩ := hrl i p hp
            have hword : ∀ (k : Nat) q, ps[k]? = some q → cls loud q.pi = 2 → ((k < (rng loud i p).1 → k ∈ cl i) ∧ ((rng loud i p).2 ≤ k → i ∈ cl k)) := fun k q hqk hqc => hd.ord i k p q hp hqk (by rw [hc1]; simp) hqc (by
              rintro rfl
              rw [hp] at hqk; injection hqk with hqk; subst hqk; exact hc2 hqc)
            have : ∃ k0, (rng loud i p).1 ≤ k0 ∧ k0 ≤ (rng loud i p).2 ∧ S m = S k0 := by
              rcases Nat.lt_or_ge m (rng loud i p).1 with h1 | h1
              · refine ⟨_, Nat.le_refl _, r1, trc_cut hq tr I.mle (by omega) (fun k q hqk hqc hk => ?_)⟩
                have hkl := (List.getElem?_eq_some_iff.1 hqk).1
                have hklo : k < (rng loud i p).1 := by omega
                have := (I.cut k q hqk hqc).2 (hcl k ((hword k q hqk hqc).1 hklo))
                omega
              · rcases Nat.lt_or_ge (rng loud i p).2 m with h2 | h2
                · refine ⟨_, r1, Nat.le_refl _, trc_cut hq tr I.mle r2 (fun k q hqk hqc hk => ?_)⟩
                  have hkl := (List.getElem?_eq_some_iff.1 hqk).1
                  have hkhi : (rng loud i p).2 ≤ k ∧ k < m := by omega
                  have h3 := (I.cut k q hqk hqc).1 hkhi.2
                  rw [notin k (by rw [← hd.len]; exact hkl) ((hword k q hqk hqc).2 hkhi.1)] at h3
                  exact absurd h3 (by simp)
                · exact ⟨m, h1, h2, rfl⟩
            obtain ⟨k0, q1, q2, q3⟩ := this
            rw [q3]
            exact hre i p hp hc1 hwt k0 q1 q2
          · have hc0 : cls loud p.pi = 0 := by
              have : cls loud p.pi ≤ 2 := by generalize p.pi = pi; cases pi <;> simp only [cls, cls2] <;> (try split) <;> omega
              omega
            unfold stepOp at hst0 ⊢
            split at hst0
            · rename_i v1 st1 hx
              obtain ⟨u, e, hall⟩ := exec_P hc0 hx
              simp only [R.val.injEq] at e
              obtain ⟨rfl, rfl⟩ := e
              simp only [Option.some.injEq, Prod.mk.injEq, Out.ret.injEq] at hst0
              rw [hall (S m)]
              simp only [Option.some.injEq, Prod.mk.injEq, Out.ret.injEq, and_true]
              exact hst0.1
            · rename_i f args hx
              obtain ⟨u, e, _⟩ := exec_P hc0 hx
              cases e
            · rename_i u hx
              obtain ⟨u, e, _⟩ := exec_P hc0 hx
              cases e
            · exact absurd hst0 (by simp)
      obtain ⟨m', hm', hst1⟩ := hst
      refine op_wp hcal I.sr I.er I.cxo hck (fun j hj => (hfp.b j hj).1) (fun j hj => (hfp.t j hj).1) htb (fun j z hj hk => by
        have := (hfp.b _ hk).2; rw [this, Nat.add_sub_cancel_left]; exact hj) (fun j z hj hk => by
        have := (hfp.t _ hk).2; rw [this, Nat.add_sub_cancel_left]; exact hj) hst1 (fun v u g' w' e hv hs' hext hr => ?_) (fun d u g' w' e => by cases e)
      injection e with e; subst e
      exact next m' _ w' g' hm' hs' (by rw [hdst]; exact (I.er.keep hext.keeps).put o.dst hv) (I.cxo.ext hext) (fun k q hqk hki hlk => (I.fresh k q hqk hlk).keep (hd.apart i k p q hp hqk (fun e => hki e.symm)) hr) ((put_defers ..).trans I.defers) (I.ext.trans hext) (I.inner.trans hr.inner)
    · rename_i hwt
      rw [hw, hwant] at hwt
      have hskip : V i = undefA ∧ S (i + 1) = S i := by
        rcases hstep.1 with ⟨h, _⟩ | ⟨_, h1, h2⟩
        · exact absurd h hwt
        · exact ⟨h1, h2⟩
      have hmm : ∃ m', ((cls loud p.pi ≠ 2 ∧ m' = m) ∨ (cls loud p.pi = 2 ∧ m' = i + 1)) ∧ S m' = S m := by
        by_cases hc2 : cls loud p.pi = 2
        · exact ⟨i + 1, .inr ⟨hc2, rfl⟩, by rw [hskip.2, hcut2 hc2]⟩
        · exact ⟨m, .inl ⟨hc2, rfl⟩, rfl⟩
      obtain ⟨m', hm', hS⟩ := hmm
      refine next m' _ w g hm' (by rw [hS]; exact I.sr) (by rw [hS, hskip.1, hdst]; exact I.er.put o.dst VR.undef) (by rw [hS]; exact I.cxo) (fun k q hqk hki hlk => by rw [hS]; exact I.fresh k q hqk hlk) ((put_defers ..).trans I.defers) (by rw [hS]; exact I.ext) (by rw [hS]; exact I.inner)
end
end Go.Rf

namespace Go.Rf
set_option linter.unusedVariables false
set_option linter.unusedSimpArgs false

mutual
theorem D.same_ok : ∀ (x y : D), D.same x y = true → x = y
  | .int k n, y, h => by
    cases y with
    | int k' n' => simp only [D.same, Bool.and_eq_true, decide_eq_true_eq] at h; rw [h.1, h.2]
    | _ => simp [D.same] at h
  | .bool a, y, h => by
    cases y with
    | bool b => simp only [D.same, beq_iff_eq] at h; rw [h]
    | _ => simp [D.same] at h
  | .str a, y, h => by
    cases y with
    | str b => simp only [D.same] at h; rw [beqN_iff.1 h]
    | _ => simp [D.same] at h
  | .sl r, y, h => by
    cases y with
    | sl r' => simp only [D.same] at h; rw [sameLL_ok r r' h]
    | _ => simp [D.same] at h
  | .agg c, y, h => by
    cases y with
    | agg c' => simp only [D.same] at h; rw [sameL_ok c c' h]
    | _ => simp [D.same] at h
  | .iface t x, y, h => by
    cases y with
    | iface t' x' => simp only [D.same, Bool.and_eq_true] at h; rw [Nat.eq_of_beq_eq_true h.1, D.same_ok x x' h.2]
    | _ => simp [D.same] at h
  | .nilI, y, h => by cases y <;> first | rfl | simp [D.same] at h
  | .nilP, y, h => by cases y <;> first | rfl | simp [D.same] at h
  | .nilM, y, h => by cases y <;> first | rfl | simp [D.same] at h
  | .nilF, y, h => by cases y <;> first | rfl | simp [D.same] at h
theorem sameL_ok : ∀ (x y : List D), sameL x y = true → x = y
  | [], y, h => by cases y <;> first | rfl | simp [sameL] at h
  | a :: x, y, h => by
    cases y with
    | nil => simp [sameL] at h
    | cons b y => simp only [sameL, Bool.and_eq_true] at h; rw [D.same_ok a b h.1, sameL_ok x y h.2]
theorem sameLL_ok : ∀ (x y : List (List D)), sameLL x y = true → x = y
  | [], y, h => by cases y <;> first | rfl | simp [sameLL] at h
  | a :: x, y, h => by
    cases y with
    | nil => simp [sameLL] at h
    | cons b y => simp only [sameLL, Bool.and_eq_true] at h; rw [sameL_ok a b h.1, sameLL_ok x y h.2]
end
theorem AV.same1_ok {x y : AV} (h : x.same1 y = true) : x = y := by
  unfold AV.same1 at h
  split at h
  · rw [D.same_ok _ _ h]
  · simp only [Bool.and_eq_true] at h; rw [Nat.eq_of_beq_eq_true h.1, sameLL_ok _ _ h.2]
  · rfl
  · simp only [Bool.and_eq_true] at h; rw [Nat.eq_of_beq_eq_true h.1, Nat.eq_of_beq_eq_true h.2]
  · rw [sameL_ok _ _ h]
  · rw [Nat.eq_of_beq_eq_true h]
  · exact absurd h (by simp)
theorem same1L_ok : ∀ {x y : List AV}, same1L x y = true → x = y
  | [], [], _ => rfl
  | [], _ :: _, h => by simp [same1L] at h
  | _ :: _, [], h => by simp [same1L] at h
  | a :: x, b :: y, h => by simp only [same1L, Bool.and_eq_true] at h; rw [AV.same1_ok h.1, same1L_ok h.2]
theorem AV.same_ok {x y : AV} (h : x.same y = true) : x = y := by
  unfold AV.same at h
  split at h
  · rw [same1L_ok h]
  · exact AV.same1_ok h

/-- All that lies ahead of an operation. -/
def clList (ops : List Oper) : List (List Nat) := ops.foldl (fun acc o => acc ++ [((aft o).flatMap fun i => i :: acc.getD i []).eraseDups]) []

def has (l : List Nat) (i : Nat) : Bool := l.any (Nat.beq i)
theorem has_ok {l : List Nat} {i : Nat} : has l i = true ↔ i ∈ l := by
  unfold has
  rw [List.any_eq_true]
  exact ⟨fun ⟨x, h1, h2⟩ => by rw [Nat.eq_of_beq_eq_true h2]; exact h1, fun h => ⟨i, h, by simp⟩⟩

def pairOk (loud : Nat → Bool) (cls2 : List (List Nat)) (i k : Nat) (p q : POp) : Bool :=
  Nat.beq i k || (
    apart1 p q &&
    (match p.dst, q.dst with | some d, some d' => !Nat.beq d d' | _, _ => true) &&
    (match q.dst with | some t => !has (readsAll p) t || has (cls2.getD i []) k || has (cls2.getD k []) i | none => true) &&
    (Nat.beq (cls loud p.pi) 0 || !Nat.beq (cls loud q.pi) 2 || ((Nat.ble (rng loud i p).1 k || has (cls2.getD i []) k) && (Nat.blt k (rng loud i p).2 || has (cls2.getD k []) i))))
def selfOk (loud : Nat → Bool) (n i : Nat) (p : POp) : Bool :=
  (match p.dst with | some t => !has (readsAll p) t | none => true) && Nat.ble (rng loud i p).1 (rng loud i p).2 && Nat.ble (rng loud i p).2 n
def opsClOk (cls2 : List (List Nat)) (j : Nat) (o : Oper) : Bool :=
  (aft o).all (fun i => Nat.blt i j) && (cls2.getD j []).all fun i => has (aft o) i || (aft o).any fun k => has (cls2.getD k []) i

def ckDraw (P : Program) (loud : Nat → Bool) (rz : List (List AV)) (rt : List (Nat × Nat)) (ops : Array Oper) (ps : List POp) : Bool :=
  let c := clList ops.toList
  ckOps P rz rt ops ps ops.toList &&
  (ops.toList.zipIdx.all fun (o, j) => opsClOk c j o) &&
  (ps.zipIdx.all fun (p, i) => selfOk loud ps.length i p && ps.zipIdx.all fun (q, k) => pairOk loud c i k p q)

theorem ckOps_ok {P : Program} {rz : List (List AV)} {rt : List (Nat × Nat)} {all : Array Oper} : ∀ {ps : List POp} {os : List Oper}, ckOps P rz rt all ps os = true → ps.length = os.length ∧ ∀ (i : Nat) p o, ps[i]? = some p → os[i]? = some o → p.dst = o.dst ∧ ckGuard all p.guard o.guard = true ∧ ckOpr P rz rt p.pi o.op = true
  | [], [], _ => ⟨rfl, fun i p o h => by simp at h⟩
  | [], _ :: _, h => by simp [ckOps] at h
  | _ :: _, [], h => by simp [ckOps] at h
  | p :: ps, o :: os, h => by
    simp only [ckOps, Bool.and_eq_true, beq_iff_eq] at h
    obtain ⟨⟨⟨h1, h2⟩, h3⟩, h4⟩ := h
    obtain ⟨k1, k2⟩ := ckOps_ok h4
    refine ⟨by simp [k1], fun i p' o' hp ho => ?_⟩
    cases i with
    | zero => simp at hp ho; subst hp; subst ho; exact ⟨h1, h2, h3⟩
    | succ i => exact k2 i p' o' (by simpa using hp) (by simpa using ho)

theorem all_zipIdx {α : Type} {l : List α} {f : α × Nat → Bool} (h : l.zipIdx.all f = true) {i : Nat} {x : α} (hi : l[i]? = some x) : f (x, i) = true := by
  rw [List.all_eq_true] at h
  refine h (x, i) ?_
  refine List.mem_of_getElem? (i := i) ?_
  rw [List.getElem?_zipIdx, hi]
  simp

section
variable {P : Program} {callee : Callee} {loud : Nat → Bool} {cx : Cx} {rz : List (List AV)} {rt : List (Nat × Nat)} {ops : Array Oper} {ps : List POp}

theorem ckDraw_ok (h : ckDraw P loud rz rt ops ps = true) : DrawOk P loud rz rt ops ps (fun i => (clList ops.toList).getD i []) ∧ ∀ (i : Nat) p, ps[i]? = some p → (rng loud i p).1 ≤ (rng loud i p).2 ∧ (rng loud i p).2 ≤ ps.length := by
  unfold ckDraw at h
  simp only [Bool.and_eq_true] at h
  obtain ⟨⟨h1, h2⟩, h3⟩ := h
  obtain ⟨k1, k2⟩ := ckOps_ok h1
  have hself : ∀ (i : Nat) p, ps[i]? = some p → selfOk loud ps.length i p = true := fun i p hp => by
    have := all_zipIdx h3 hp
    simp only [Bool.and_eq_true] at this
    exact this.1
  have hpair : ∀ (i k : Nat) p q, ps[i]? = some p → ps[k]? = some q → i ≠ k → pairOk loud (clList ops.toList) i k p q = true := fun i k p q hp hq _ => by
    have := all_zipIdx h3 hp
    simp only [Bool.and_eq_true] at this
    exact all_zipIdx this.2 hq
  have hpair2 : ∀ (i k : Nat) p q, ps[i]? = some p → ps[k]? = some q → i ≠ k → apart1 p q = true ∧ (match p.dst, q.dst with | some d, some d' => !Nat.beq d d' | _, _ => true) = true ∧
      (match q.dst with | some t => !has (readsAll p) t || has ((clList ops.toList).getD i []) k || has ((clList ops.toList).getD k []) i | none => true) = true ∧
      (Nat.beq (cls loud p.pi) 0 || !Nat.beq (cls loud q.pi) 2 || ((Nat.ble (rng loud i p).1 k || has ((clList ops.toList).getD i []) k) && (Nat.blt k (rng loud i p).2 || has ((clList ops.toList).getD k []) i))) = true := fun i k p q hp hq hne => by
    have := hpair i k p q hp hq hne
    unfold pairOk at this
    have hb : Nat.beq i k = false := by
      cases hx : Nat.beq i k with
      | false => rfl
      | true => exact absurd (Nat.eq_of_beq_eq_true hx) hne
    rw [hb] at this
    simp only [Bool.false_or, Bool.and_eq_true] at this
    exact ⟨this.1.1.1, this.1.1.2, this.1.2, by simpa using this.2⟩
  have hops : ∀ (j : Nat) o, ops[j]? = some o → opsClOk (clList ops.toList) j o = true := fun j o ho => all_zipIdx h2 (by simpa using ho)
  refine ⟨⟨by simpa using k1, fun i p o hp ho => k2 i p o hp (by simpa using ho), fun j o i ho hi => ?_, fun j o i ho hi => ?_, fun i k p q d hp hq hpd hqd => ?_, fun i k p q t hp hq ht hqd => ?_, fun i k p q hp hq hc1 hc2 hne => ?_, fun i k p q hp hq hne => (hpair2 i k p q hp hq hne).1⟩, fun i p hp => ?_⟩
  · have := hops j o ho
    unfold opsClOk at this
    simp only [Bool.and_eq_true, List.all_eq_true, Bool.or_eq_true, List.any_eq_true] at this
    rcases this.2 i hi with h | ⟨k, h4, h5⟩
    · exact .inl (has_ok.1 h)
    · exact .inr ⟨k, h4, has_ok.1 h5⟩
  · have := hops j o ho
    unfold opsClOk at this
    simp only [Bool.and_eq_true, List.all_eq_true, Nat.blt_eq] at this
    exact this.1 i hi
  · refine Classical.byContradiction fun hne => ?_
    have := (hpair2 i k p q hp hq hne).2.1
    rw [hpd, hqd] at this
    simp at this
  · by_cases hne : i = k
    · subst hne
      rw [hp] at hq; injection hq with hq; subst hq
      have := hself i p hp
      unfold selfOk at this
      rw [hqd] at this
      simp only [Bool.and_eq_true, Bool.not_eq_true'] at this
      rw [has_ok.2 ht] at this
      simp at this
    · have := (hpair2 i k p q hp hq hne).2.2.1
      rw [hqd] at this
      simp only [Bool.or_eq_true, Bool.not_eq_true', has_ok.2 ht] at this
      rcases this with (h | h) | h
      · exact absurd h (by simp)
      · exact .inl (has_ok.1 h)
      · exact .inr (has_ok.1 h)
  · have := (hpair2 i k p q hp hq (fun e => hne e.symm)).2.2.2
    have e1 : Nat.beq (cls loud p.pi) 0 = false := by
      cases hx : Nat.beq (cls loud p.pi) 0 with
      | false => rfl
      | true => exact absurd (Nat.eq_of_beq_eq_true hx) hc1
    have e2 : Nat.beq (cls loud q.pi) 2 = true := by rw [hc2]; rfl
    rw [e1, e2] at this
    simp only [Bool.not_true, Bool.false_or, Bool.and_eq_true, Bool.or_eq_true, Nat.ble_eq, Nat.blt_eq] at this
    refine ⟨fun hk => ?_, fun hk => ?_⟩
    · rcases this.1 with h | h
      · omega
      · exact has_ok.1 h
    · rcases this.2 with h | h
      · omega
      · exact has_ok.1 h
  · have := hself i p hp
    unfold selfOk at this
    simp only [Bool.and_eq_true, Nat.ble_eq] at this
    exact ⟨this.1.2, this.2⟩

theorem recheck_ok {bb tb : Nat} {tr : List (Env × St)} : ∀ {ps : List POp} (s : Nat), recheck cx bb tb tr ps s = true → ∀ (i : Nat) p lo hi, ps[i]? = some p → p.re = some (lo, hi) → ∃ e st, tr[s + i]? = some (e, st) ∧ (wanted e p.guard = true → ∀ k, lo ≤ k → k ≤ hi → ∃ e' st', tr[k]? = some (e', st') ∧ sameAt cx bb tb p.pi e st st' = true)
  | [], s, h, i, p, lo, hi, hp, hr => by simp at hp
  | q :: ps, s, h, i, p, lo, hi, hp, hr => by
    simp only [recheck, Bool.and_eq_true] at h
    cases i with
    | zero =>
      simp only [List.getElem?_cons_zero, Option.some.injEq] at hp
      subst hp
      have h1 := h.1
      rw [hr] at h1
      simp only at h1
      split at h1
      · rename_i e st he
        refine ⟨e, st, he, fun hw k hk1 hk2 => ?_⟩
        rw [hw] at h1
        simp only [Bool.not_true, Bool.false_or, List.all_eq_true] at h1
        have := h1 k (by rw [List.mem_range'_1]; omega)
        split at this
        · rename_i e' st' he'
          exact ⟨e', st', he', this⟩
        · exact absurd this (by simp)
      · exact absurd h1 (by simp)
    | succ i =>
      have := recheck_ok (s + 1) h.2 i p lo hi (by simpa using hp) hr
      rwa [show s + 1 + i = s + (i + 1) by omega] at this

/-- A drawn region. -/
theorem draw_wp (hcal : CalleeOk P callee) (hq : QuietOk callee loud) (hm : P.follows .mixedOrders = true) (hck : ckDraw P loud rz rt ops ps = true) {bb tb : Nat} (htb : cx.t ≤ tb) {id : Nat} {env envN : Env} {st stN : St} {ex : Ex} {g : Gh} {w : World} {a : Act}
    (hs : SR g st w) (he : ER g (Safe g st w) w env a.tmps) (hcx : CxOk cx st) (hf : ∀ p, p ∈ ps → Fresh1 bb tb rz rt g st p)
    (h : runDraw callee cx bb tb ps env st = some (ex, envN, stN)) {Q : Exit → Act → World → Prop}
    (hQ : ∀ e a' w' g', ExR g' stN w' ex e → SR g' stN w' → ER g' (Safe g' stN w') w' envN a'.tmps → a'.defers = a.defers → Ext cx g st w g' stN w' → Inner bb tb g st g' stN → Q e a' w') :
    (Code.region id ops true).wp P Q a w := by
  obtain ⟨hd, hrl⟩ := ckDraw_ok hck
  unfold runDraw at h
  split at h
  · rename_i env1 st1 hrun
    split at h
    · rename_i hrc
      simp only [Option.some.injEq, Prod.mk.injEq] at h
      obtain ⟨rfl, rfl, rfl⟩ := h
      obtain ⟨E, S, V, tr⟩ := runOps_trace hrun
      refine wp_region_any hm ?_
      have hsame : Same g st w g st { w with drawn := w.drawn + 1 } := Same.drew
      have hext := hsame.ext (cx := cx) hs (fun _ _ => rfl) (fun _ _ => rfl) (fun _ _ => rfl) (Nat.le_refl _) (Nat.le_refl _) (Nat.le_refl _)
      refine any_wp hcal hq hd tr htb hrl (fun i p hp hc hw k hk1 hk2 => ?_) (fun a' w' g' h1 h2 h3 h4 h5 => hQ .normal a' w' g' trivial h1 h2 h3 h4 h5) ops.size _ a _ 0 env g
        ⟨by simp, fun j o ho hl i hi => ?_, ⟨rfl, fun i p d hp hx => ?_, fun d _ => rfl⟩, Nat.zero_le _, fun i p hp hc => ⟨fun h => by omega, fun h => ?_⟩, by rw [tr.s0]; exact hs.drew, by rw [tr.s0]; exact he.keep hsame.keeps, by rw [tr.s0]; exact hcx, fun i p hp _ => by rw [tr.s0]; exact hf p (List.mem_of_getElem? hp), rfl, by rw [tr.s0]; exact hext, by rw [tr.s0]; exact ⟨fun _ _ e => ⟨e, rfl⟩, fun _ _ e => ⟨e, rfl⟩⟩⟩ ?_
      · have hil := (List.getElem?_eq_some_iff.1 hp).1
        have hstep := tr.step i p hp
        have hst0 : stepOp callee cx bb tb (E i) (S i) p.pi = some (.ret (V i), S (i + 1)) := by
          rcases hstep.1 with ⟨_, h⟩ | ⟨h, _⟩
          · exact h
          · rw [hw] at h; exact absurd h (by simp)
        rw [trc_same hq tr hp (by rw [hc]; simp)] at hst0
        have hr : rng loud i p = p.re.getD (i, i) := by unfold rng; rw [if_pos hc]
        cases hre : p.re with
        | none =>
          rw [hr, hre] at hk1 hk2
          simp only [Option.getD_none] at hk1 hk2
          have : k = i := by omega
          subst this; exact hst0
        | some lh =>
          obtain ⟨lo, hi⟩ := lh
          have hik := (hrl i p hp).2
          rw [hr, hre] at hk1 hk2 hik
          simp only [Option.getD_some] at hk1 hk2 hik
          have hrc2 : recheck cx bb tb (traceOps callee cx bb tb ps env st) ps 0 = true := by
            simp only [Bool.or_eq_true] at hrc
            rcases hrc with h | h
            · rw [List.all_eq_true] at h
              have := h p (List.mem_of_getElem? hp)
              rw [hre] at this; simp at this
            · exact h
          obtain ⟨e, s1, q1, q2⟩ := recheck_ok 0 hrc2 i p lo hi hp hre
          rw [Nat.zero_add, tr.tr i (by omega)] at q1
          simp only [Option.some.injEq, Prod.mk.injEq] at q1
          obtain ⟨rfl, rfl⟩ := q1
          obtain ⟨e', s', q3, q4⟩ := q2 hw k hk1 hk2
          rw [tr.tr k (by omega)] at q3
          simp only [Option.some.injEq, Prod.mk.injEq] at q3
          obtain ⟨rfl, rfl⟩ := q3
          unfold sameAt at q4
          split at q4
          · rename_i v s3 v' s4 e3 e4
            have := AV.same_ok q4
            subst this
            have hs4 := exec_R hc e4
            subst hs4
            unfold stepOp at hst0 ⊢
            rw [e3] at hst0
            rw [e4]
            simp only [Option.some.injEq, Prod.mk.injEq, Out.ret.injEq] at hst0 ⊢
            exact ⟨hst0.1, trivial⟩
          · exact absurd q4 (by simp)
      · simp [Array.getD_eq_getD_getElem?, Array.getElem?_replicate] at hl
        split at hl <;> simp at hl
      · simp [Array.getD_eq_getD_getElem?, Array.getElem?_replicate] at hx
        split at hx <;> simp at hx
      · simp [Array.getD_eq_getD_getElem?, Array.getElem?_replicate] at h
        split at h <;> simp at h
      · unfold unl
        have := List.length_filter_le (fun j => !(Array.replicate ops.size false).getD j true) (List.range ops.size)
        simpa using this
    · exact absurd h (by simp)
  · exact absurd h (by simp)
end
end Go.Rf

namespace Go.Rf
set_option linter.unusedVariables false
set_option linter.unusedSimpArgs false

def idxOk (rz : List (List AV)) (rt : List (Nat × Nat)) (p : POp) : Bool :=
  (match kbOf 0 p.pi with | some j => Nat.blt j rz.length | none => true) && (match ktOf 0 p.pi with | some j => Nat.blt j rt.length | none => true)

/-- Code against the loaded code. -/
def isStop : PC → Bool
  | .loop .skip => true
  | _ => false
theorem stop_iter (n : Nat) : ∀ (env : Env) (st : St), iter (fun e s => some (Ex.normal, e, s)) n env st = none := by
  induction n with
  | zero => intro env st; rfl
  | succ n ih => intro env st; exact ih env st
/-- A loop over nothing never ends: it stands for code that the runs do not come to. -/
theorem stop_none {callee : Callee} {lf : Nat} {cx : Cx} {c : PC} {env : Env} {st : St} (h : isStop c = true) : runC callee lf cx c env st = none := by
  unfold isStop at h
  split at h
  · simp only [runC]; exact stop_iter lf env st
  · exact absurd h (by simp)
def ckCode (P : Program) (loud : Nat → Bool) : Code → PC → Bool
  | .skip, pc => isStop pc || match pc with | .skip => true | _ => false
  | .label _, pc => isStop pc || match pc with | .skip => true | _ => false
  | .region _ ops draw, pc => isStop pc || match pc with
    | .region rz rt ps draw' => (draw == draw') && (rz.all fun z => z.all plainCell) && ps.all (idxOk rz rt) && (if draw then ckDraw P loud rz rt ops ps else ckOps P rz rt ops ps ops.toList && distinct ps)
    | _ => false
  | .seq x y, pc => isStop pc || match pc with | .seq a b => ckCode P loud x a && ckCode P loud y b | _ => false
  | .cond c x y, pc => isStop pc || match pc with | .cond c' a b => ckPO c' c && ckCode P loud x a && ckCode P loud y b | _ => false
  | .block id x, pc => isStop pc || match pc with | .block id' a => Nat.beq id id' && ckCode P loud x a | _ => false
  | .loop x, pc => isStop pc || match pc with | .loop a => ckCode P loud x a | _ => false
  | .scope x, pc => ckCode P loud x pc
  | .exit id, pc => isStop pc || match pc with | .exit id' => Nat.beq id id' | _ => false
  | .ret, pc => isStop pc || match pc with | .ret => true | _ => false
  | _, pc => isStop pc

theorem Comes1.refl {cx : Cx} {g : Gh} {st : St} {w : World} {a : Act} {env : Env} {ex : Ex} {e : Exit} (hx : ExR g st w ex e) (hs : SR g st w) (he : ER g (Safe g st w) w env a.tmps) : Comes1 cx g st w a ex env st e a w g :=
  ⟨hx, hs, he, rfl, Ext.refl _ _ _ _, Rsv.refl _ _ _ _⟩
theorem Comes1.trans {cx : Cx} {g1 g2 g3 : Gh} {s1 s2 s3 : St} {w1 w2 w3 : World} {a1 a2 a3 : Act} {ex ex' : Ex} {env2 env3 : Env} {e e' : Exit} (h : Comes1 cx g1 s1 w1 a1 ex env2 s2 e a2 w2 g2) (k : Comes1 cx g2 s2 w2 a2 ex' env3 s3 e' a3 w3 g3) :
    Comes1 cx g1 s1 w1 a1 ex' env3 s3 e' a3 w3 g3 :=
  ⟨k.ex, k.sr, k.er, k.defers.trans h.defers, h.ext.trans k.ext, h.rsv.trans k.rsv⟩

theorem exists_least {p : Nat → Prop} (h : ∃ n, p n) : ∃ n, p n ∧ ∀ m, m < n → ¬ p m := by
  obtain ⟨n, hn⟩ := h
  induction n using Nat.strongRecOn with
  | _ n ih =>
    by_cases hx : ∃ m, m < n ∧ p m
    · obtain ⟨m, h1, h2⟩ := hx
      exact ih m h1 h2
    · exact ⟨n, hn, fun m hm hp => hx ⟨m, hm, hp⟩⟩

/-- A loop whose rounds are counted. -/
theorem wp_loop_count {P : Program} {c : Code} {Q : Exit → Act → World → Prop} (T : Nat → Act → World → Prop) (round : ∀ n a w, T n a w → c.wp P (Exit.then (fun a' w' => ∃ m, m < n ∧ T m a' w') Q) a w)
    {n : Nat} {a : Act} {w : World} (h : T n a w) : (Code.loop c).wp P Q a w := by
  classical
  have hl : ∀ a w, (∃ n, T n a w) → ∃ n, T n a w ∧ ∀ m, m < n → ¬ T m a w := fun a w h => exists_least (p := fun n => T n a w) h
  let μ : Act → World → Nat := fun a w => if h : ∃ n, T n a w then Classical.choose (hl a w h) else 0
  have hμ : ∀ a w, (h : ∃ n, T n a w) → T (μ a w) a w ∧ ∀ m, m < μ a w → ¬ T m a w := fun a w h => by
    simp only [μ, dif_pos h]
    exact Classical.choose_spec (hl a w h)
  refine wp_loop (fun a w => ∃ n, T n a w) μ ⟨n, h⟩ (fun a w hI => ?_)
  have h1 := hμ a w hI
  refine wp_mono (round _ a w h1.1) (fun e a' w' hq => ?_)
  cases e with
  | normal =>
    obtain ⟨m, hm, ht⟩ := hq
    refine ⟨⟨m, ht⟩, ?_⟩
    have h2 := hμ a' w' ⟨m, ht⟩
    refine Nat.lt_of_not_le fun hle => h2.2 m (Nat.lt_of_lt_of_le hm hle) ht
  | _ => exact hq

section
variable {P : Program} {callee : Callee} {loud : Nat → Bool} {cx : Cx}

theorem code_wp (hcal : CalleeOk P callee) (hq : QuietOk callee loud) (hm : P.follows .mixedOrders = true) (lf : Nat) : ∀ (x : Code) (c : PC) (env : Env) (st : St) (ex : Ex) (env' : Env) (st' : St) (g : Gh) (w : World) (a : Act),
    ckCode P loud x c = true → runC callee lf cx c env st = some (ex, env', st') → SR g st w → ER g (Safe g st w) w env a.tmps → CxOk cx st →
    ∀ Q : Exit → Act → World → Prop, (∀ e a' w' g', Comes1 cx g st w a ex env' st' e a' w' g' → Q e a' w') → x.wp P Q a w := by
  intro x
  induction x with
  | skip =>
    intro c env st ex env' st' g w a hck h hs he hcx Q hQ
    simp only [ckCode, Bool.or_eq_true] at hck
    rcases hck with hck | hck
    · rw [stop_none hck] at h; exact absurd h (by simp)
    split at hck
    · simp only [runC, Option.some.injEq, Prod.mk.injEq] at h
      obtain ⟨rfl, rfl, rfl⟩ := h
      exact wp_skip (hQ _ _ _ _ (.refl trivial hs he))
    · exact absurd hck (by simp)
  | label l =>
    intro c env st ex env' st' g w a hck h hs he hcx Q hQ
    simp only [ckCode, Bool.or_eq_true] at hck
    rcases hck with hck | hck
    · rw [stop_none hck] at h; exact absurd h (by simp)
    split at hck
    · simp only [runC, Option.some.injEq, Prod.mk.injEq] at h
      obtain ⟨rfl, rfl, rfl⟩ := h
      exact wp_label (hQ _ _ _ _ (.refl trivial hs he))
    · exact absurd hck (by simp)
  | region id ops draw =>
    intro c env st ex env' st' g w a hck h hs he hcx Q hQ
    simp only [ckCode, Bool.or_eq_true] at hck
    rcases hck with hck | hck
    · rw [stop_none hck] at h; exact absurd h (by simp)
    split at hck
    · rename_i rz rt ps draw'
      simp only [Bool.and_eq_true, beq_iff_eq] at hck
      obtain ⟨⟨⟨rfl, hz⟩, hidx⟩, hck⟩ := hck
      have hidx2 : ∀ p, p ∈ ps → (∀ j, kbOf 0 p.pi = some j → j < rz.length) ∧ ∀ j, ktOf 0 p.pi = some j → j < rt.length := by
        intro p hp
        rw [List.all_eq_true] at hidx
        have := hidx p hp
        unfold idxOk at this
        simp only [Bool.and_eq_true] at this
        exact ⟨fun j hj => by have h1 := this.1; rw [hj] at h1; simpa [Nat.blt_eq] using h1, fun j hj => by have h1 := this.2; rw [hj] at h1; simpa [Nat.blt_eq] using h1⟩
      obtain ⟨g0, h1, h2, h3, h4, h5, h6⟩ := region_begin hs he hcx hz hidx2
      have fin : ∀ e a' w' g', ExR g' st' w' ex e → SR g' st' w' → ER g' (Safe g' st' w') w' env' a'.tmps → a'.defers = a.defers → Ext cx g0 { boxes := st.boxes ++ rz, toks := st.toks ++ rt, maps := st.maps } w g' st' w' →
          Inner st.boxes.length st.toks.length g0 { boxes := st.boxes ++ rz, toks := st.toks ++ rt, maps := st.maps } g' st' → Q e a' w' := by
        intro e a' w' g' k1 k2 k3 k4 k5 k6
        refine hQ e a' w' g' ⟨k1, k2, k3, k4, h4.trans k5, ⟨fun i hi hne => ?_, fun i hi hne => ?_⟩⟩
        · obtain ⟨q1, q2⟩ := h5.b i hi hne
          have hl : i < st.boxes.length := by rw [← hs.lb]; exact (List.getElem?_eq_some_iff.1 hi).1
          obtain ⟨q3, q4⟩ := k6.1 i hl q1
          exact ⟨q3, q4.trans q2⟩
        · obtain ⟨q1, q2⟩ := h5.t i hi hne
          have hl : i < st.toks.length := by rw [← hs.lt]; exact (List.getElem?_eq_some_iff.1 hi).1
          obtain ⟨q3, q4⟩ := k6.2 i hl q1
          exact ⟨q3, q4.trans q2⟩
      cases draw with
      | true =>
        simp only [if_true] at hck
        simp only [runC, if_true] at h
        exact draw_wp hcal hq hm hck hcx.t h1 h2 h3 h6 h fin
      | false =>
        simp only [Bool.false_eq_true, if_false, Bool.and_eq_true] at hck
        simp only [runC, Bool.false_eq_true, if_false] at h
        have hlen := (ckOps_ok hck.1).1
        have := text_wp (bb := st.boxes.length) (tb := st.toks.length) hcal hcx.t ps 0 env _ g0 w a (by simpa using hck.1) hck.2 h6 h1 h2 h3 h fin
        refine wp_region ?_
        rw [List.range_eq_range']
        rw [hlen] at this
        simpa using this
    · exact absurd hck (by simp)
  | seq x y ihx ihy =>
    intro c env st ex env' st' g w a hck h hs he hcx Q hQ
    simp only [ckCode, Bool.or_eq_true] at hck
    rcases hck with hck | hck
    · rw [stop_none hck] at h; exact absurd h (by simp)
    split at hck
    · rename_i c1 c2
      simp only [Bool.and_eq_true] at hck
      simp only [runC] at h
      refine wp_seq ?_
      split at h
      · rename_i env1 st1 h1
        refine ihx c1 env st _ env1 st1 g w a hck.1 h1 hs he hcx _ (fun e a1 w1 g1 k => ?_)
        cases e with
        | normal => exact ihy c2 env1 st1 ex env' st' g1 w1 a1 hck.2 h k.sr k.er (hcx.ext k.ext) _ (fun e a' w' g' k' => hQ e a' w' g' (k.trans k'))
        | _ => exact absurd k.ex (by simp [ExR])
      · rename_i hn
        refine ihx c1 env st ex env' st' g w a hck.1 h hs he hcx _ (fun e a1 w1 g1 k => ?_)
        cases e with
        | normal =>
          have hx := k.ex
          cases ex with
          | normal => exact absurd h (hn env' st')
          | _ => exact absurd hx (by simp [ExR])
        | _ => exact hQ _ a1 w1 g1 k
    · exact absurd hck (by simp)
  | cond c x y ihx ihy =>
    intro c' env st ex env' st' g w a hck h hs he hcx Q hQ
    simp only [ckCode, Bool.or_eq_true] at hck
    rcases hck with hck | hck
    · rw [stop_none hck] at h; exact absurd h (by simp)
    split at hck
    · rename_i p c1 c2
      simp only [Bool.and_eq_true] at hck
      have hv := he.ev hck.1.1
      simp only [runC] at h
      split at h
      · rename_i e1
        rw [e1] at hv
        exact wp_cond_true hv.bool_inv (ihx c1 env st ex env' st' g w a hck.1.2 h hs he hcx Q hQ)
      · rename_i e1
        rw [e1] at hv
        exact wp_cond_false hv.bool_inv (ihy c2 env st ex env' st' g w a hck.2 h hs he hcx Q hQ)
      · exact absurd h (by simp)
    · exact absurd hck (by simp)
  | block id x ih =>
    intro c env st ex env' st' g w a hck h hs he hcx Q hQ
    simp only [ckCode, Bool.or_eq_true] at hck
    rcases hck with hck | hck
    · rw [stop_none hck] at h; exact absurd h (by simp)
    split at hck
    · rename_i id' c1
      simp only [Bool.and_eq_true] at hck
      have hid := Nat.eq_of_beq_eq_true hck.1
      subst hid
      refine wp_block ?_
      simp only [runC] at h
      split at h
      · rename_i id2 env1 st1 h1
        refine ih c1 env st _ env1 st1 g w a hck.2 h1 hs he hcx _ (fun e a1 w1 g1 k => ?_)
        have hx := k.ex
        cases e with
        | exit j =>
          have hj : id2 = j := hx
          subst hj
          simp only [Exit.inBlock]
          split at h
          · rename_i hj
            simp only [Option.some.injEq, Prod.mk.injEq] at h
            obtain ⟨rfl, rfl, rfl⟩ := h
            rw [if_pos hj]
            exact hQ .normal a1 w1 g1 ⟨trivial, k.sr, k.er, k.defers, k.ext, k.rsv⟩
          · rename_i hj
            simp only [Option.some.injEq, Prod.mk.injEq] at h
            obtain ⟨rfl, rfl, rfl⟩ := h
            rw [if_neg hj]
            exact hQ _ a1 w1 g1 k
        | _ => exact absurd hx (by simp [ExR])
      · rename_i hn
        refine ih c1 env st ex env' st' g w a hck.2 h hs he hcx _ (fun e a1 w1 g1 k => ?_)
        cases e with
        | exit j =>
          have hx := k.ex
          cases ex with
          | exit j' => exact absurd h (hn j' env' st')
          | _ => exact absurd hx (by simp [ExR])
        | _ => exact hQ _ a1 w1 g1 k
    · exact absurd hck (by simp)
  | loop x ih =>
    intro c env st ex env' st' g w a hck h hs he hcx Q hQ
    simp only [ckCode, Bool.or_eq_true] at hck
    rcases hck with hck | hck
    · rw [stop_none hck] at h; exact absurd h (by simp)
    split at hck
    · rename_i c1
      simp only [runC] at h
      let T : Nat → Act → World → Prop := fun n a1 w1 => ∃ env1 st1 g1, iter (fun e s => runC callee lf cx c1 e s) n env1 st1 = some (ex, env', st') ∧ Comes1 cx g st w a .normal env1 st1 .normal a1 w1 g1
      refine wp_loop_count T (fun n a1 w1 ⟨env1, st1, g1, h1, k1⟩ => ?_) (n := lf) ⟨env, st, g, h, .refl trivial hs he⟩
      cases n with
      | zero => simp [iter] at h1
      | succ n =>
        simp only [iter] at h1
        split at h1
        · rename_i env2 st2 h2
          refine ih c1 env1 st1 _ env2 st2 g1 w1 a1 hck h2 k1.sr k1.er (hcx.ext k1.ext) _ (fun e a2 w2 g2 k2 => ?_)
          cases e with
          | normal => exact ⟨n, by omega, env2, st2, g2, h1, k1.trans k2⟩
          | _ => exact absurd k2.ex (by simp [ExR])
        · rename_i hn
          refine ih c1 env1 st1 ex env' st' g1 w1 a1 hck h1 k1.sr k1.er (hcx.ext k1.ext) _ (fun e a2 w2 g2 k2 => ?_)
          cases e with
          | normal =>
            have hx := k2.ex
            cases ex with
            | normal => exact absurd h1 (hn env' st')
            | _ => exact absurd hx (by simp [ExR])
          | _ => exact hQ _ a2 w2 g2 (k1.trans k2)
    · exact absurd hck (by simp)
  | scope x ih =>
    intro c env st ex env' st' g w a hck h hs he hcx Q hQ
    simp only [ckCode] at hck
    refine wp_scope_straight (ih c env st ex env' st' g w a hck h hs he hcx _ (fun e a1 w1 g1 k => ?_))
    cases e with
    | goto l => exact absurd k.ex (by cases ex <;> simp [ExR])
    | _ => exact hQ _ a1 w1 g1 k
  | exit id =>
    intro c env st ex env' st' g w a hck h hs he hcx Q hQ
    simp only [ckCode, Bool.or_eq_true] at hck
    rcases hck with hck | hck
    · rw [stop_none hck] at h; exact absurd h (by simp)
    split at hck
    · rename_i id'
      have hid := Nat.eq_of_beq_eq_true hck
      subst hid
      simp only [runC, Option.some.injEq, Prod.mk.injEq] at h
      obtain ⟨rfl, rfl, rfl⟩ := h
      exact wp_exit (hQ _ _ _ _ (.refl rfl hs he))
    · exact absurd hck (by simp)
  | ret =>
    intro c env st ex env' st' g w a hck h hs he hcx Q hQ
    simp only [ckCode, Bool.or_eq_true] at hck
    rcases hck with hck | hck
    · rw [stop_none hck] at h; exact absurd h (by simp)
    split at hck
    · simp only [runC, Option.some.injEq, Prod.mk.injEq] at h
      obtain ⟨rfl, rfl, rfl⟩ := h
      exact wp_ret (hQ _ _ _ _ (.refl trivial hs he))
    · exact absurd hck (by simp)
  | _ =>
    intro c env st ex env' st' g w a hck h hs he hcx Q hQ
    simp only [ckCode] at hck
    rw [stop_none hck] at h; exact absurd h (by simp)
end
end Go.Rf

namespace Go.Rf
set_option linter.unusedVariables false
set_option linter.unusedSimpArgs false

def ckRes (P : Program) : List PRes → List ResultVar → Bool
  | [], [] => true
  | r :: rs, v :: vs => (match r, v with
    | .t i, .tmp j => Nat.beq i j
    | .cell agg n i, .cell j t => Nat.beq i j && isAggOf P t == some agg && sizeOfT P t == some n
    | _, _ => false) && ckRes P rs vs
  | _, _ => false

/-- A function against the loaded function. -/
def ckFn (P : Program) (loud : Nat → Bool) (f : Nat) (pf : PFn) : Bool := match P.funcs[f]? with
  | some fn => match fn.body with
    | some c => !(fn.name == "runtime.NumGoroutine") && Nat.beq pf.ntmps fn.ntmps && (pf.quiet == !loud f) && ckRes P pf.res fn.results.toList && ckCode P loud c pf.body
    | none => false
  | none => false

section
variable {P : Program} {callee : Callee} {loud : Nat → Bool} {cx : Cx}

theorem readRes_ok {g : Gh} {st : St} {w : World} {env : Env} {tmps : Array Value} (hs : SR g st w) (he : ER g (Safe g st w) w env tmps) {agg : Bool} {n i : Nat} {t : TypeId} {v : AV} (h1 : isAggOf P t = some agg) (h2 : sizeOfT P t = some n)
    (h : readRes env st (.cell agg n i) = some v) : ∃ ad u, tmps.getD i undef = .pointer (some ad) ∧ (loadVar t ad).run P w = .ok u w ∧ VR g (Safe g st w) w v u := by
  have hv := he.get i
  simp only [readRes] at h
  split at h
  · rename_i id off e
    rw [e] at hv
    generalize hu : tmps.getD i undef = u at hv
    cases hv with | ptr _ _ b hb =>
    split at h
    · rename_i cs hcs
      obtain ⟨cur, ty, hblk, hsz, hcells⟩ := hs.box id b cs hb hcs
      cases agg with
      | true =>
        simp only [if_true] at h
        split at h
        · rename_i hle
          injection h with h; subst h
          have hlen : ((cur.toList.drop off).take n).length = n := by simp; omega
          refine ⟨_, .agg ((cur.toList.drop off).take n).toArray, rfl, run_loadVar_agg _ h1 (by rw [hlen]; exact h2) (fun j u hj => ?_), ?_⟩
          · rw [add_none, cell_of_blk hblk]
            rw [List.getElem?_take, List.getElem?_drop] at hj
            split at hj
            · simpa using hj
            · exact absurd hj (by simp)
          · refine .agg _ _ (by simp; omega) (fun j c u hc hu => ?_) (fun c hc => ?_)
            · rw [List.getElem?_take, List.getElem?_drop] at hc
              simp only [List.getElem?_toArray] at hu
              rw [List.getElem?_take, List.getElem?_drop] at hu
              split at hc
              · rename_i hjn
                rw [if_pos hjn] at hu
                exact hcells (off + j) c u hc (by simpa using hu)
              · exact absurd hc (by simp)
            · have hall := (hs.one id cs hcs).1
              rw [List.all_eq_true] at hall
              exact hall c (List.mem_of_mem_drop (List.mem_of_mem_take hc))
        · exact absurd h (by simp)
      | false =>
        simp only [Bool.false_eq_true, if_false] at h
        have hi : off < cur.size := by have := (List.getElem?_eq_some_iff.1 h).1; omega
        have hg : cur[off]? = some cur[off] := Array.getElem?_eq_getElem hi
        exact ⟨_, cur[off], rfl, run_loadVar_one h1 (by rw [cell_of_blk hblk]; exact hg), hcells off _ _ h hg⟩
    · exact absurd h (by simp)
  · exact absurd h (by simp)

def readOne (tmps : Array Value) : ResultVar → Sem Value
  | .tmp t => pure (tmps.getD t undef)
  | .cell a t => do loadVar t (← asAddr (tmps.getD a undef))

theorem readAll_ok {g : Gh} {st : St} {w : World} {env : Env} {tmps : Array Value} (hs : SR g st w) (he : ER g (Safe g st w) w env tmps) : ∀ {rs : List PRes} {vs : List ResultVar} {out : List AV}, ckRes P rs vs = true → readAll env st rs = some out →
    ∃ us, (vs.mapM (readOne tmps)).run P w = .ok us w ∧ out.length = us.length ∧ ∀ (i : Nat) c u, out[i]? = some c → us[i]? = some u → VR g (Safe g st w) w c u
  | [], [], out, hck, h => by
    simp only [readAll, Option.some.injEq] at h
    subst h
    exact ⟨[], by simp, rfl, fun i c u h => by simp at h⟩
  | [], _ :: _, _, hck, _ => by simp [ckRes] at hck
  | _ :: _, [], _, hck, _ => by simp [ckRes] at hck
  | r :: rs, v :: vs, out, hck, h => by
    simp only [ckRes, Bool.and_eq_true] at hck
    simp only [readAll] at h
    split at h
    · rename_i x xs h1 h2
      injection h with h; subst h
      obtain ⟨us, k1, k2, k3⟩ := readAll_ok hs he hck.2 h2
      have hone : ∃ u, (readOne tmps v).run P w = .ok u w ∧ VR g (Safe g st w) w x u := by
        have hc := hck.1
        split at hc
        · rename_i i j
          have := Nat.eq_of_beq_eq_true hc
          subst this
          simp only [readRes, Option.some.injEq] at h1
          subst h1
          exact ⟨_, rfl, he.get i⟩
        · rename_i agg n i j t
          simp only [Bool.and_eq_true, beq_iff_eq] at hc
          have := Nat.eq_of_beq_eq_true hc.1.1
          subst this
          obtain ⟨ad, u, q1, q2, q3⟩ := readRes_ok hs he hc.1.2 hc.2 h1
          exact ⟨u, by simp only [readOne, q1, Sem.run_bind, asAddr, Sem.run_pure, Result.andThen_ok]; exact q2, q3⟩
        · exact absurd hc (by simp)
      obtain ⟨u, q1, q2⟩ := hone
      refine ⟨u :: us, ?_, by simp [k2], fun i c y hc hy => ?_⟩
      · simp only [List.mapM_cons, Sem.run_bind, q1, Result.andThen_ok, k1, Sem.run_pure]
      · cases i with
        | zero => simp at hc hy; subst hc; subst hy; exact q2
        | succ i => exact k3 i c y (by simpa using hc) (by simpa using hy)
    · exact absurd h (by simp)

theorem results_ok {g : Gh} {st : St} {w : World} {env : Env} {tmps : Array Value} (hs : SR g st w) (he : ER g (Safe g st w) w env tmps) {fn : Func} {rs : List PRes} {out : List AV} (hck : ckRes P rs fn.results.toList = true) (h : readAll env st rs = some out) :
    ∃ u, (results fn tmps).run P w = .ok u w ∧ VR g (Safe g st w) w (packRes out) u := by
  obtain ⟨us, k1, k2, k3⟩ := readAll_ok hs he hck h
  refine ⟨if h : us.toArray.size = 1 then us.toArray[0] else .tuple us.toArray, ?_, ?_⟩
  · have hfun : results fn tmps = (do
      let vs ← fn.results.mapM (readOne tmps)
      pure (if h : vs.size = 1 then vs[0] else .tuple vs)) := rfl
    have harr : fn.results = fn.results.toList.toArray := by simp
    have : (fn.results.mapM (readOne tmps)).run P w = .ok us.toArray w := by
      rw [harr, List.mapM_toArray, Sem.run_map, k1]
      rfl
    rw [hfun]
    simp only [Sem.run_bind, this, Result.andThen_ok, Sem.run_pure]
  · match out, us, k2, k3 with
    | [], [], _, _ => exact .tup [] #[] rfl (fun i c v h => by simp at h)
    | [x], [u], _, k3 => exact k3 0 x u rfl rfl
    | x :: y :: xs, u :: z :: us, k2, k3 =>
      have : ¬ ((u :: z :: us).toArray.size = 1) := by simp
      rw [dif_neg this]
      exact .tup _ _ (by simpa using k2) (fun i c v hc hv => k3 i c v hc (by simpa using hv))

/-- A function's run. -/
theorem fn_ok (hcal : CalleeOk P callee) (hq : QuietOk callee loud) (hm : P.follows .mixedOrders = true) (lf : Nat) {f : Nat} {pf : PFn} (hck : ckFn P loud f pf = true) {args : List AV} {st st' : St} {out : Out} (hargs : args.length ≤ pf.ntmps)
    (h : leave pf st (runC callee lf (cxOf pf cx st) pf.body (enter pf args) st) = some (out, st')) :
    enters P f = true ∧ (pf.quiet = true → st' = st) ∧ ∀ g w vs, SR g st w → CxOk cx st → ArgsR g (Safe g st w) w args vs → CallR P cx g st w f vs out st' := by
  unfold ckFn at hck
  split at hck
  · rename_i fn hf
    split at hck
    · rename_i c hb
      simp only [Bool.and_eq_true] at hck
      obtain ⟨⟨⟨⟨n1, n2⟩, n3⟩, n4⟩, n5⟩ := hck
      have hnt := Nat.eq_of_beq_eq_true n2
      refine ⟨by simp [enters, hf, hb, n1], fun hqt => ?_, fun g w vs hs hcx ha => ?_⟩
      · unfold leave at h
        split at h
        · split at h
          · rw [if_pos hqt] at h
            split at h
            · simp only [Option.some.injEq, Prod.mk.injEq] at h; exact h.2.symm
            · exact absurd h (by simp)
          · exact absurd h (by simp)
        · split at h
          · rw [if_pos hqt] at h
            split at h
            · simp only [Option.some.injEq, Prod.mk.injEq] at h; exact h.2.symm
            · exact absurd h (by simp)
          · exact absurd h (by simp)
        · rw [if_pos hqt] at h
          simp only [Option.some.injEq, Prod.mk.injEq] at h; exact h.2.symm
        · exact absurd h (by simp)
      · have her : ER g (Safe g st w) w (enter pf args) (vs ++ Array.replicate (fn.ntmps - vs.size) undef) := by
          obtain ⟨a1, a2⟩ := ha
          refine ⟨by simp [enter, a1, hnt], fun i x v hx hv => ?_⟩
          unfold enter at hx
          rw [List.getElem?_append] at hx
          rw [Array.getElem?_append] at hv
          split at hx
          · rename_i hi
            rw [if_pos (by omega)] at hv
            exact a2 i x v hx hv
          · rename_i hi
            rw [if_neg (by omega)] at hv
            rw [List.getElem?_replicate] at hx
            rw [Array.getElem?_replicate] at hv
            split at hx
            · split at hv
              · injection hx with hx; injection hv with hv
                subst hx; subst hv
                exact VR.undef
              · exact absurd hv (by simp)
            · exact absurd hx (by simp)
        have hcx2 : CxOk (cxOf pf cx st) st := by
          unfold cxOf
          split
          · exact ⟨Nat.le_refl _, Nat.le_refl _, Nat.le_refl _⟩
          · exact hcx
        unfold CallR
        refine calls_of_wp hf hb ?_
        cases hr : runC callee lf (cxOf pf cx st) pf.body (enter pf args) st with
        | none => rw [hr] at h; simp [leave] at h
        | some q =>
          obtain ⟨ex, env1, st1⟩ := q
          rw [hr] at h
          refine code_wp hcal hq hm lf c pf.body (enter pf args) st ex env1 st1 g w _ n5 hr hs her hcx2 _ (fun e a' w' g' k => ?_)
          have hdef : a'.defers = [] := k.defers
          have quietCase : pf.quiet = true → Ext (cxAll st) g st w g' st1 w' := fun hqt => by
            have := k.ext
            unfold cxOf at this
            rw [if_pos hqt] at this
            exact this
          have loudCase : pf.quiet = false → Ext cx g st w g' st1 w' := fun hqt => by
            have := k.ext
            unfold cxOf at this
            rw [if_neg (by rw [hqt]; simp)] at this
            exact this
          have good : ∀ vsr, readAll env1 st1 pf.res = some vsr → (if pf.quiet then match freeze ⟨st.boxes.length, st.toks.length, st.maps.length⟩ (packRes vsr) with
              | some v => some (.ret v, st)
              | none => none
            else if (packRes vsr).under st.boxes.length then some (.ret (packRes vsr), { st1 with boxes := st1.boxes.take st.boxes.length }) else none) = some (out, st') →
            a'.defers = [] ∧ ∃ v, (results fn a'.tmps).run P w' = .ok v w' ∧ ∃ g', SR g' st' w' ∧ Ext cx g st w g' st' w' ∧ Rsv none none g st g' st' ∧ EndR g' st' w' (.returned v) out := by
            intro vsr hvs hres
            obtain ⟨u, r1, r2⟩ := results_ok (fn := fn) k.sr k.er n4 hvs
            refine ⟨hdef, u, r1, ?_⟩
            cases hqt : pf.quiet with
            | true =>
              rw [hqt] at hres
              simp only [if_true] at hres
              split at hres
              · rename_i v hv
                simp only [Option.some.injEq, Prod.mk.injEq] at hres
                obtain ⟨rfl, rfl⟩ := hres
                have hx := quietCase hqt
                exact ⟨clean w.heap.size g, (hs.over hx).1.clean, quiet_ext hcx hs hx, ⟨fun i h _ => ⟨h, rfl⟩, fun i h _ => ⟨h, rfl⟩⟩, freeze_ok hs k.sr hx k.rsv r2 hv⟩
              · exact absurd hres (by simp)
            | false =>
              rw [hqt] at hres
              simp only [Bool.false_eq_true, if_false] at hres
              split at hres
              · rename_i hun
                simp only [Option.some.injEq, Prod.mk.injEq] at hres
                obtain ⟨rfl, rfl⟩ := hres
                have hx := loudCase hqt
                exact ⟨cutG st.boxes.length w.heap.size g', k.sr.cut, Ext.cut hcx hs k.sr hx, Rsv.cut hs.lb k.rsv, r2.cut k.sr hun⟩
              · exact absurd hres (by simp)
          have hx := k.ex
          cases ex with
          | normal =>
            cases e with
            | normal =>
              simp only [leave] at h
              split at h
              · rename_i vsr hvs; exact good vsr hvs h
              · exact absurd h (by simp)
            | _ => exact absurd hx (by simp [ExR])
          | ret =>
            cases e with
            | ret =>
              simp only [leave] at h
              split at h
              · rename_i vsr hvs; exact good vsr hvs h
              · exact absurd h (by simp)
            | _ => exact absurd hx (by simp [ExR])
          | exit id => simp [leave] at h
          | pan d =>
            cases e with
            | panic chain =>
              obtain ⟨u, rfl, hd⟩ := hx
              simp only [leave] at h
              refine ⟨hdef, ?_⟩
              cases hqt : pf.quiet with
              | true =>
                rw [hqt] at h
                simp only [if_true, Option.some.injEq, Prod.mk.injEq] at h
                obtain ⟨rfl, rfl⟩ := h
                have hx := quietCase hqt
                exact ⟨clean w.heap.size g, (hs.over hx).1.clean, quiet_ext hcx hs hx, ⟨fun i h _ => ⟨h, rfl⟩, fun i h _ => ⟨h, rfl⟩⟩, u, rfl, hd.keep (fun b off h => ⟨quiet_safe hs k.sr hx b off h, fun _ h => h⟩)⟩
              | false =>
                rw [hqt] at h
                simp only [Bool.false_eq_true, if_false, Option.some.injEq, Prod.mk.injEq] at h
                obtain ⟨rfl, rfl⟩ := h
                have hx := loudCase hqt
                exact ⟨cutG st.boxes.length w.heap.size g', k.sr.cut, Ext.cut hcx hs k.sr hx, Rsv.cut hs.lb k.rsv, u, rfl, hd.keep (fun b off h => ⟨cut_safe k.sr b off h, fun _ h => h⟩)⟩
            | _ => exact absurd hx (by simp [ExR])
    · exact absurd hck (by simp)
  · exact absurd hck (by simp)

/-- Given functions. -/
def GivOk (P : Program) (loud : Nat → Bool) (giv : Nat → Option (List AV → Cx → St → Option (Out × St))) : Prop :=
  ∀ f gf, giv f = some gf → ∀ args cx st o st', gf args cx st = some (o, st') → enters P f = true ∧ (loud f = false → st' = st) ∧ ∀ g w vs, SR g st w → CxOk cx st → ArgsR g (Safe g st w) w args vs → CallR P cx g st w f vs o st'

theorem run_ok {giv : Nat → Option (List AV → Cx → St → Option (Out × St))} {tbl : Nat → Option PFn} (hm : P.follows .mixedOrders = true) (hg : GivOk P loud giv) (ht : ∀ f pf, tbl f = some pf → ckFn P loud f pf = true) :
    ∀ n, CalleeOk P (run giv tbl n) ∧ QuietOk (run giv tbl n) loud
  | 0 => ⟨fun f args cx st o st' h => by simp [run] at h, fun f args cx st o st' _ h => by simp [run] at h⟩
  | n + 1 => by
    obtain ⟨ih1, ih2⟩ := run_ok hm hg ht n
    have key : ∀ f args cx st o st', run giv tbl (n + 1) f args cx st = some (o, st') → enters P f = true ∧ (loud f = false → st' = st) ∧ ∀ g w vs, SR g st w → CxOk cx st → ArgsR g (Safe g st w) w args vs → CallR P cx g st w f vs o st' := by
      intro f args cx st o st' h
      simp only [run] at h
      split at h
      · rename_i gf hgf
        exact hg f gf hgf args cx st o st' h
      · split at h
        · rename_i pf hpf
          split at h
          · rename_i hle
            have hck := ht f pf hpf
            obtain ⟨h1, h2, h3⟩ := fn_ok (cx := cx) ih1 ih2 hm n hck hle h
            refine ⟨h1, fun hl => h2 ?_, h3⟩
            unfold ckFn at hck
            split at hck
            · split at hck
              · simp only [Bool.and_eq_true, beq_iff_eq] at hck
                rw [hck.1.1.2, hl]; rfl
              · exact absurd hck (by simp)
            · exact absurd hck (by simp)
          · exact absurd h (by simp)
        · exact absurd h (by simp)
    exact ⟨fun f args cx st o st' h => ⟨(key f args cx st o st' h).1, (key f args cx st o st' h).2.2⟩, fun f args cx st o st' hl h => (key f args cx st o st' h).2.1 hl⟩
end
end Go.Rf

namespace Go.Rf
set_option linter.unusedVariables false
set_option linter.unusedSimpArgs false

def D.flat : D → Bool
  | .int _ _ => true
  | .bool _ => true
  | .str _ => true
  | .nilI => true
  | _ => false
def AV.flat : AV → Bool
  | .d x => x.flat
  | _ => false
/-- Data alone. -/
def AV.data1 : AV → Bool
  | .d _ => true
  | .nilS => true
  | _ => false
def AV.data2 : AV → Bool
  | .agg cs => cs.all AV.data1
  | v => v.data1
def AV.data : AV → Bool
  | .tup vs => vs.all AV.data2
  | v => v.data2

def st0 : St := ⟨[], [], []⟩
def cx0 : Cx := ⟨0, 0, 0⟩

open Classical in
/-- All registered blocks are foreign. -/
noncomputable def bare (g : Gh) : Gh := { bx := [], tk := [], mp := [], role := fun b => if Reg g b ∨ g.role b = .other then .other else .free }

section
variable {P : Program} {g : Gh} {st : St} {w : World}

theorem bare_sr : SR (bare g) st0 w :=
  ⟨rfl, rfl, rfl, fun i b h => by simp [bare] at h, fun t b sz used h => by simp [bare] at h, fun m r h => by simp [bare] at h, fun i b cs h => by simp [bare] at h, fun i cs h => by simp [st0] at h, fun t b sz used h => by simp [bare] at h, fun m r es h => by simp [bare] at h⟩
theorem bare_idle (b : Nat) : ((bare g).role b).idle = true := by
  by_cases h : Reg g b ∨ g.role b = .other
  · have : (bare g).role b = .other := if_pos h
    rw [this]; rfl
  · have : (bare g).role b = .free := if_neg h
    rw [this]; rfl

theorem VR.ofFlat {g g' : Gh} {S S' : Nat → Nat → Prop} {w w' : World} {x : AV} {u : Value} (hf : x.flat = true) (h : VR g S w x u) : VR g' S' w' x u := by
  cases h with
  | d x v hx =>
    cases hx with
    | int k n => exact .d _ _ (.int _ _)
    | bool b => exact .d _ _ (.bool _)
    | str l s e => exact .d _ _ (.str _ _ e)
    | nilI => exact .d _ _ .nilI
    | _ => simp [AV.flat, D.flat] at hf
  | _ => simp [AV.flat] at hf

theorem VR.ofData1 {g g' : Gh} {S S' : Nat → Nat → Prop} {w : World} (hs : ∀ (b off : Nat), S b off → S' b off) {x : AV} {u : Value} (hf : x.data1 = true) (h : VR g S w x u) : VR g' S' w x u := by
  cases h with
  | d x v hx => exact .d _ _ (hx.keep (fun b off h => ⟨hs b off h, fun _ h => h⟩))
  | nilS => exact .nilS
  | _ => simp [AV.data1] at hf
theorem VR.ofData2 {g g' : Gh} {S S' : Nat → Nat → Prop} {w : World} (hs : ∀ (b off : Nat), S b off → S' b off) {x : AV} {u : Value} (hf : x.data2 = true) (h : VR g S w x u) : VR g' S' w x u := by
  cases x with
  | agg cs =>
    cases h with
    | agg _ vs hl hv ho =>
      simp only [AV.data2, List.all_eq_true] at hf
      exact .agg _ _ hl (fun i c v hc hvv => (hv i c v hc hvv).ofData1 hs (hf c (List.mem_of_getElem? hc))) ho
  | _ => exact VR.ofData1 hs hf h
theorem VR.ofData {g g' : Gh} {S S' : Nat → Nat → Prop} {w : World} (hs : ∀ (b off : Nat), S b off → S' b off) {x : AV} {u : Value} (hf : x.data = true) (h : VR g S w x u) : VR g' S' w x u := by
  cases x with
  | tup cs =>
    cases h with
    | tup _ vs hl hv =>
      simp only [AV.data, List.all_eq_true] at hf
      exact .tup _ _ hl (fun i c v hc hvv => (hv i c v hc hvv).ofData2 hs (hf c (List.mem_of_getElem? hc)))
  | _ => exact VR.ofData2 hs hf h

/-- Nothing that was there is turned. -/
theorem bare_over {g1 : Gh} {st1 : St} {w1 : World} {cx : Cx} (hcx : CxOk cx st) (hs : SR g st w) (he : Ext cx0 (bare g) st0 w g1 st1 w1) : SR (clean w.heap.size g) st w1 ∧ Ext cx g st w (clean w.heap.size g) st w1 := by
  have hall : ∀ b, b < w.heap.size → w1.heap[b]? = w.heap[b]? := fun b hb => (he.free b hb (bare_idle b)).1
  have hx : Ext (cxAll st) g st w g st w1 := by
    refine ⟨he.os, he.tape, he.output, he.size, fun b hb _ => ⟨hall b hb, rfl⟩, ⟨fun _ _ h => h, fun t b sz used h => ⟨b, sz, used, h, .inr ⟨rfl, rfl, rfl, fun cur _ hc => ⟨cur, by rw [hall b (tk_lt hs h)]; exact hc, rfl⟩⟩⟩, fun _ _ h => h, fun b off ⟨h1, h2⟩ => ⟨⟨Nat.lt_of_lt_of_le h1 he.size, h2⟩, fun v hv => ?_⟩⟩,
      fun i b _ h => hall b (bx_lt hs h), fun t x _ h => ⟨hall x.1 (tk_lt hs h), h⟩, fun m r _ h => hall r (mp_lt hs h), fun _ _ => rfl, fun _ _ => rfl, fun _ _ => rfl, Nat.le_refl _, Nat.le_refl _, Nat.le_refl _⟩
    simp only [cellA, World.cell?] at hv ⊢
    rw [hall b h1]; exact hv
  exact ⟨(hs.over hx).1.clean, quiet_ext hcx hs hx⟩

theorem memo_flat {callee : Callee} (hcal : CalleeOk P callee) {f : Nat} {args : List AV} {v : AV} (h : callee f args cx0 st0 = some (.ret v, st0)) (hflat : args.all AV.flat = true) (hdata : v.data = true) :
    enters P f = true ∧ ∀ cx g st w vs, SR g st w → CxOk cx st → ArgsR g (Safe g st w) w args vs → CallR P cx g st w f vs (.ret v) st := by
  obtain ⟨h1, h2⟩ := hcal f args cx0 st0 _ _ h
  refine ⟨h1, fun cx g st w vs hs hcx ha => ?_⟩
  rw [List.all_eq_true] at hflat
  have hc := h2 (bare g) w vs bare_sr ⟨Nat.le_refl _, Nat.le_refl _, Nat.le_refl _⟩ ⟨ha.1, fun i c u hc hu => (ha.2 i c u hc hu).ofFlat (hflat c (List.mem_of_getElem? hc))⟩
  refine Calls.mono hc fun e w1 ⟨g1, k1, k2, k3, k4⟩ => ?_
  obtain ⟨q1, q2⟩ := bare_over hcx hs k2
  refine ⟨clean w.heap.size g, q1, q2, ⟨fun i h _ => ⟨h, rfl⟩, fun i h _ => ⟨h, rfl⟩⟩, ?_⟩
  cases e with
  | returned u =>
    refine VR.ofData (fun b off hb => ?_) hdata k4
    obtain ⟨b1, b2⟩ := hb
    refine ⟨b1, .inl ?_⟩
    rcases Nat.lt_or_ge b w.heap.size with hlt | hge
    · have hr := (k2.free b hlt (bare_idle b)).2
      have hnr : ¬ (Reg g b ∨ g.role b = .other) := by
        intro hreg
        have : (bare g).role b = .other := if_pos hreg
        rw [this] at hr
        rcases b2 with b2 | ⟨t, sz, used, b2, b3, b4⟩ <;> rw [hr] at b2 <;> simp at b2
      exact clean_not (fun h => hnr (.inl h)) (.inr (fun h => hnr (.inr h)))
    · by_cases hreg : Reg g b
      · exfalso
        rcases hreg with ⟨i, h⟩ | ⟨t, sz, used, h⟩ | ⟨m, h⟩
        · have := bx_lt hs h; omega
        · have := tk_lt hs h; omega
        · have := mp_lt hs h; omega
      · exact clean_not hreg (.inl hge)
  | panicked chain => exact k4.elim
  | outgrown => exact k4.elim
end
end Go.Rf

namespace Go.Rf
set_option linter.unusedVariables false
set_option linter.unusedSimpArgs false
def AV.flat2 : AV → Bool
  | .agg cs => cs.all AV.flat
  | v => v.flat
section
variable {P : Program} {g : Gh} {st : St} {w : World}
theorem VR.ofFlat2 {g g' : Gh} {S S' : Nat → Nat → Prop} {w w' : World} {x : AV} {u : Value} (hf : x.flat2 = true) (h : VR g S w x u) : VR g' S' w' x u := by
  cases x with
  | agg cs =>
    cases h with
    | agg _ vs hl hv ho =>
      simp only [AV.flat2, List.all_eq_true] at hf
      exact .agg _ _ hl (fun i c v hc hvv => (hv i c v hc hvv).ofFlat (hf c (List.mem_of_getElem? hc))) ho
  | _ => exact VR.ofFlat hf h
theorem memo_flat2 {callee : Callee} (hcal : CalleeOk P callee) {f : Nat} {args : List AV} {v : AV} (h : callee f args cx0 st0 = some (.ret v, st0)) (hflat : args.all AV.flat2 = true) (hdata : v.data = true) :
    enters P f = true ∧ ∀ cx g st w vs, SR g st w → CxOk cx st → ArgsR g (Safe g st w) w args vs → CallR P cx g st w f vs (.ret v) st := by
  obtain ⟨h1, h2⟩ := hcal f args cx0 st0 _ _ h
  refine ⟨h1, fun cx g st w vs hs hcx ha => ?_⟩
  rw [List.all_eq_true] at hflat
  have hc := h2 (bare g) w vs bare_sr ⟨Nat.le_refl _, Nat.le_refl _, Nat.le_refl _⟩ ⟨ha.1, fun i c u hc hu => (ha.2 i c u hc hu).ofFlat2 (hflat c (List.mem_of_getElem? hc))⟩
  refine Calls.mono hc fun e w1 ⟨g1, k1, k2, k3, k4⟩ => ?_
  obtain ⟨q1, q2⟩ := bare_over hcx hs k2
  refine ⟨clean w.heap.size g, q1, q2, ⟨fun i h _ => ⟨h, rfl⟩, fun i h _ => ⟨h, rfl⟩⟩, ?_⟩
  cases e with
  | returned u =>
    refine VR.ofData (fun b off hb => ?_) hdata k4
    obtain ⟨b1, b2⟩ := hb
    refine ⟨b1, .inl ?_⟩
    rcases Nat.lt_or_ge b w.heap.size with hlt | hge
    · have hr := (k2.free b hlt (bare_idle b)).2
      have hnr : ¬ (Reg g b ∨ g.role b = .other) := by
        intro hreg
        have : (bare g).role b = .other := if_pos hreg
        rw [this] at hr
        rcases b2 with b2 | ⟨t, sz, used, b2, b3, b4⟩ <;> rw [hr] at b2 <;> simp at b2
      exact clean_not (fun h => hnr (.inl h)) (.inr (fun h => hnr (.inr h)))
    · by_cases hreg : Reg g b
      · exfalso
        rcases hreg with ⟨i, h⟩ | ⟨t, sz, used, h⟩ | ⟨m, h⟩
        · have := bx_lt hs h; omega
        · have := tk_lt hs h; omega
        · have := mp_lt hs h; omega
      · exact clean_not hreg (.inl hge)
  | panicked chain => exact k4.elim
  | outgrown => exact k4.elim
end
end Go.Rf

namespace Go.Rf
set_option linter.unusedVariables false
set_option linter.unusedSimpArgs false
universe u
variable {α : Sort u}

def sNat (m : Nat) (k : Nat → α) : α := match m with
  | 0 => k 0
  | n + 1 => k (n + 1)
def sInt (n : Int) (k : Int → α) : α := match n with
  | .ofNat m => sNat m fun m => k (.ofNat m)
  | .negSucc m => sNat m fun m => k (.negSucc m)
def sBool (b : Bool) (k : Bool → α) : α := match b with
  | true => k true
  | false => k false
def sList {β : Type} : List β → (List β → α) → α
  | [], k => k []
  | a :: r, k => sList r fun r => k (a :: r)
def sD (x : D) (k : D → α) : α := match x with
  | .int kd n => sInt n fun n => k (.int kd n)
  | .bool b => sBool b fun b => k (.bool b)
  | .str l => sList l fun l => k (.str l)
  | x => k x
def sAV (x : AV) (k : AV → α) : α := match x with
  | .d x => sD x fun x => k (.d x)
  | .ptr b o => sNat b fun b => sNat o fun o => k (.ptr b o)
  | .agg cs => sList cs fun cs => k (.agg cs)
  | x => k x
def sLL {β : Type} : List (List β) → (List (List β) → α) → α
  | [], k => k []
  | a :: r, k => sList a fun a => sLL r fun r => k (a :: r)
def sSt (st : St) (k : St → α) : α := match st with
  | ⟨b, t, m⟩ => sLL b fun b => sList t fun t => sLL m fun m => k ⟨b, t, m⟩

theorem sNat_eq (m : Nat) (k : Nat → α) : sNat m k = k m := by cases m <;> rfl
theorem sInt_eq (n : Int) (k : Int → α) : sInt n k = k n := by cases n <;> simp only [sInt, sNat_eq]
theorem sBool_eq (b : Bool) (k : Bool → α) : sBool b k = k b := by cases b <;> rfl
theorem sList_eq {β : Type} : ∀ (l : List β) (k : List β → α), sList l k = k l
  | [], _ => rfl
  | a :: r, k => by rw [sList, sList_eq r]
theorem sD_eq (x : D) (k : D → α) : sD x k = k x := by
  cases x <;> simp only [sD, sInt_eq, sBool_eq, sList_eq]
theorem sAV_eq (x : AV) (k : AV → α) : sAV x k = k x := by
  cases x <;> simp only [sAV, sD_eq, sList_eq, sNat_eq]
theorem sLL_eq {β : Type} : ∀ (l : List (List β)) (k : List (List β) → α), sLL l k = k l
  | [], _ => rfl
  | a :: r, k => by rw [sLL, sList_eq, sLL_eq r]
theorem sSt_eq (st : St) (k : St → α) : sSt st k = k st := by
  cases st; simp only [sSt, sLL_eq, sList_eq]

def runOpsF (callee : Callee) (cx : Cx) (bb tb : Nat) : List POp → Env → St → Option (Ex × Env × St)
  | [], env, st => sList env fun env => sSt st fun st => some (.normal, env, st)
  | o :: rest, env, st =>
    if wanted env o.guard then
      match stepOp callee cx bb tb env st o.pi with
      | some (.ret v, st') => sAV v fun v => runOpsF callee cx bb tb rest (putE env o.dst v) st'
      | some (.pan v, st') => some (.pan v, env, st')
      | none => none
    else runOpsF callee cx bb tb rest (putE env o.dst undefA) st
theorem runOpsF_eq {callee : Callee} {cx : Cx} {bb tb : Nat} : ∀ (ps : List POp) (env : Env) (st : St), runOpsF callee cx bb tb ps env st = runOps callee cx bb tb ps env st
  | [], env, st => by simp only [runOpsF, runOps, sList_eq, sSt_eq]
  | o :: rest, env, st => by
    simp only [runOpsF, runOps, sAV_eq]
    by_cases hw : wanted env o.guard = true
    · rw [if_pos hw, if_pos hw]
      cases stepOp callee cx bb tb env st o.pi with
      | none => rfl
      | some q =>
        obtain ⟨out, st'⟩ := q
        cases out with
        | ret v => exact runOpsF_eq rest _ _
        | pan v => rfl
    · rw [if_neg hw, if_neg hw]
      exact runOpsF_eq rest _ _

def runDrawF (callee : Callee) (cx : Cx) (bb tb : Nat) (ps : List POp) (env : Env) (st : St) : Option (Ex × Env × St) :=
  match runOpsF callee cx bb tb ps env st with
  | some (.normal, env', st') => if ps.all (fun p => p.re.isNone) || recheck cx bb tb (traceOps callee cx bb tb ps env st) ps 0 then some (.normal, env', st') else none
  | _ => none
def runCF (callee : Callee) (lf : Nat) (cx : Cx) : PC → Env → St → Option (Ex × Env × St)
  | .skip, env, st => some (.normal, env, st)
  | .region rz rt ops draw, env, st => sNat st.boxes.length fun bb => sNat st.toks.length fun tb =>
    if draw then runDrawF callee cx bb tb ops env { boxes := st.boxes ++ rz, toks := st.toks ++ rt, maps := st.maps }
    else runOpsF callee cx bb tb ops env { boxes := st.boxes ++ rz, toks := st.toks ++ rt, maps := st.maps }
  | .seq a b, env, st => match runCF callee lf cx a env st with
    | some (.normal, env', st') => runCF callee lf cx b env' st'
    | r => r
  | .cond c x y, env, st => match c.ev env with
    | .d (.bool true) => runCF callee lf cx x env st
    | .d (.bool false) => runCF callee lf cx y env st
    | _ => none
  | .block id c, env, st => match runCF callee lf cx c env st with
    | some (.exit id', env', st') => if id' = id then some (.normal, env', st') else some (.exit id', env', st')
    | r => r
  | .loop c, env, st => iter (fun e s => runCF callee lf cx c e s) lf env st
  | .exit id, env, st => some (.exit id, env, st)
  | .ret, env, st => some (.ret, env, st)
theorem runCF_eq {callee : Callee} {lf : Nat} {cx : Cx} (c : PC) : ∀ (env : Env) (st : St), runCF callee lf cx c env st = runC callee lf cx c env st := by
  induction c with
  | region rz rt ops draw => intro env st; simp only [runCF, runC, sNat_eq, runDrawF, runDraw, runOpsF_eq]; rfl
  | seq a b iha ihb => intro env st; simp only [runCF, runC, iha, ihb]; rfl
  | cond c a b iha ihb => intro env st; simp only [runCF, runC, iha, ihb]; rfl
  | block id c ih => intro env st; simp only [runCF, runC, ih]; rfl
  | loop c ih => intro env st; simp only [runCF, runC, ih]
  | _ => intro env st; rfl
def runF (giv : Nat → Option (List AV → Cx → St → Option (Out × St))) (tbl : Nat → Option PFn) : Nat → Callee
  | 0, _, _, _, _ => none
  | n + 1, f, args, cx, st => match giv f with
    | some g => g args cx st
    | none => match tbl f with
      | some pf => if args.length ≤ pf.ntmps then leave pf st (runCF (runF giv tbl n) n (cxOf pf cx st) pf.body (enter pf args) st) else none
      | none => none
theorem runF_eq {giv : Nat → Option (List AV → Cx → St → Option (Out × St))} {tbl : Nat → Option PFn} : ∀ n, runF giv tbl n = run giv tbl n
  | 0 => by funext f args cx st; rfl
  | n + 1 => by
    funext f args cx st
    simp only [runF, run, runF_eq n, runCF_eq]
    rfl
end Go.Rf

namespace Go.Rf
open Go.Proofs Go.RowKit
set_option linter.unusedVariables false
set_option linter.unusedSimpArgs false
section
variable {P : Program} {g : Gh} {st : St} {w : World}

theorem over_below {w1 : World} {cx : Cx} (hcx : CxOk cx st) (hs : SR g st w) (he : Below w.heap.size w w1) :
    SR (clean w.heap.size g) st w1 ∧ Ext cx g st w (clean w.heap.size g) st w1 ∧ ∀ b, w.heap.size ≤ b → (clean w.heap.size g).role b = .free := by
  have hall := he.block
  have hx : Ext (cxAll st) g st w g st w1 := by
    refine ⟨he.os, he.tape, he.output, he.size, fun b hb _ => ⟨hall b hb, rfl⟩, ⟨fun _ _ h => h, fun t b sz used h => ⟨b, sz, used, h, .inr ⟨rfl, rfl, rfl, fun cur _ hc => ⟨cur, by rw [hall b (tk_lt hs h)]; exact hc, rfl⟩⟩⟩, fun _ _ h => h, fun b off ⟨h1, h2⟩ => ⟨⟨Nat.lt_of_lt_of_le h1 he.size, h2⟩, fun v hv => ?_⟩⟩,
      fun i b _ h => hall b (bx_lt hs h), fun t x _ h => ⟨hall x.1 (tk_lt hs h), h⟩, fun m r _ h => hall r (mp_lt hs h), fun _ _ => rfl, fun _ _ => rfl, fun _ _ => rfl, Nat.le_refl _, Nat.le_refl _, Nat.le_refl _⟩
    simp only [cellA, World.cell?] at hv ⊢
    rw [hall b h1]; exact hv
  refine ⟨(hs.over hx).1.clean, quiet_ext hcx hs hx, fun b hge => clean_not (fun hreg => ?_) (.inl hge)⟩
  rcases hreg with ⟨i, h⟩ | ⟨t, sz, used, h⟩ | ⟨m, h⟩
  · have := bx_lt hs h; omega
  · have := tk_lt hs h; omega
  · have := mp_lt hs h; omega

theorem callR_below {cx : Cx} {f : Nat} {vs : Array Value} {v : AV} (hs : SR g st w) (hcx : CxOk cx st)
    (h : Calls P f vs w fun e w' => Below w.heap.size w w' ∧ ∃ u, e = .returned u ∧ ∀ g', (∀ b, w.heap.size ≤ b → g'.role b = .free) → VR g' (Safe g' st w') w' v u) : CallR P cx g st w f vs (.ret v) st := by
  refine Calls.mono h fun e w1 ⟨hb, u, he, hv⟩ => ?_
  obtain ⟨q1, q2, q3⟩ := over_below hcx hs hb
  subst he
  exact ⟨clean w.heap.size g, q1, q2, ⟨fun i h _ => ⟨h, rfl⟩, fun i h _ => ⟨h, rfl⟩⟩, hv _ q3⟩

theorem args1 {S : Nat → Nat → Prop} {a : AV} {vs : Array Value} (h : ArgsR g S w [a] vs) : ∃ u, vs = #[u] ∧ VR g S w a u := by
  obtain ⟨h1, h2⟩ := h
  obtain ⟨l⟩ := vs
  match l, h1 with
  | [u], _ => exact ⟨u, rfl, h2 0 a u rfl rfl⟩
theorem args2 {S : Nat → Nat → Prop} {a b : AV} {vs : Array Value} (h : ArgsR g S w [a, b] vs) : ∃ u v, vs = #[u, v] ∧ VR g S w a u ∧ VR g S w b v := by
  obtain ⟨h1, h2⟩ := h
  obtain ⟨l⟩ := vs
  match l, h1 with
  | [u, v], _ => exact ⟨u, v, rfl, h2 0 a u rfl rfl, h2 1 b v rfl rfl⟩
theorem args3 {S : Nat → Nat → Prop} {a b c : AV} {vs : Array Value} (h : ArgsR g S w [a, b, c] vs) : ∃ u v x, vs = #[u, v, x] ∧ VR g S w a u ∧ VR g S w b v ∧ VR g S w c x := by
  obtain ⟨h1, h2⟩ := h
  obtain ⟨l⟩ := vs
  match l, h1 with
  | [u, v, x], _ => exact ⟨u, v, x, rfl, h2 0 a u rfl rfl, h2 1 b v rfl rfl, h2 2 c x rfl rfl⟩
theorem vr_str {S : Nat → Nat → Prop} {l : List Nat} {u : Value} (h : VR g S w (.d (.str l)) u) : ∃ s : ByteArray, u = .string s ∧ s.data.toList.map UInt8.toNat = l := by
  cases h with | d _ _ h => cases h with | str _ s e => exact ⟨s, rfl, e⟩
theorem vr_int {S : Nat → Nat → Prop} {k : IntKind} {n : Int} {u : Value} (h : VR g S w (.d (.int k n)) u) : u = .int k n := by
  cases h with | d _ _ h => cases h; rfl
theorem vr_bool {S : Nat → Nat → Prop} {b : Bool} {u : Value} (h : VR g S w (.d (.bool b)) u) : u = .bool b := by
  cases h with | d _ _ h => cases h; rfl

/-- The rows of a slice value in memory. -/
theorem vr_rows {S : Nat → Nat → Prop} {v : AV} {rows : List (List D)} {u : Value} (h : VR g S w v u) (hr : v.rows = some rows) : DR S w (.sl rows) u := by
  cases h with
  | d x u h =>
    cases x with
    | sl r => simp only [AV.rows, Option.some.injEq] at hr; subst hr; exact h
    | _ => simp [AV.rows] at hr
  | own t r u b sz used h1 h2 h3 h4 => simp only [AV.rows, Option.some.injEq] at hr; subst hr; exact h3
  | nilS => simp only [AV.rows, Option.some.injEq] at hr; subst hr; exact .sl0 none 0
  | _ => simp [AV.rows] at hr
end
end Go.Rf

namespace Go.Rf
open Go.Proofs Go.RowKit
set_option linter.unusedVariables false
set_option linter.unusedSimpArgs false

/-- All that is there is foreign. -/
def ghost0 : Gh := { bx := [], tk := [], mp := [], role := fun _ => .other }
theorem ghost0_sr (w : World) : SR ghost0 st0 w :=
  ⟨rfl, rfl, rfl, fun i b h => by simp [ghost0] at h, fun t b sz used h => by simp [ghost0] at h, fun m r h => by simp [ghost0] at h, fun i b cs h => by simp [ghost0] at h, fun i cs h => by simp [st0] at h, fun t b sz used h => by simp [ghost0] at h, fun m r es h => by simp [ghost0] at h⟩
/-- All that is there may be read. -/
def ghostF : Gh := { bx := [], tk := [], mp := [], role := fun _ => .free }
theorem ghostF_sr (w : World) : SR ghostF st0 w :=
  ⟨rfl, rfl, rfl, fun i b h => by simp [ghostF] at h, fun t b sz used h => by simp [ghostF] at h, fun m r h => by simp [ghostF] at h, fun i b cs h => by simp [ghostF] at h, fun i cs h => by simp [st0] at h, fun t b sz used h => by simp [ghostF] at h, fun m r es h => by simp [ghostF] at h⟩
theorem ghostF_safe {w : World} {b off : Nat} (h : b < w.heap.size) : Safe ghostF st0 w b off := ⟨h, .inl rfl⟩
/-- A law that the interpreter answers true at the empty state. -/
theorem law_calls {P : Program} {callee : Callee} (hcal : CalleeOk P callee) {f : Nat} {args : List AV} {st' : St} (h : callee f args cx0 st0 = some (.ret (.d (.bool true)), st')) {w : World} {vs : Array Value} (ha : ArgsR ghostF (Safe ghostF st0 w) w args vs) :
    Calls P f vs w fun e w' => e = .returned (.bool true) ∧ Below w.heap.size w w' := by
  obtain ⟨-, h2⟩ := hcal f args cx0 st0 _ _ h
  refine Calls.mono (h2 ghostF w vs (ghostF_sr w) ⟨Nat.le_refl _, Nat.le_refl _, Nat.le_refl _⟩ ha) fun e w1 ⟨g1, k1, k2, k3, k4⟩ => ?_
  refine ⟨?_, k2.os, k2.tape, k2.output, k2.size, fun b hb => (k2.free b hb rfl).1⟩
  cases e with
  | returned u =>
    obtain rfl := vr_bool k4
    rfl
  | panicked chain => exact k4.elim
  | outgrown => exact k4.elim

theorem vr_of_str {g : Gh} {S : Nat → Nat → Prop} {w : World} (s : ByteArray) : VR g S w (.d (.str (s.data.toList.map UInt8.toNat))) (.string s) := .d _ _ (.str _ _ rfl)
theorem vr_of_int {g : Gh} {S : Nat → Nat → Prop} {w : World} (k : IntKind) (n : Int) : VR g S w (.d (.int k n)) (.int k n) := .d _ _ (.int _ _)
/-- Lists of cells, one by one. -/
inductive VRs (g : Gh) (S : Nat → Nat → Prop) (w : World) : List AV → List Value → Prop
  | nil : VRs g S w [] []
  | cons {x : AV} {v : Value} {xs : List AV} {vs : List Value} (h : VR g S w x v) (hs : VRs g S w xs vs) : VRs g S w (x :: xs) (v :: vs)
theorem VRs.len {g : Gh} {S : Nat → Nat → Prop} {w : World} {xs : List AV} {vs : List Value} (h : VRs g S w xs vs) : xs.length = vs.length := by
  induction h with
  | nil => rfl
  | cons _ _ ih => simp [ih]
theorem VRs.get {g : Gh} {S : Nat → Nat → Prop} {w : World} {xs : List AV} {vs : List Value} (h : VRs g S w xs vs) : ∀ (i : Nat) c v, xs[i]? = some c → vs[i]? = some v → VR g S w c v := by
  induction h with
  | nil => intro i c v h; simp at h
  | cons h _ ih =>
    intro i c v hc hv
    cases i with
    | zero => simp at hc hv; subst hc; subst hv; exact h
    | succ i => exact ih i c v (by simpa using hc) (by simpa using hv)
theorem VRs.args {g : Gh} {S : Nat → Nat → Prop} {w : World} {xs : List AV} {vs : List Value} (h : VRs g S w xs vs) : ArgsR g S w xs vs.toArray :=
  ⟨by simp [h.len], fun i c v hc hv => h.get i c v hc (by simpa using hv)⟩
theorem VRs.agg {g : Gh} {S : Nat → Nat → Prop} {w : World} {xs : List AV} {vs : List Value} (h : VRs g S w xs vs) (ho : xs.all AV.isOne = true) : VR g S w (.agg xs) (.agg vs.toArray) :=
  .agg _ _ (by simp [h.len]) (fun i c v hc hv => h.get i c v hc (by simpa using hv)) (fun c hc => by rw [List.all_eq_true] at ho; exact ho c hc)
end Go.Rf
