/- Both Distances compute the edit distance, at every state. -/
import Derived.Test.YtojhechepdlnhaaGreatDoorPk
import Derived.Test.YtojhechepdlnhaaGreatDoorDp
import Derived.Test.YtojhechepdlnhaaGreatDoorAwake
import Derived.Test.YtojhechepdlnhaaGreatDoorTx
namespace Go.Rf
set_option maxRecDepth 100000
set_option linter.unusedVariables false
set_option linter.unusedSimpArgs false
theorem toNat1 (x : Nat) : Int.toNat (x : Int) * 1 = x := by simp
theorem min3 (x y z : Nat) : (let m := if (y : Int) < (x : Int) then (y : Int) else (x : Int); if (z : Int) < m then (z : Int) else m) = ((min x (min y z) : Nat) : Int) := by
  simp only
  split <;> split <;> omega
def byt (s : List Nat) (i : Nat) : Nat := s.getD i 0
theorem byt_get {s : List Nat} {i : Nat} (h : i < s.length) : s[i]? = some (byt s i) := by simp [byt, h]
theorem row0 (row : List AV) : (([row] : List (List AV)))[0]? = some row := rfl
theorem und_int (b : Nat) (x : Int) : underL b [.d (.int .i64 x)] = true := rfl
/-- A row of small numbers. -/
abbrev rowN (m : Nat) (f : Nat → Nat) : List AV := rowF m fun i => ((f i : Nat) : Int)
theorem rowN_get {m : Nat} {f : Nat → Nat} {i : Nat} (h : i < m) : (rowN m f)[i]? = some (.d (.int .i64 ((f i : Nat) : Int))) := rowF_get h
theorem rowN_set (m : Nat) (f : Nat → Nat) (i v : Nat) : (rowN m f).set i (.d (.int .i64 ((v : Nat) : Int))) = rowN m (fun k => if k = i then v else f k) := by
  rw [rowF_set]
  exact rowF_congr fun k _ => by by_cases h : k = i <;> simp [h]
theorem rowN_congr {m : Nat} {f g : Nat → Nat} (h : ∀ i, i < m → f i = g i) : rowN m f = rowN m g := rowF_congr fun i hi => by rw [h i hi]

section
variable {callee : Callee} {cx : Cx} {lf : Nat} {T : List (Nat × Nat)} {M : List (List (D × D))} {a b : List Nat}
/-- The inner loop's row: the new distances up to k, the old ones behind. -/
def mid (a b : List Nat) (i k j : Nat) : Nat := if j ≤ k then lv (byt a) (byt b) (i + 1) j else lv (byt a) (byt b) i j
theorem lv_lt (a b : List Nat) {i j : Nat} (hi : i ≤ a.length) (hj : j ≤ b.length) (ha : a.length < 1000000) (hb : b.length < 1000000) : lv (byt a) (byt b) i j < 1000000 := by
  have := lv_le (byt a) (byt b) i j
  omega
theorem inner27 (hcx : cx.b = 0) (ha : a.length < 1000000) (hb : b.length < 1000000) (hlf : b.length < lf) {i : Nat} (hi : i < a.length) (J : Nat → AV) :
    ∃ q' : Env × St, runC callee lf cx (.block 4 (.loop (cO (cB (cR (cR (cR (cR (cB (cL (cR (cR (cO (cB (cR (cL (cR (cR (cR pf27.body)))))))))))))))))))
      (envOf 77 [(0, .d (.str a)), (1, .d (.str b)), (5, .bsl 0 (b.length + 1) true), (7, .d (.int .i64 ((i : Nat) : Int))), (8, .d (.int .i64 ((i : Nat) : Int))), (26, .d (.int .i64 ((List.length a : Nat) : Int))), (27, .d (.int .i64 ((i : Nat) : Int))), (38, .d (.int .i64 ((List.length b : Nat) : Int))), (39, .d (.int .i64 ((0 : Nat) : Int)))] J)
      ⟨[rowN (b.length + 1) (mid a b i 0)], T, M⟩ = some (.normal, q'.1, q'.2) ∧ ∃ J, q' = (envOf 77 [(0, .d (.str a)), (1, .d (.str b)), (5, .bsl 0 (b.length + 1) true), (26, .d (.int .i64 ((List.length a : Nat) : Int))), (27, .d (.int .i64 ((i : Nat) : Int)))] J, ⟨[rowN (b.length + 1) (lv (byt a) (byt b) (i + 1))], T, M⟩) := by
  refine loop_inv (m := b.length)
    (fun k q => ∃ J, q = (envOf 77 [(0, .d (.str a)), (1, .d (.str b)), (5, .bsl 0 (b.length + 1) true), (7, .d (.int .i64 ((i : Nat) : Int))), (8, .d (.int .i64 ((lv (byt a) (byt b) i k : Nat) : Int))), (26, .d (.int .i64 ((List.length a : Nat) : Int))), (27, .d (.int .i64 ((i : Nat) : Int))), (38, .d (.int .i64 ((List.length b : Nat) : Int))), (39, .d (.int .i64 ((k : Nat) : Int)))] J,
      ⟨[rowN (b.length + 1) (mid a b i k)], T, M⟩))
    _ hlf (fun k q hk ⟨J, hq⟩ => ?_) (fun q ⟨J, hq⟩ => ?_) ⟨J, by rw [lv_z']⟩
  · subst hq
    have w1 := lv_lt a b (i := i) (j := k) (by omega) (by omega) ha hb
    have w2 := lv_lt a b (i := i) (j := k + 1) (by omega) (by omega) ha hb
    have w3 := lv_lt a b (i := i + 1) (j := k) (by omega) (by omega) ha hb
    have g1 : (rowN (b.length + 1) (mid a b i k))[k + 1]? = some (.d (.int .i64 ((lv (byt a) (byt b) i (k + 1) : Nat) : Int))) := by
      rw [rowN_get (by omega)]; simp [mid, show ¬ (k + 1 ≤ k) by omega]
    have g0 : (rowN (b.length + 1) (mid a b i k))[k]? = some (.d (.int .i64 ((lv (byt a) (byt b) (i + 1) k : Nat) : Int))) := by
      rw [rowN_get (by omega)]; simp [mid]
    have ga : a[i]? = some (byt a i) := byt_get hi
    have gb : b[k]? = some (byt b k) := byt_get hk
    have fin : ∀ d, d = lv (byt a) (byt b) (i + 1) (k + 1) → (rowN (b.length + 1) (mid a b i k)).set (k + 1) (.d (.int .i64 ((d : Nat) : Int))) = rowN (b.length + 1) (mid a b i (k + 1)) := by
      intro d hd
      rw [rowN_set]
      refine rowN_congr fun j hj => ?_
      by_cases h : j = k + 1
      · subst h; rw [if_pos rfl, hd]; simp [mid]
      · rw [if_neg h]; unfold mid
        by_cases h2 : j ≤ k
        · rw [if_pos h2, if_pos (by omega)]
        · rw [if_neg h2, if_neg (by omega)]
    by_cases he : byt a i = byt b k
    · have h := d27_geq (callee := callee) (cx := cx) J a b T M (b.length + 1) (rowN (b.length + 1) (mid a b i k)) i k ((lv (byt a) (byt b) i k : Nat) : Int) ((lv (byt a) (byt b) i (k + 1) : Nat) : Int) ((lv (byt a) (byt b) (i + 1) k : Nat) : Int) (byt a i) (byt b k)
      rw [wrapN (by omega), wrapN (by omega), wrapN (by omega), toNat1, toNat1, min3, fin _ (by rw [lv_s, if_pos he]; omega)] at h
      obtain ⟨J', hr⟩ := h_run (lf := lf) h (by
        simp only [POk_cons, POk_nil, and_true, row0, Option.some.injEq, exists_eq_left', rowF_len, g1, g0, und_int, hcx, Int.toNat_natCast, ga, gb]
        simp [he]
        omega)
      exact ⟨_, hr, J', rfl⟩
    · have h := d27_gne (callee := callee) (cx := cx) J a b T M (b.length + 1) (rowN (b.length + 1) (mid a b i k)) i k ((lv (byt a) (byt b) i k : Nat) : Int) ((lv (byt a) (byt b) i (k + 1) : Nat) : Int) ((lv (byt a) (byt b) (i + 1) k : Nat) : Int) (byt a i) (byt b k)
      rw [wrapN (by omega), wrapN (by omega), wrapN (by omega), wrapN (by omega), toNat1, toNat1, min3, fin _ (by rw [lv_s, if_neg he])] at h
      obtain ⟨J', hr⟩ := h_run (lf := lf) h (by
        simp only [POk_cons, POk_nil, and_true, row0, Option.some.injEq, exists_eq_left', rowF_len, g1, g0, und_int, hcx, Int.toNat_natCast, ga, gb]
        simp [he]
        omega)
      exact ⟨_, hr, J', rfl⟩
  · subst hq
    have hmid : rowN (b.length + 1) (mid a b i b.length) = rowN (b.length + 1) (lv (byt a) (byt b) (i + 1)) := rowN_congr fun j hj => by unfold mid; rw [if_pos (by omega)]
    obtain ⟨J', hr⟩ := h_run (lf := lf) (d27_go (callee := callee) (cx := cx) J a b T M (b.length + 1) (rowN (b.length + 1) (mid a b i b.length)) i b.length ((lv (byt a) (byt b) i b.length : Nat) : Int)) (by simp only [POk_cons, POk_nil, and_true]; simp)
    rw [hmid] at hr
    exact ⟨_, by rw [hmid]; exact hr, J', rfl⟩

theorem init27 (hcx : cx.b = 0) (hb : b.length < 1000000) (hlf : b.length + 1 < lf) (J : Nat → AV) :
    ∃ q' : Env × St, runC callee lf cx (.block 0 (.loop (cO (cB (cR (cL (cR (cR pf27.body)))))))) (envOf 77 [(0, .d (.str a)), (1, .d (.str b)), (5, .bsl 0 (b.length + 1) true), (16, .d (.int .i64 ((b.length + 1 : Nat) : Int))), (17, .d (.int .i64 ((0 : Nat) : Int)))] J)
      ⟨[rowN (b.length + 1) (fun _ => 0)], T, M⟩ = some (.normal, q'.1, q'.2) ∧ ∃ J, q' = (envOf 77 [(0, .d (.str a)), (1, .d (.str b)), (5, .bsl 0 (b.length + 1) true)] J, ⟨[rowN (b.length + 1) (lv (byt a) (byt b) 0)], T, M⟩) := by
  refine loop_inv (m := b.length + 1)
    (fun k q => ∃ J, q = (envOf 77 [(0, .d (.str a)), (1, .d (.str b)), (5, .bsl 0 (b.length + 1) true), (16, .d (.int .i64 ((b.length + 1 : Nat) : Int))), (17, .d (.int .i64 ((k : Nat) : Int)))] J, ⟨[rowN (b.length + 1) (fun j => if j < k then j else 0)], T, M⟩))
    _ hlf (fun k q hk ⟨J, hq⟩ => ?_) (fun q ⟨J, hq⟩ => ?_) ⟨J, by simp⟩
  · subst hq
    have h := d27_d (callee := callee) (cx := cx) J a b T M (b.length + 1) (rowN (b.length + 1) (fun j => if j < k then j else 0)) k
    rw [wrapN (by omega), toNat1, rowN_set] at h
    obtain ⟨J', hr⟩ := h_run (lf := lf) h (by
      simp only [POk_cons, POk_nil, and_true, row0, rowF_len, und_int, hcx]
      simp
      omega)
    refine ⟨(_, _), hr, J', ?_⟩
    have : rowN (b.length + 1) (fun j => if j = k then k else if j < k then j else 0) = rowN (b.length + 1) (fun j => if j < k + 1 then j else 0) := rowN_congr fun j hj => by split <;> (try split) <;> (try split) <;> omega
    exact congrArg (fun r => (_, (⟨[r], T, M⟩ : St))) this
  · subst hq
    obtain ⟨J', hr⟩ := h_run (lf := lf) (d27_do (callee := callee) (cx := cx) J a b T M (b.length + 1) (rowN (b.length + 1) (fun j => if j < b.length + 1 then j else 0)) (b.length + 1)) (by simp only [POk_cons, POk_nil, and_true]; simp)
    refine ⟨(_, _), hr, J', ?_⟩
    have : rowN (b.length + 1) (fun j => if j < b.length + 1 then j else 0) = rowN (b.length + 1) (lv (byt a) (byt b) 0) := rowN_congr fun j hj => by rw [if_pos hj, lv_z]
    exact congrArg (fun r => (_, (⟨[r], T, M⟩ : St))) this
theorem shape27 : pf27.body = .seq (cL pf27.body) (.seq (cL (cR pf27.body)) (.seq (.seq (cL (cL (cR (cR pf27.body)))) (.block 0 (.loop (cO (cB (cR (cL (cR (cR pf27.body))))))))) (.seq (.seq (cL (cL (cR (cR (cR pf27.body))))) (.block 2 (.loop (cO (cB (cR (cL (cR (cR (cR pf27.body)))))))))) (.seq (cL (cR (cR (cR (cR pf27.body))))) .ret)))) := rfl
theorem shape27b : (cO (cB (cR (cL (cR (cR (cR pf27.body))))))) = .seq (cL (cO (cB (cR (cL (cR (cR (cR pf27.body)))))))) (.seq (.cond (.t 28) .skip (.exit 2)) (.seq (.block 3 (.seq (cL (cB (cL (cR (cR (cO (cB (cR (cL (cR (cR (cR pf27.body)))))))))))) (.seq (cL (cR (cB (cL (cR (cR (cO (cB (cR (cL (cR (cR (cR pf27.body))))))))))))) (.seq (cL (cR (cR (cB (cL (cR (cR (cO (cB (cR (cL (cR (cR (cR pf27.body)))))))))))))) (.seq (cL (cR (cR (cR (cB (cL (cR (cR (cO (cB (cR (cL (cR (cR (cR pf27.body))))))))))))))) (.block 4 (.loop (cO (cB (cR (cR (cR (cR (cB (cL (cR (cR (cO (cB (cR (cL (cR (cR (cR pf27.body)))))))))))))))))))))))) (cR (cR (cR (cO (cB (cR (cL (cR (cR (cR pf27.body)))))))))))) := rfl
theorem outer27 (hcx : cx.b = 0) (ha : a.length < 1000000) (hb : b.length < 1000000) (hlfa : a.length < lf) (hlf : b.length < lf) (J : Nat → AV) :
    ∃ q' : Env × St, runC callee lf cx (.block 2 (.loop (cO (cB (cR (cL (cR (cR (cR pf27.body))))))))) (envOf 77 [(0, .d (.str a)), (1, .d (.str b)), (5, .bsl 0 (b.length + 1) true), (26, .d (.int .i64 ((List.length a : Nat) : Int))), (27, .d (.int .i64 ((0 : Nat) : Int)))] J)
      ⟨[rowN (b.length + 1) (lv (byt a) (byt b) 0)], T, M⟩ = some (.normal, q'.1, q'.2) ∧ ∃ J, q' = (envOf 77 [(0, .d (.str a)), (1, .d (.str b)), (5, .bsl 0 (b.length + 1) true), (26, .d (.int .i64 ((List.length a : Nat) : Int))), (27, .d (.int .i64 ((a.length : Nat) : Int))), (28, .d (.bool false))] J, ⟨[rowN (b.length + 1) (lv (byt a) (byt b) a.length)], T, M⟩) := by
  refine loop_inv (m := a.length)
    (fun i q => ∃ J, q = (envOf 77 [(0, .d (.str a)), (1, .d (.str b)), (5, .bsl 0 (b.length + 1) true), (26, .d (.int .i64 ((List.length a : Nat) : Int))), (27, .d (.int .i64 ((i : Nat) : Int)))] J, ⟨[rowN (b.length + 1) (lv (byt a) (byt b) i)], T, M⟩))
    _ hlfa (fun i q hi ⟨J, hq⟩ => ?_) (fun q ⟨J, hq⟩ => ?_) ⟨J, rfl⟩
  · subst hq
    have w1 := lv_lt a b (i := i) (j := 0) (by omega) (by omega) ha hb
    obtain ⟨J1, r1⟩ := h_run (lf := lf) (d27_f1 (callee := callee) (cx := cx) J a b T M (b.length + 1) (rowN (b.length + 1) (lv (byt a) (byt b) i)) i) (by simp only [POk_cons, POk_nil, and_true]; simp; omega)
    have e1 : envOf 77 [(0, .d (.str a)), (1, .d (.str b)), (5, .bsl 0 (b.length + 1) true), (26, .d (.int .i64 ((List.length a : Nat) : Int))), (27, .d (.int .i64 ((i : Nat) : Int))), (28, .d (.bool true))] J1 = envOf 77 [(0, .d (.str a)), (1, .d (.str b)), (5, .bsl 0 (b.length + 1) true), (26, .d (.int .i64 ((List.length a : Nat) : Int))), (27, .d (.int .i64 ((i : Nat) : Int)))] (fun i => if i = 28 then .d (.bool true) else J1 i) := rfl
    obtain ⟨J2, r2⟩ := h_run (lf := lf) (d27_f3 (callee := callee) (cx := cx) (fun i => if i = 28 then .d (.bool true) else J1 i) a b T M (b.length + 1) (rowN (b.length + 1) (lv (byt a) (byt b) i)) i) POk.nil
    have g0 : (rowN (b.length + 1) (lv (byt a) (byt b) i))[0]? = some (.d (.int .i64 ((i : Nat) : Int))) := by rw [rowN_get (by omega), lv_z']
    obtain ⟨J3, r3⟩ := h_run (lf := lf) (d27_f4 (callee := callee) (cx := cx) J2 a b T M (b.length + 1) (rowN (b.length + 1) (lv (byt a) (byt b) i)) i ((i : Nat) : Int)) (by
      simp only [POk_cons, POk_nil, and_true, row0, Option.some.injEq, exists_eq_left']
      exact ⟨g0, by omega, by omega⟩)
    have h4 := d27_f5 (callee := callee) (cx := cx) J3 a b T M (b.length + 1) (rowN (b.length + 1) (lv (byt a) (byt b) i)) i ((i : Nat) : Int)
    have hset : (rowN (b.length + 1) (lv (byt a) (byt b) i)).set (Int.toNat 0 * 1) (.d (.int .i64 ((i + 1 : Nat) : Int))) = rowN (b.length + 1) (mid a b i 0) := by
      show (rowN (b.length + 1) (lv (byt a) (byt b) i)).set 0 _ = _
      rw [rowN_set]
      refine rowN_congr fun j hj => ?_
      unfold mid
      by_cases h : j = 0
      · subst h; simp [lv_z']
      · rw [if_neg h, if_neg (by omega)]
    rw [wrapN (by omega), hset] at h4
    obtain ⟨J4, r4⟩ := h_run (lf := lf) h4 (by
      simp only [POk_cons, POk_nil, and_true, row0, rowF_len, und_int, hcx]
      simp)
    obtain ⟨J5, r5⟩ := h_run (lf := lf) (d27_f6 (callee := callee) (cx := cx) J4 a b T M (b.length + 1) (rowN (b.length + 1) (mid a b i 0)) i ((i : Nat) : Int)) POk.nil
    obtain ⟨q6, r6, J6, hq6⟩ := inner27 (callee := callee) (T := T) (M := M) hcx ha hb hlf hi J5
    subst hq6
    have h7 := d27_f7 (callee := callee) (cx := cx) J6 a b T M (b.length + 1) (rowN (b.length + 1) (lv (byt a) (byt b) (i + 1))) i
    rw [wrapN (by omega)] at h7
    obtain ⟨J7, r7⟩ := h_run (lf := lf) h7 POk.nil
    refine ⟨(_, _), ?_, J7, rfl⟩
    rw [shape27b]
    refine run_seq r1 (run_seq (by rw [cond_t (by rfl)]; rfl) (run_seq (run_block (run_seq ?_ (run_seq r3 (run_seq r4 (run_seq r5 r6))))) r7))
    rw [e1]; exact r2
  · subst hq
    obtain ⟨J1, r1⟩ := h_run (lf := lf) (d27_f1o (callee := callee) (cx := cx) J a b T M (b.length + 1) (rowN (b.length + 1) (lv (byt a) (byt b) a.length)) a.length) (by simp only [POk_cons, POk_nil, and_true]; simp)
    refine ⟨(_, _), ?_, J1, rfl⟩
    rw [shape27b]
    refine run_seq r1 (run_stop (ex := .exit 2) ?_ (by simp))
    rw [cond_f (by rfl)]; rfl
theorem run27 {giv : Nat → Option (List AV → Cx → St → Option (Out × St))} {tb : Nat → Option PFn} {n : Nat} (hg : giv 27 = none) (ht : tb 27 = some pf27) (ha : a.length < 1000000) (hb : b.length < 1000000) (hn : a.length < n) (hn2 : b.length + 1 < n) (cx : Cx) :
    run giv tb (n + 1) 27 [.d (.str a), .d (.str b)] cx ⟨[], T, M⟩ = some (.ret (.d (.int .i64 ((lv (byt a) (byt b) a.length b.length : Nat) : Int))), ⟨[], T, M⟩) := by
  have hrun : run giv tb (n + 1) 27 [.d (.str a), .d (.str b)] cx ⟨[], T, M⟩ = leave pf27 ⟨[], T, M⟩ (runC (run giv tb n) n ⟨0, T.length, M.length⟩ pf27.body (envOf 77 [(0, .d (.str a)), (1, .d (.str b))] (fun _ => undefA)) ⟨[], T, M⟩) := by
    simp only [run, hg, ht]; rfl
  rw [hrun]
  have hcx : (⟨0, T.length, M.length⟩ : Cx).b = 0 := rfl
  generalize (⟨0, T.length, M.length⟩ : Cx) = cx' at *
  obtain ⟨J1, r1⟩ := h_run (lf := n) (d27_a (callee := run giv tb n) (cx := cx') (fun _ => undefA) a b T M) POk.nil
  have h2 := d27_b (callee := run giv tb n) (cx := cx') J1 a b T M
  rw [wrapN (by omega), Int.toNat_natCast, rowF_zero] at h2
  obtain ⟨J2, r2⟩ := h_run (lf := n) h2 (by
    simp only [POk_cons, POk_nil, and_true, maxBytes]
    omega)
  obtain ⟨J3, r3⟩ := h_run (lf := n) (d27_c (callee := run giv tb n) (cx := cx') J2 a b T M (b.length + 1) (rowN (b.length + 1) (fun _ => 0))) POk.nil
  obtain ⟨q4, r4, J4, hq4⟩ := init27 (callee := run giv tb n) (T := T) (M := M) (a := a) hcx hb hn2 J3
  subst hq4
  obtain ⟨J5, r5⟩ := h_run (lf := n) (d27_e (callee := run giv tb n) (cx := cx') J4 a b T M (b.length + 1) (rowN (b.length + 1) (lv (byt a) (byt b) 0))) POk.nil
  obtain ⟨q6, r6, J6, hq6⟩ := outer27 (callee := run giv tb n) (T := T) (M := M) hcx ha hb hn (by omega) J5
  subst hq6
  have g0 : (rowN (b.length + 1) (lv (byt a) (byt b) a.length))[b.length]? = some (.d (.int .i64 ((lv (byt a) (byt b) a.length b.length : Nat) : Int))) := rowN_get (by omega)
  obtain ⟨J7, r7⟩ := h_run (lf := n) (d27_h (callee := run giv tb n) (cx := cx') (fun i => if i = 26 then .d (.int .i64 ((List.length a : Nat) : Int)) else if i = 27 then .d (.int .i64 ((a.length : Nat) : Int)) else if i = 28 then .d (.bool false) else J6 i) a b T M (b.length + 1) (rowN (b.length + 1) (lv (byt a) (byt b) a.length)) ((lv (byt a) (byt b) a.length b.length : Nat) : Int)) (by
    simp only [POk_cons, POk_nil, and_true, row0, Option.some.injEq, exists_eq_left', toNat1]
    exact ⟨g0, by omega, by omega⟩)
  rw [shape27]
  refine (congrArg (leave pf27 ⟨[], T, M⟩) (run_seq r1 (run_seq r2 (run_seq (run_seq r3 r4) (run_seq (run_seq r5 r6) (run_seq r7 rfl)))))).trans rfl
end
end Go.Rf

namespace Go.Rf
set_option maxRecDepth 100000
set_option linter.unusedVariables false
set_option linter.unusedSimpArgs false
section
variable {callee : Callee} {cx : Cx} {lf : Nat} {T : List (Nat × Nat)} {M : List (List (D × D))} {a b : List Nat}
theorem shape28 : pf28.body = .seq (cL pf28.body) (.seq (cL (cR pf28.body)) (.seq (.seq (cL (cL (cR (cR pf28.body)))) (.block 0 (.loop (cO (cB (cR (cL (cR (cR pf28.body))))))))) (.seq (.seq (cL (cL (cR (cR (cR pf28.body))))) (.block 2 (.loop (cO (cB (cR (cL (cR (cR (cR pf28.body)))))))))) (.seq (cL (cR (cR (cR (cR pf28.body))))) .ret)))) := rfl
theorem shape28b : (cO (cB (cR (cL (cR (cR (cR pf28.body))))))) = .seq (.seq (cL (cL (cO (cB (cR (cL (cR (cR (cR pf28.body))))))))) (.cond (.t 28) .skip (.exit 2))) (.seq (.block 3 (.seq (cL (cB (cL (cR (cO (cB (cR (cL (cR (cR (cR pf28.body))))))))))) (.seq (cL (cR (cB (cL (cR (cO (cB (cR (cL (cR (cR (cR pf28.body)))))))))))) (.seq (.seq (cL (cL (cR (cR (cB (cL (cR (cO (cB (cR (cL (cR (cR (cR pf28.body)))))))))))))) (.block 4 (.loop (cO (cB (cR (cL (cR (cR (cB (cL (cR (cO (cB (cR (cL (cR (cR (cR pf28.body))))))))))))))))))) (cR (cR (cR (cB (cL (cR (cO (cB (cR (cL (cR (cR (cR pf28.body))))))))))))))))) (cR (cR (cO (cB (cR (cL (cR (cR (cR pf28.body)))))))))) := rfl
/-- The inner loop's row: the new distances up to k. -/
def nxt (a b : List Nat) (i k j : Nat) : Nat := if j ≤ k then lv (byt a) (byt b) (i + 1) j else 0
theorem inner28 (hcx : cx.b = 0) (ha : a.length < 1000000) (hb : b.length < 1000000) (hlf : b.length < lf) {i0 n n2 : Nat} (hi : i0 < a.length) (hne : n ≠ n2) (J : Nat → AV) (B : List (List AV)) (h1 : B[n]? = some (rowN (b.length + 1) (lv (byt a) (byt b) i0))) (h2 : B[n2]? = some (rowN (b.length + 1) (nxt a b i0 0))) :
    ∃ q' : Env × St, runC callee lf cx (.block 4 (.loop (cO (cB (cR (cL (cR (cR (cB (cL (cR (cO (cB (cR (cL (cR (cR (cR pf28.body)))))))))))))))))) (envOf 82 [(0, .d (.str a)), (1, .d (.str b)), (5, .bsl n (b.length + 1) true), (7, .d (.int .i64 ((i0 + 1 : Nat) : Int))), (8, .bsl n2 (b.length + 1) true), (9, .d (.int .i64 ((0 + 1 : Nat) : Int)))] J) ⟨B, T, M⟩ = some (.normal, q'.1, q'.2) ∧
      ∃ J B', q' = (envOf 82 [(0, .d (.str a)), (1, .d (.str b)), (5, .bsl n (b.length + 1) true), (7, .d (.int .i64 ((i0 + 1 : Nat) : Int))), (8, .bsl n2 (b.length + 1) true)] J, ⟨B', T, M⟩) ∧ B'[n2]? = some (rowN (b.length + 1) (lv (byt a) (byt b) (i0 + 1))) := by
  refine loop_inv (m := b.length)
    (fun k q => ∃ J B, q = (envOf 82 [(0, .d (.str a)), (1, .d (.str b)), (5, .bsl n (b.length + 1) true), (7, .d (.int .i64 ((i0 + 1 : Nat) : Int))), (8, .bsl n2 (b.length + 1) true), (9, .d (.int .i64 ((k + 1 : Nat) : Int)))] J, ⟨B, T, M⟩) ∧ B[n]? = some (rowN (b.length + 1) (lv (byt a) (byt b) i0)) ∧ B[n2]? = some (rowN (b.length + 1) (nxt a b i0 k)))
    _ hlf (fun k q hk ⟨J, B, hq, g1, g2⟩ => ?_) (fun q ⟨J, B, hq, g1, g2⟩ => ?_) ⟨J, B, rfl, h1, h2⟩
  · subst hq
    have w1 := lv_lt a b (i := i0) (j := k) (by omega) (by omega) ha hb
    have w2 := lv_lt a b (i := i0) (j := k + 1) (by omega) (by omega) ha hb
    have w3 := lv_lt a b (i := i0 + 1) (j := k) (by omega) (by omega) ha hb
    have ga : a[i0]? = some (byt a i0) := byt_get hi
    have gb : b[k]? = some (byt b k) := byt_get hk
    have r0 : (rowN (b.length + 1) (lv (byt a) (byt b) i0))[k]? = some (.d (.int .i64 ((lv (byt a) (byt b) i0 k : Nat) : Int))) := rowN_get (by omega)
    have r1 : (rowN (b.length + 1) (lv (byt a) (byt b) i0))[k + 1]? = some (.d (.int .i64 ((lv (byt a) (byt b) i0 (k + 1) : Nat) : Int))) := rowN_get (by omega)
    have r2 : (rowN (b.length + 1) (nxt a b i0 k))[k]? = some (.d (.int .i64 ((lv (byt a) (byt b) (i0 + 1) k : Nat) : Int))) := by rw [rowN_get (by omega)]; simp [nxt]
    have e1 : k + 1 - 1 = k := by omega
    have e2 : i0 + 1 - 1 = i0 := by omega
    have fin : ∀ d, d = lv (byt a) (byt b) (i0 + 1) (k + 1) → (rowN (b.length + 1) (nxt a b i0 k)).set (k + 1) (.d (.int .i64 ((d : Nat) : Int))) = rowN (b.length + 1) (nxt a b i0 (k + 1)) := by
      intro d hd
      rw [rowN_set]
      refine rowN_congr fun j hj => ?_
      by_cases h : j = k + 1
      · subst h; rw [if_pos rfl, hd]; simp [nxt]
      · rw [if_neg h]; unfold nxt
        by_cases h2 : j ≤ k
        · rw [if_pos h2, if_pos (by omega)]
        · rw [if_neg h2, if_neg (by omega)]
    have hn2 : n2 < B.length := (List.getElem?_eq_some_iff.1 g2).1
    by_cases he : byt a i0 = byt b k
    · have h := d28_geq (callee := callee) (cx := cx) J a b T M (b.length + 1) B n (i0 + 1) n2 (rowN (b.length + 1) (nxt a b i0 k)) (k + 1) ((lv (byt a) (byt b) i0 k : Nat) : Int) ((lv (byt a) (byt b) i0 (k + 1) : Nat) : Int) ((lv (byt a) (byt b) (i0 + 1) k : Nat) : Int) (byt a i0) (byt b k)
      rw [wrapN (by omega), wrapN (by omega), wrapN (by omega), wrapP (by omega) (by omega), wrapP (by omega) (by omega), toNat1, min3, fin _ (by rw [lv_s, if_pos he]; omega)] at h
      obtain ⟨J', hr⟩ := h_run (lf := lf) h (by
        simp only [POk_cons, POk_nil, and_true, g1, g2, Option.some.injEq, exists_eq_left', rowF_len, und_int, hcx, Int.toNat_natCast, Nat.mul_one, e1, e2, ga, gb, r0, r1, r2]
        simp [he]
        omega)
      exact ⟨_, hr, J', _, rfl, by rw [List.getElem?_set_ne (Ne.symm hne)]; exact g1, by rw [List.getElem?_set_self hn2]⟩
    · have h := d28_gne (callee := callee) (cx := cx) J a b T M (b.length + 1) B n (i0 + 1) n2 (rowN (b.length + 1) (nxt a b i0 k)) (k + 1) ((lv (byt a) (byt b) i0 k : Nat) : Int) ((lv (byt a) (byt b) i0 (k + 1) : Nat) : Int) ((lv (byt a) (byt b) (i0 + 1) k : Nat) : Int) (byt a i0) (byt b k)
      rw [wrapN (by omega), wrapN (by omega), wrapN (by omega), wrapN (by omega), wrapP (by omega) (by omega), wrapP (by omega) (by omega), toNat1, min3, fin _ (by rw [lv_s, if_neg he])] at h
      obtain ⟨J', hr⟩ := h_run (lf := lf) h (by
        simp only [POk_cons, POk_nil, and_true, g1, g2, Option.some.injEq, exists_eq_left', rowF_len, und_int, hcx, Int.toNat_natCast, Nat.mul_one, e1, e2, ga, gb, r0, r1, r2]
        simp [he]
        omega)
      exact ⟨_, hr, J', _, rfl, by rw [List.getElem?_set_ne (Ne.symm hne)]; exact g1, by rw [List.getElem?_set_self hn2]⟩
  · subst hq
    have hmid : rowN (b.length + 1) (nxt a b i0 b.length) = rowN (b.length + 1) (lv (byt a) (byt b) (i0 + 1)) := rowN_congr fun j hj => by unfold nxt; rw [if_pos (by omega)]
    obtain ⟨J', hr⟩ := h_run (lf := lf) (d28_go (callee := callee) (cx := cx) J a b T M (b.length + 1) B n (i0 + 1) n2 [] (b.length + 1)) (by simp only [POk_cons, POk_nil, and_true]; simp; omega)
    exact ⟨(_, _), hr, J', B, rfl, by rw [← hmid]; exact g2⟩
theorem init28 (hcx : cx.b = 0) (hb : b.length < 1000000) (hlf : b.length + 1 < lf) (J : Nat → AV) :
    ∃ q' : Env × St, runC callee lf cx (.block 0 (.loop (cO (cB (cR (cL (cR (cR pf28.body)))))))) (envOf 82 [(0, .d (.str a)), (1, .d (.str b)), (5, .bsl 0 (b.length + 1) true), (6, .d (.int .i64 ((0 : Nat) : Int)))] J)
      ⟨[rowN (b.length + 1) (fun _ => 0)], T, M⟩ = some (.normal, q'.1, q'.2) ∧ ∃ J, q' = (envOf 82 [(0, .d (.str a)), (1, .d (.str b)), (5, .bsl 0 (b.length + 1) true)] J, ⟨[rowN (b.length + 1) (lv (byt a) (byt b) 0)], T, M⟩) := by
  refine loop_inv (m := b.length + 1)
    (fun k q => ∃ J, q = (envOf 82 [(0, .d (.str a)), (1, .d (.str b)), (5, .bsl 0 (b.length + 1) true), (6, .d (.int .i64 ((k : Nat) : Int)))] J, ⟨[rowN (b.length + 1) (fun j => if j < k then j else 0)], T, M⟩))
    _ hlf (fun k q hk ⟨J, hq⟩ => ?_) (fun q ⟨J, hq⟩ => ?_) ⟨J, by simp⟩
  · subst hq
    have h := d28_d (callee := callee) (cx := cx) J a b T M (b.length + 1) (rowN (b.length + 1) (fun j => if j < k then j else 0)) k
    rw [wrapN (by omega), toNat1, rowN_set] at h
    obtain ⟨J', hr⟩ := h_run (lf := lf) h (by
      simp only [POk_cons, POk_nil, and_true, row0, rowF_len, und_int, hcx]
      simp
      omega)
    refine ⟨(_, _), hr, J', ?_⟩
    have : rowN (b.length + 1) (fun j => if j = k then k else if j < k then j else 0) = rowN (b.length + 1) (fun j => if j < k + 1 then j else 0) := rowN_congr fun j hj => by split <;> (try split) <;> (try split) <;> omega
    exact congrArg (fun r => (_, (⟨[r], T, M⟩ : St))) this
  · subst hq
    obtain ⟨J', hr⟩ := h_run (lf := lf) (d28_do (callee := callee) (cx := cx) J a b T M (b.length + 1) (rowN (b.length + 1) (fun j => if j < b.length + 1 then j else 0)) (b.length + 1)) (by simp only [POk_cons, POk_nil, and_true]; simp; omega)
    refine ⟨(_, _), hr, J', ?_⟩
    have : rowN (b.length + 1) (fun j => if j < b.length + 1 then j else 0) = rowN (b.length + 1) (lv (byt a) (byt b) 0) := rowN_congr fun j hj => by rw [if_pos hj, lv_z]
    exact congrArg (fun r => (_, (⟨[r], T, M⟩ : St))) this
theorem outer28 (hcx : cx.b = 0) (ha : a.length < 1000000) (hb : b.length < 1000000) (hlfa : a.length < lf) (hlf : b.length < lf) (J : Nat → AV) :
    ∃ q' : Env × St, runC callee lf cx (.block 2 (.loop (cO (cB (cR (cL (cR (cR (cR pf28.body))))))))) (envOf 82 [(0, .d (.str a)), (1, .d (.str b)), (5, .bsl 0 (b.length + 1) true), (7, .d (.int .i64 ((0 + 1 : Nat) : Int)))] J) ⟨[rowN (b.length + 1) (lv (byt a) (byt b) 0)], T, M⟩ = some (.normal, q'.1, q'.2) ∧
      ∃ J B n, q' = (envOf 82 [(0, .d (.str a)), (1, .d (.str b)), (5, .bsl n (b.length + 1) true)] J, ⟨B, T, M⟩) ∧ B[n]? = some (rowN (b.length + 1) (lv (byt a) (byt b) a.length)) := by
  refine loop_inv (m := a.length)
    (fun i0 q => ∃ J B n, q = (envOf 82 [(0, .d (.str a)), (1, .d (.str b)), (5, .bsl n (b.length + 1) true), (7, .d (.int .i64 ((i0 + 1 : Nat) : Int)))] J, ⟨B, T, M⟩) ∧ B[n]? = some (rowN (b.length + 1) (lv (byt a) (byt b) i0)))
    _ hlfa (fun i0 q hi ⟨J, B, n, hq, g1⟩ => ?_) (fun q ⟨J, B, n, hq, g1⟩ => ?_) ⟨J, _, 0, rfl, rfl⟩
  · subst hq
    have hnB : n < B.length := (List.getElem?_eq_some_iff.1 g1).1
    obtain ⟨J1, r1⟩ := h_run (lf := lf) (d28_f1 (callee := callee) (cx := cx) J a b T M (b.length + 1) B n (i0 + 1)) (by simp only [POk_cons, POk_nil, and_true]; simp; omega)
    have e1 : envOf 82 [(0, .d (.str a)), (1, .d (.str b)), (5, .bsl n (b.length + 1) true), (7, .d (.int .i64 ((i0 + 1 : Nat) : Int))), (28, .d (.bool true))] J1 = envOf 82 [(0, .d (.str a)), (1, .d (.str b)), (5, .bsl n (b.length + 1) true), (7, .d (.int .i64 ((i0 + 1 : Nat) : Int)))] (fun i => if i = 28 then .d (.bool true) else J1 i) := rfl
    have h2 := d28_f3 (callee := callee) (cx := cx) (fun i => if i = 28 then .d (.bool true) else J1 i) a b T M (b.length + 1) B n (i0 + 1)
    rw [wrapN (by omega), Int.toNat_natCast, rowF_zero] at h2
    obtain ⟨J2, r2⟩ := h_run (lf := lf) h2 (by
      simp only [POk_cons, POk_nil, and_true, maxBytes]
      omega)
    have g2 : (B ++ [rowF (b.length + 1) (fun _ => 0)])[B.length]? = some (rowN (b.length + 1) (fun _ => 0)) := by
      show (B ++ [rowF (b.length + 1) (fun _ => 0)])[B.length]? = some (rowF (b.length + 1) (fun _ => 0))
      simp
    have h3 := d28_f4 (callee := callee) (cx := cx) J2 a b T M (b.length + 1) (B ++ [rowF (b.length + 1) (fun _ => 0)]) n (i0 + 1) B.length (rowN (b.length + 1) (fun _ => 0))
    have hset : (rowN (b.length + 1) (fun _ => 0)).set (Int.toNat 0 * 1) (.d (.int .i64 ((i0 + 1 : Nat) : Int))) = rowN (b.length + 1) (nxt a b i0 0) := by
      show (rowN (b.length + 1) (fun _ => 0)).set 0 _ = _
      rw [rowN_set]
      refine rowN_congr fun j hj => ?_
      unfold nxt
      by_cases h : j = 0
      · subst h; simp [lv_z']
      · rw [if_neg h, if_neg (by omega)]
    rw [hset] at h3
    obtain ⟨J3, r3⟩ := h_run (lf := lf) h3 (by
      simp only [POk_cons, POk_nil, and_true, g2, rowF_len, und_int, hcx]
      simp)
    obtain ⟨J4, r4⟩ := h_run (lf := lf) (d28_f5 (callee := callee) (cx := cx) J3 a b T M (b.length + 1) ((B ++ [rowF (b.length + 1) (fun _ => 0)]).set B.length (rowN (b.length + 1) (nxt a b i0 0))) n (i0 + 1) B.length []) POk.nil
    obtain ⟨q5, r5, J5, B5, hq5, g5⟩ := inner28 (callee := callee) (T := T) (M := M) (n := n) (n2 := B.length) hcx ha hb hlf hi (by omega) J4 ((B ++ [rowF (b.length + 1) (fun _ => 0)]).set B.length (rowN (b.length + 1) (nxt a b i0 0)))
      (by rw [List.getElem?_set_ne (by omega), List.getElem?_append_left hnB]; exact g1) (by rw [List.getElem?_set_self (by simp)])
    subst hq5
    obtain ⟨J6, r6⟩ := h_run (lf := lf) (d28_f6 (callee := callee) (cx := cx) J5 a b T M (b.length + 1) B5 n (i0 + 1) B.length []) POk.nil
    have h7 := d28_f7 (callee := callee) (cx := cx) J6 a b T M (b.length + 1) B5 B.length (i0 + 1)
    rw [wrapN (by omega)] at h7
    obtain ⟨J7, r7⟩ := h_run (lf := lf) h7 POk.nil
    refine ⟨(_, _), ?_, J7, B5, B.length, rfl, g5⟩
    rw [shape28b]
    refine run_seq (run_seq r1 (by rw [cond_t (by rfl)]; rfl)) (run_seq (run_block (run_seq ?_ (run_seq r3 (run_seq (run_seq r4 r5) r6)))) r7)
    rw [e1]; exact r2
  · subst hq
    obtain ⟨J1, r1⟩ := h_run (lf := lf) (d28_f1o (callee := callee) (cx := cx) J a b T M (b.length + 1) B n (a.length + 1)) (by simp only [POk_cons, POk_nil, and_true]; simp; omega)
    refine ⟨(_, _), ?_, fun i => if i = 7 then .d (.int .i64 ((a.length + 1 : Nat) : Int)) else if i = 28 then .d (.bool false) else J1 i, B, n, rfl, g1⟩
    rw [shape28b]
    refine run_stop (ex := .exit 2) (run_seq r1 ?_) (by simp)
    rw [cond_f (by rfl)]; rfl
theorem run28 {giv : Nat → Option (List AV → Cx → St → Option (Out × St))} {tb : Nat → Option PFn} {n : Nat} (hg : giv 28 = none) (ht : tb 28 = some pf28) (ha : a.length < 1000000) (hb : b.length < 1000000) (hn : a.length < n) (hn2 : b.length + 1 < n) (cx : Cx) :
    run giv tb (n + 1) 28 [.d (.str a), .d (.str b)] cx ⟨[], T, M⟩ = some (.ret (.d (.int .i64 ((lv (byt a) (byt b) a.length b.length : Nat) : Int))), ⟨[], T, M⟩) := by
  have hrun : run giv tb (n + 1) 28 [.d (.str a), .d (.str b)] cx ⟨[], T, M⟩ = leave pf28 ⟨[], T, M⟩ (runC (run giv tb n) n ⟨0, T.length, M.length⟩ pf28.body (envOf 82 [(0, .d (.str a)), (1, .d (.str b))] (fun _ => undefA)) ⟨[], T, M⟩) := by
    simp only [run, hg, ht]; rfl
  rw [hrun]
  have hcx : (⟨0, T.length, M.length⟩ : Cx).b = 0 := rfl
  generalize (⟨0, T.length, M.length⟩ : Cx) = cx' at *
  obtain ⟨J1, r1⟩ := h_run (lf := n) (d28_a (callee := run giv tb n) (cx := cx') (fun _ => undefA) a b T M) POk.nil
  have h2 := d28_b (callee := run giv tb n) (cx := cx') J1 a b T M
  rw [wrapN (by omega), Int.toNat_natCast, rowF_zero] at h2
  obtain ⟨J2, r2⟩ := h_run (lf := n) h2 (by
    simp only [POk_cons, POk_nil, and_true, maxBytes]
    omega)
  obtain ⟨J3, r3⟩ := h_run (lf := n) (d28_c (callee := run giv tb n) (cx := cx') J2 a b T M (b.length + 1) (rowN (b.length + 1) (fun _ => 0))) POk.nil
  obtain ⟨q4, r4, J4, hq4⟩ := init28 (callee := run giv tb n) (T := T) (M := M) (a := a) hcx hb hn2 J3
  subst hq4
  obtain ⟨J5, r5⟩ := h_run (lf := n) (d28_e (callee := run giv tb n) (cx := cx') J4 a b T M (b.length + 1) (rowN (b.length + 1) (lv (byt a) (byt b) 0))) POk.nil
  obtain ⟨q6, r6, J6, B6, n6, hq6, g6⟩ := outer28 (callee := run giv tb n) (T := T) (M := M) hcx ha hb hn (by omega) J5
  subst hq6
  have g0 : (rowN (b.length + 1) (lv (byt a) (byt b) a.length))[b.length]? = some (.d (.int .i64 ((lv (byt a) (byt b) a.length b.length : Nat) : Int))) := rowN_get (by omega)
  obtain ⟨J7, r7⟩ := h_run (lf := n) (d28_h (callee := run giv tb n) (cx := cx') J6 a b T M (b.length + 1) B6 n6 ((lv (byt a) (byt b) a.length b.length : Nat) : Int)) (by
    simp only [POk_cons, POk_nil, and_true, g6, Option.some.injEq, exists_eq_left', toNat1]
    exact ⟨g0, by omega, by omega⟩)
  rw [shape28]
  refine (congrArg (leave pf28 ⟨[], T, M⟩) (run_seq r1 (run_seq r2 (run_seq (run_seq r3 r4) (run_seq (run_seq r5 r6) (run_seq r7 rfl)))))).trans rfl
end
end Go.Rf

namespace Go.Rf
open Go.Proofs Go.RowKit
set_option maxRecDepth 100000
set_option linter.unusedVariables false
set_option linter.unusedSimpArgs false
def gDist : List AV → Cx → St → Option (Out × St)
  | [.d (.str a), .d (.str b)], _, st => if a.length ≤ 40 ∧ b.length ≤ 40 then some (.ret (.d (.int .i64 ((lv (byt a) (byt b) a.length b.length : Nat) : Int))), st) else none
  | _, _, _ => none
noncomputable def giv5 : Nat → Option (List AV → Cx → St → Option (Out × St))
  | 27 => some gDist
  | 28 => some gDist
  | f => giv4 f
theorem gDist_ok {f : Nat} (hq : ∀ a b : List Nat, a.length ≤ 40 → b.length ≤ 40 → run giv4 tbl2 101 f [.d (.str a), .d (.str b)] cx0 st0 = some (.ret (.d (.int .i64 ((lv (byt a) (byt b) a.length b.length : Nat) : Int))), st0)) {args : List AV} {cx : Cx} {st st' : St} {o : Out}
    (h : gDist args cx st = some (o, st')) : ∃ v, o = .ret v ∧ st' = st ∧ run giv4 tbl2 101 f args cx0 st0 = some (.ret v, st0) ∧ args.all AV.flat = true ∧ v.data = true := by
  unfold gDist at h
  split at h
  · split at h
    · rename_i a b hl
      simp only [Option.some.injEq, Prod.mk.injEq] at h
      obtain ⟨rfl, rfl⟩ := h
      exact ⟨_, rfl, rfl, hq _ _ hl.1 hl.2, rfl, rfl⟩
    · exact absurd h (by simp)
  · exact absurd h (by simp)
theorem giv5_ok : GivOk Tryz.prog loud giv5 := by
  intro f gf hf args cx st o st' h
  unfold giv5 at hf
  split at hf
  · injection hf with hf; subst hf
    obtain ⟨v, rfl, rfl, hr, hfl, hd⟩ := gDist_ok (f := 27) (fun a b ha hb => run27 (n := 100) rfl rfl (by omega) (by omega) (by omega) (by omega) _) h
    obtain ⟨h1, h2⟩ := memo_flat (run_ok mixedP giv4_ok ckTbl2 101).1 hr hfl hd
    exact ⟨h1, fun _ => rfl, fun g w vs hs hcx ha => h2 cx g _ w vs hs hcx ha⟩
  · injection hf with hf; subst hf
    obtain ⟨v, rfl, rfl, hr, hfl, hd⟩ := gDist_ok (f := 28) (fun a b ha hb => run28 (n := 100) rfl rfl (by omega) (by omega) (by omega) (by omega) _) h
    obtain ⟨h1, h2⟩ := memo_flat (run_ok mixedP giv4_ok ckTbl2 101).1 hr hfl hd
    exact ⟨h1, fun _ => rfl, fun g w vs hs hcx ha => h2 cx g _ w vs hs hcx ha⟩
  · exact giv4_ok f gf hf args cx st o st' h
end Go.Rf
