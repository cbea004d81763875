/- Closest, the program's and the document's; CatalogClosest answers true at the empty state. -/
import Derived.Test.YtojhechepdlnhaaGreatDoorCs
import Derived.Test.YtojhechepdlnhaaGreatDoorPk
import Derived.Test.YtojhechepdlnhaaGreatDoorCt
import Derived.KernelRfl
namespace Go.Rf
set_option maxRecDepth 100000
set_option linter.unusedVariables false
set_option linter.unusedSimpArgs false
theorem tok_app {T m : List (Nat × Nat)} {t : Nat} {x : Nat × Nat} (h : T[t]? = some x) : (appN T m)[t]? = some x := by rw [appN_eq, List.getElem?_append_left (List.getElem?_eq_some_iff.1 h).1]; exact h
theorem tok_app2 {T m : List (Nat × Nat)} {t : Nat} {x : Nat × Nat} (h : T[t]? = some x) : (T ++ m)[t]? = some x := by rw [← appN_eq]; exact tok_app h

variable {callee : Callee} {cx : Cx} {lf : Nat} (J : Nat → AV) (D : List (List AV)) (T : List (Nat × Nat)) (M : List (List (D_ × D_)))
theorem r29a_0  (G C E K : List (List D_)) (q : List Nat)  {n1 : Nat} (hn1 : List.length D = n1)  : ∃ J', runC callee lf cx (cL pf29.body) (envOf 40 [(0, .agg (CX G C E K)), (1, .d (.str q))] J) ⟨D, T, M⟩ = some (.normal, envOf 40 [(1, .d (.str q)), (2, .ptr n1 0)] J', ⟨(pushB D (CX G C E K)), T, M⟩) :=
  h_run (hs := [.i n1, .c (CX G C E K)]) (log := [List.length D = n1 ∧ AV.cells (.agg (CX G C E K)) = (CX G C E K) ∧ underL (List.length D) (CX G C E K) = true]) (by kernel_rfl) (.cons ⟨hn1, rfl, rfl⟩ .nil)
theorem r29b_0  (G C E K : List (List D_)) (N : Nat) (q : List Nat)    : ∃ J', runC callee lf cx (cL (cR pf29.body)) (envOf 40 [(1, .d (.str q)), (2, .ptr N 0)] J) ⟨D, T, M⟩ = some (.normal, envOf 40 [(1, .d (.str q)), (2, .ptr N 0), (5, .nilS)] J', ⟨D, T, M⟩) :=
  h_run (hs := []) (log := []) (by kernel_rfl) (.nil)
theorem r29c_0  (G C E K : List (List D_)) (N : Nat) (q : List Nat)    : ∃ J', runC callee lf cx (cL (cR (cR pf29.body))) (envOf 40 [(1, .d (.str q)), (2, .ptr N 0), (5, .nilS)] J) ⟨D, T, M⟩ = some (.normal, envOf 40 [(1, .d (.str q)), (2, .ptr N 0), (5, .nilS), (6, .d (.int .i64 0))] J', ⟨D, T, M⟩) :=
  h_run (hs := []) (log := []) (by kernel_rfl) (.nil)
theorem r29d_0  (G C E K : List (List D_)) (N : Nat) (q : List Nat) (hD : BoxAt D N (CX G C E K))   : ∃ J', runC callee lf cx (cL (cL (cR (cR (cR pf29.body))))) (envOf 40 [(1, .d (.str q)), (2, .ptr N 0), (5, .nilS), (6, .d (.int .i64 0))] J) ⟨D, T, M⟩ = some (.normal, envOf 40 [(1, .d (.str q)), (2, .ptr N 0), (5, .nilS), (6, .d (.int .i64 0)), (11, .d (.sl E)), (12, .d (.int .i64 (E.length : Int))), (13, .d (.int .i64 0))] J', ⟨D, T, M⟩) :=
  h_run (hs := [.c (CX G C E K)]) (log := [BoxAt D N (CX G C E K)]) (by kernel_rfl) (.cons hD .nil)
theorem r29n_0  (G C E K : List (List D_)) (N : Nat) (q : List Nat) (k b d : Nat) (ec eg : List Nat) (ev : Int) (ek el : List Nat)   (d0 : (decide ((k : Int) < (E.length : Int))) = false) : ∃ J', runC callee lf cx (cO (cB (cR (cL (cR (cR (cR pf29.body))))))) (envOf 40 [(1, .d (.str q)), (2, .ptr N 0), (5, .nilS), (6, .d (.int .i64 (b : Int))), (11, .d (.sl E)), (12, .d (.int .i64 (E.length : Int))), (13, .d (.int .i64 (k : Int)))] J) ⟨D, T, M⟩ = some ((.exit 0), envOf 40 [(1, .d (.str q)), (2, .ptr N 0), (5, .nilS), (6, .d (.int .i64 (b : Int))), (11, .d (.sl E)), (12, .d (.int .i64 (E.length : Int))), (13, .d (.int .i64 (k : Int)))] J', ⟨D, T, M⟩) :=
  h_run (hs := [.b false]) (log := [(decide ((k : Int) < (E.length : Int))) = false]) (by kernel_rfl) (.cons d0 .nil)
theorem r29n_1  (G C E K : List (List D_)) (N : Nat) (q : List Nat) (k b d : Nat) (ec eg : List Nat) (ev : Int) (ek el : List Nat) (hD : BoxAt D N (CX G C E K)) (hcb : cx.b ≤ List.length D) (hd : ∀ s, callee 27 [.d (.str ec), .d (.str q)] cx s = some (.ret (.d (.int .i64 (d : Int))), s)) (hrE : E[k]? = some (rE ec eg ev ek el)) {n1 : Nat} (hn1 : List.length D + 0 = n1) (d0 : (decide ((k : Int) < (E.length : Int))) = true) (d1 : (((List.length ([] : List (List Go.Rf.D)) : Nat) : Int) == 0) = true) (d2 : ((d : Int) == (d : Int)) = true) : ∃ J', runC callee lf cx (cO (cB (cR (cL (cR (cR (cR pf29.body))))))) (envOf 40 [(1, .d (.str q)), (2, .ptr N 0), (5, .nilS), (6, .d (.int .i64 (b : Int))), (11, .d (.sl E)), (12, .d (.int .i64 (E.length : Int))), (13, .d (.int .i64 (k : Int)))] J) ⟨D, T, M⟩ = some (.normal, envOf 40 [(1, .d (.str q)), (2, .ptr N 0), (5, .own (List.length T + 1) (([[.str ec]] : List (List Go.Rf.D)))), (6, .d (.int .i64 (d : Int))), (11, .d (.sl E)), (12, .d (.int .i64 (E.length : Int))), (13, .d (.int .i64 (IntKind.wrap .i64 ((k : Int) + 1))))] J', ⟨(setB ((appN D [EZ])) n1 (EX ec eg ev ek el)), (List.set ((T ++ [(1, 1), (0, 1)])) (List.length T + 1) (List.length (([[.str ec]] : List (List Go.Rf.D))), 1)), M⟩) :=
  h_run (hs := [.b true, .r (rE ec eg ev ek el), .i n1, .u EZ (EX ec eg ev ek el), .c (EX ec eg ev ek el), .v (.d (.int .i64 (d : Int))), .b true, .b true, .c (EX ec eg ev ek el)]) (log := [(List.all (([[.str ec]] : List (List Go.Rf.D))) fun r => r.length = 1) = true ∧ List.length (([[.str ec]] : List (List Go.Rf.D))) * 16 ≤ maxBytes ∧ List.isEmpty (([[.str ec]] : List (List Go.Rf.D))) = false, BoxAt ((setB ((appN D [EZ])) n1 (EX ec eg ev ek el))) n1 (EX ec eg ev ek el), ((d : Int) == (d : Int)) = true, (((List.length ([] : List (List Go.Rf.D)) : Nat) : Int) == 0) = true, callee 27 [.d (.str ec), .d (.str q)] cx ⟨(setB ((appN D [EZ])) n1 (EX ec eg ev ek el)), T, M⟩ = some (.ret (.d (.int .i64 (d : Int))), ⟨(setB ((appN D [EZ])) n1 (EX ec eg ev ek el)), T, M⟩), BoxAt ((setB ((appN D [EZ])) n1 (EX ec eg ev ek el))) n1 (EX ec eg ev ek el), BoxAt ((appN D [EZ])) n1 EZ ∧ cx.b ≤ n1 ∧ underL n1 (EX ec eg ev ek el) = true ∧ List.take 0 (EZ : List AV) ++ (EX ec eg ev ek el) ++ List.drop (0 + 5) EZ = (EX ec eg ev ek el), List.length D + 0 = n1, (0 : Int) ≤ (k : Int) ∧ E[Int.toNat ((k : Int))]? = some (rE ec eg ev ek el), (decide ((k : Int) < (E.length : Int))) = true]) (by kernel_rfl) (.cons ⟨rfl, Nat.le_of_ble_eq_true rfl, rfl⟩ (.cons (bxA_set (bxA_app0 hn1)) (.cons d2 (.cons d1 (.cons (hd _) (.cons (bxA_set (bxA_app0 hn1)) (.cons ⟨(bxA_app0 hn1), by omega, rfl, rfl⟩ (.cons hn1 (.cons (ixN hrE) (.cons d0 .nil))))))))))
theorem r30n_0  (G C E K : List (List D_)) (N : Nat) (q : List Nat) (k b d : Nat) (ec eg : List Nat) (ev : Int) (ek el : List Nat) (hD : BoxAt D N (CX G C E K))  (d0 : (decide ((k : Int) < (E.length : Int))) = false) : ∃ J', runC callee lf cx (cO (cB (cR (cL (cR (cR (cR pf30.body))))))) (envOf 45 [(1, .d (.str q)), (2, .ptr N 0), (5, .nilS), (6, .d (.int .i64 (-1))), (7, .d (.int .i64 (k : Int)))] J) ⟨D, T, M⟩ = some ((.exit 0), envOf 45 [(1, .d (.str q)), (2, .ptr N 0), (5, .nilS), (6, .d (.int .i64 (-1))), (7, .d (.int .i64 (k : Int)))] J', ⟨D, T, M⟩) :=
  h_run (hs := [.c (CX G C E K), .b false]) (log := [(decide ((k : Int) < (E.length : Int))) = false, BoxAt D N (CX G C E K)]) (by kernel_rfl) (.cons d0 (.cons hD .nil))
theorem r30n_1  (G C E K : List (List D_)) (N : Nat) (q : List Nat) (k b d : Nat) (ec eg : List Nat) (ev : Int) (ek el : List Nat) (hD : BoxAt D N (CX G C E K)) (hd : ∀ s, callee 28 [.d (.str ec), .d (.str q)] cx s = some (.ret (.d (.int .i64 (d : Int))), s)) (hrE : E[k]? = some (rE ec eg ev ek el))  (d0 : (decide ((k : Int) < (E.length : Int))) = true) (d1 : (decide ((-1) < 0)) = true) (d2 : ((d : Int) == (d : Int)) = true) : ∃ J', runC callee lf cx (cO (cB (cR (cL (cR (cR (cR pf30.body))))))) (envOf 45 [(1, .d (.str q)), (2, .ptr N 0), (5, .nilS), (6, .d (.int .i64 (-1))), (7, .d (.int .i64 (k : Int)))] J) ⟨D, T, M⟩ = some (.normal, envOf 45 [(1, .d (.str q)), (2, .ptr N 0), (5, .own (List.length T + 1) (([[.str ec]] : List (List Go.Rf.D)))), (6, .d (.int .i64 (d : Int))), (7, .d (.int .i64 (IntKind.wrap .i64 ((k : Int) + 1))))] J', ⟨D, (List.set ((T ++ [(1, 1), (0, 1)])) (List.length T + 1) (List.length (([[.str ec]] : List (List Go.Rf.D))), 1)), M⟩) :=
  h_run (hs := [.c (CX G C E K), .b true, .c (CX G C E K), .r (rE ec eg ev ek el), .v (.d (.int .i64 (d : Int))), .b true, .b true, .c (CX G C E K), .r (rE ec eg ev ek el)]) (log := [(List.all (([[.str ec]] : List (List Go.Rf.D))) fun r => r.length = 1) = true ∧ List.length (([[.str ec]] : List (List Go.Rf.D))) * 16 ≤ maxBytes ∧ List.isEmpty (([[.str ec]] : List (List Go.Rf.D))) = false, (0 : Int) ≤ (k : Int) ∧ E[Int.toNat ((k : Int))]? = some (rE ec eg ev ek el), BoxAt D N (CX G C E K), ((d : Int) == (d : Int)) = true, (decide ((-1) < 0)) = true, callee 28 [.d (.str ec), .d (.str q)] cx ⟨D, T, M⟩ = some (.ret (.d (.int .i64 (d : Int))), ⟨D, T, M⟩), (0 : Int) ≤ (k : Int) ∧ E[Int.toNat ((k : Int))]? = some (rE ec eg ev ek el), BoxAt D N (CX G C E K), (decide ((k : Int) < (E.length : Int))) = true, BoxAt D N (CX G C E K)]) (by kernel_rfl) (.cons ⟨rfl, Nat.le_of_ble_eq_true rfl, rfl⟩ (.cons (ixN hrE) (.cons hD (.cons d2 (.cons d1 (.cons (hd _) (.cons (ixN hrE) (.cons hD (.cons d0 (.cons hD .nil))))))))))
theorem r29o_0  (G C E K : List (List D_)) (N : Nat) (q : List Nat) (k b d : Nat) (t : Nat) (R : List (List D_)) (ec eg : List Nat) (ev : Int) (ek el : List Nat)   (d0 : (decide ((k : Int) < (E.length : Int))) = false) : ∃ J', runC callee lf cx (cO (cB (cR (cL (cR (cR (cR pf29.body))))))) (envOf 40 [(1, .d (.str q)), (2, .ptr N 0), (5, .own t R), (6, .d (.int .i64 (b : Int))), (11, .d (.sl E)), (12, .d (.int .i64 (E.length : Int))), (13, .d (.int .i64 (k : Int)))] J) ⟨D, T, M⟩ = some ((.exit 0), envOf 40 [(1, .d (.str q)), (2, .ptr N 0), (5, .own t R), (6, .d (.int .i64 (b : Int))), (11, .d (.sl E)), (12, .d (.int .i64 (E.length : Int))), (13, .d (.int .i64 (k : Int)))] J', ⟨D, T, M⟩) :=
  h_run (hs := [.b false]) (log := [(decide ((k : Int) < (E.length : Int))) = false]) (by kernel_rfl) (.cons d0 .nil)
theorem r29o_3  (G C E K : List (List D_)) (N : Nat) (q : List Nat) (k b d : Nat) (t : Nat) (R : List (List D_)) (ec eg : List Nat) (ev : Int) (ek el : List Nat) (hD : BoxAt D N (CX G C E K)) (hcb : cx.b ≤ List.length D) (hd : ∀ s, callee 27 [.d (.str ec), .d (.str q)] cx s = some (.ret (.d (.int .i64 (d : Int))), s)) (hrE : E[k]? = some (rE ec eg ev ek el)) (hmx : (List.length R + 1) * 16 ≤ maxBytes) {n1 : Nat} (hn1 : List.length D + 0 = n1) (d0 : (decide ((k : Int) < (E.length : Int))) = true) (d1 : ((R.length : Int) == 0) = false) (d2 : (decide ((d : Int) < (b : Int))) = true) (d3 : ((d : Int) == (d : Int)) = true) : ∃ J', runC callee lf cx (cO (cB (cR (cL (cR (cR (cR pf29.body))))))) (envOf 40 [(1, .d (.str q)), (2, .ptr N 0), (5, .own t R), (6, .d (.int .i64 (b : Int))), (11, .d (.sl E)), (12, .d (.int .i64 (E.length : Int))), (13, .d (.int .i64 (k : Int)))] J) ⟨D, T, M⟩ = some (.normal, envOf 40 [(1, .d (.str q)), (2, .ptr N 0), (5, .own (List.length T + 1) (([[.str ec]] : List (List Go.Rf.D)))), (6, .d (.int .i64 (d : Int))), (11, .d (.sl E)), (12, .d (.int .i64 (E.length : Int))), (13, .d (.int .i64 (IntKind.wrap .i64 ((k : Int) + 1))))] J', ⟨(setB ((appN D [EZ])) n1 (EX ec eg ev ek el)), (List.set ((T ++ [(1, 1), (0, 1)])) (List.length T + 1) (List.length (([[.str ec]] : List (List Go.Rf.D))), 1)), M⟩) :=
  h_run (hs := [.b true, .r (rE ec eg ev ek el), .i n1, .u EZ (EX ec eg ev ek el), .c (EX ec eg ev ek el), .v (.d (.int .i64 (d : Int))), .b false, .b true, .b true, .c (EX ec eg ev ek el)]) (log := [(List.all (([[.str ec]] : List (List Go.Rf.D))) fun r => r.length = 1) = true ∧ List.length (([[.str ec]] : List (List Go.Rf.D))) * 16 ≤ maxBytes ∧ List.isEmpty (([[.str ec]] : List (List Go.Rf.D))) = false, BoxAt ((setB ((appN D [EZ])) n1 (EX ec eg ev ek el))) n1 (EX ec eg ev ek el), ((d : Int) == (d : Int)) = true, (decide ((d : Int) < (b : Int))) = true, ((R.length : Int) == 0) = false, callee 27 [.d (.str ec), .d (.str q)] cx ⟨(setB ((appN D [EZ])) n1 (EX ec eg ev ek el)), T, M⟩ = some (.ret (.d (.int .i64 (d : Int))), ⟨(setB ((appN D [EZ])) n1 (EX ec eg ev ek el)), T, M⟩), BoxAt ((setB ((appN D [EZ])) n1 (EX ec eg ev ek el))) n1 (EX ec eg ev ek el), BoxAt ((appN D [EZ])) n1 EZ ∧ cx.b ≤ n1 ∧ underL n1 (EX ec eg ev ek el) = true ∧ List.take 0 (EZ : List AV) ++ (EX ec eg ev ek el) ++ List.drop (0 + 5) EZ = (EX ec eg ev ek el), List.length D + 0 = n1, (0 : Int) ≤ (k : Int) ∧ E[Int.toNat ((k : Int))]? = some (rE ec eg ev ek el), (decide ((k : Int) < (E.length : Int))) = true]) (by kernel_rfl) (.cons ⟨rfl, Nat.le_of_ble_eq_true rfl, rfl⟩ (.cons (bxA_set (bxA_app0 hn1)) (.cons d3 (.cons d2 (.cons d1 (.cons (hd _) (.cons (bxA_set (bxA_app0 hn1)) (.cons ⟨(bxA_app0 hn1), by omega, rfl, rfl⟩ (.cons hn1 (.cons (ixN hrE) (.cons d0 .nil)))))))))))
theorem r29o_5  (G C E K : List (List D_)) (N : Nat) (q : List Nat) (k b d : Nat) (t : Nat) (R : List (List D_)) (ec eg : List Nat) (ev : Int) (ek el : List Nat) (hD : BoxAt D N (CX G C E K)) (hcb : cx.b ≤ List.length D) (hd : ∀ s, callee 27 [.d (.str ec), .d (.str q)] cx s = some (.ret (.d (.int .i64 (d : Int))), s)) (hrE : E[k]? = some (rE ec eg ev ek el)) (hT : T[t]? = some (List.length R, 1)) (hct : cx.t ≤ t) (hmx : (List.length R + 1) * 16 ≤ maxBytes) {n1 : Nat} (hn1 : List.length D + 0 = n1) (d0 : (decide ((k : Int) < (E.length : Int))) = true) (d1 : ((R.length : Int) == 0) = false) (d2 : (decide ((d : Int) < (b : Int))) = false) (d3 : ((d : Int) == (b : Int)) = true) : ∃ J', runC callee lf cx (cO (cB (cR (cL (cR (cR (cR pf29.body))))))) (envOf 40 [(1, .d (.str q)), (2, .ptr N 0), (5, .own t R), (6, .d (.int .i64 (b : Int))), (11, .d (.sl E)), (12, .d (.int .i64 (E.length : Int))), (13, .d (.int .i64 (k : Int)))] J) ⟨D, T, M⟩ = some (.normal, envOf 40 [(1, .d (.str q)), (2, .ptr N 0), (5, .own t (R ++ (([[.str ec]] : List (List Go.Rf.D))))), (6, .d (.int .i64 (b : Int))), (11, .d (.sl E)), (12, .d (.int .i64 (E.length : Int))), (13, .d (.int .i64 (IntKind.wrap .i64 ((k : Int) + 1))))] J', ⟨(setB ((appN D [EZ])) n1 (EX ec eg ev ek el)), (List.set ((T ++ [(1, 1), (0, 1)])) t (List.length R + List.length (([[.str ec]] : List (List Go.Rf.D))), 1)), M⟩) :=
  h_run (hs := [.b true, .r (rE ec eg ev ek el), .i n1, .u EZ (EX ec eg ev ek el), .c (EX ec eg ev ek el), .v (.d (.int .i64 (d : Int))), .b false, .b false, .b true, .c (EX ec eg ev ek el)]) (log := [(List.all (([[.str ec]] : List (List Go.Rf.D))) fun r => r.length = 1) = true ∧ ((T ++ [(1, 1), (0, 1)]))[t]? = some (List.length R, 1) ∧ cx.t ≤ t ∧ (List.length R + List.length (([[.str ec]] : List (List Go.Rf.D)))) * 16 ≤ maxBytes, BoxAt ((setB ((appN D [EZ])) n1 (EX ec eg ev ek el))) n1 (EX ec eg ev ek el), ((d : Int) == (b : Int)) = true, (decide ((d : Int) < (b : Int))) = false, ((R.length : Int) == 0) = false, callee 27 [.d (.str ec), .d (.str q)] cx ⟨(setB ((appN D [EZ])) n1 (EX ec eg ev ek el)), T, M⟩ = some (.ret (.d (.int .i64 (d : Int))), ⟨(setB ((appN D [EZ])) n1 (EX ec eg ev ek el)), T, M⟩), BoxAt ((setB ((appN D [EZ])) n1 (EX ec eg ev ek el))) n1 (EX ec eg ev ek el), BoxAt ((appN D [EZ])) n1 EZ ∧ cx.b ≤ n1 ∧ underL n1 (EX ec eg ev ek el) = true ∧ List.take 0 (EZ : List AV) ++ (EX ec eg ev ek el) ++ List.drop (0 + 5) EZ = (EX ec eg ev ek el), List.length D + 0 = n1, (0 : Int) ≤ (k : Int) ∧ E[Int.toNat ((k : Int))]? = some (rE ec eg ev ek el), (decide ((k : Int) < (E.length : Int))) = true]) (by kernel_rfl) (.cons ⟨rfl, tok_app2 hT, hct, hmx⟩ (.cons (bxA_set (bxA_app0 hn1)) (.cons d3 (.cons d2 (.cons d1 (.cons (hd _) (.cons (bxA_set (bxA_app0 hn1)) (.cons ⟨(bxA_app0 hn1), by omega, rfl, rfl⟩ (.cons hn1 (.cons (ixN hrE) (.cons d0 .nil)))))))))))
theorem r29o_6  (G C E K : List (List D_)) (N : Nat) (q : List Nat) (k b d : Nat) (t : Nat) (R : List (List D_)) (ec eg : List Nat) (ev : Int) (ek el : List Nat) (hD : BoxAt D N (CX G C E K)) (hcb : cx.b ≤ List.length D) (hd : ∀ s, callee 27 [.d (.str ec), .d (.str q)] cx s = some (.ret (.d (.int .i64 (d : Int))), s)) (hrE : E[k]? = some (rE ec eg ev ek el)) {n1 : Nat} (hn1 : List.length D + 0 = n1) (d0 : (decide ((k : Int) < (E.length : Int))) = true) (d1 : ((R.length : Int) == 0) = false) (d2 : (decide ((d : Int) < (b : Int))) = false) (d3 : ((d : Int) == (b : Int)) = false) : ∃ J', runC callee lf cx (cO (cB (cR (cL (cR (cR (cR pf29.body))))))) (envOf 40 [(1, .d (.str q)), (2, .ptr N 0), (5, .own t R), (6, .d (.int .i64 (b : Int))), (11, .d (.sl E)), (12, .d (.int .i64 (E.length : Int))), (13, .d (.int .i64 (k : Int)))] J) ⟨D, T, M⟩ = some (.normal, envOf 40 [(1, .d (.str q)), (2, .ptr N 0), (5, .own t R), (6, .d (.int .i64 (b : Int))), (11, .d (.sl E)), (12, .d (.int .i64 (E.length : Int))), (13, .d (.int .i64 (IntKind.wrap .i64 ((k : Int) + 1))))] J', ⟨(setB ((appN D [EZ])) n1 (EX ec eg ev ek el)), T, M⟩) :=
  h_run (hs := [.b true, .r (rE ec eg ev ek el), .i n1, .u EZ (EX ec eg ev ek el), .c (EX ec eg ev ek el), .v (.d (.int .i64 (d : Int))), .b false, .b false, .b false]) (log := [((d : Int) == (b : Int)) = false, (decide ((d : Int) < (b : Int))) = false, ((R.length : Int) == 0) = false, callee 27 [.d (.str ec), .d (.str q)] cx ⟨(setB ((appN D [EZ])) n1 (EX ec eg ev ek el)), T, M⟩ = some (.ret (.d (.int .i64 (d : Int))), ⟨(setB ((appN D [EZ])) n1 (EX ec eg ev ek el)), T, M⟩), BoxAt ((setB ((appN D [EZ])) n1 (EX ec eg ev ek el))) n1 (EX ec eg ev ek el), BoxAt ((appN D [EZ])) n1 EZ ∧ cx.b ≤ n1 ∧ underL n1 (EX ec eg ev ek el) = true ∧ List.take 0 (EZ : List AV) ++ (EX ec eg ev ek el) ++ List.drop (0 + 5) EZ = (EX ec eg ev ek el), List.length D + 0 = n1, (0 : Int) ≤ (k : Int) ∧ E[Int.toNat ((k : Int))]? = some (rE ec eg ev ek el), (decide ((k : Int) < (E.length : Int))) = true]) (by kernel_rfl) (.cons d3 (.cons d2 (.cons d1 (.cons (hd _) (.cons (bxA_set (bxA_app0 hn1)) (.cons ⟨(bxA_app0 hn1), by omega, rfl, rfl⟩ (.cons hn1 (.cons (ixN hrE) (.cons d0 .nil)))))))))
theorem r30o_0  (G C E K : List (List D_)) (N : Nat) (q : List Nat) (k b d : Nat) (t : Nat) (R : List (List D_)) (ec eg : List Nat) (ev : Int) (ek el : List Nat) (hD : BoxAt D N (CX G C E K))  (d0 : (decide ((k : Int) < (E.length : Int))) = false) : ∃ J', runC callee lf cx (cO (cB (cR (cL (cR (cR (cR pf30.body))))))) (envOf 45 [(1, .d (.str q)), (2, .ptr N 0), (5, .own t R), (6, .d (.int .i64 (b : Int))), (7, .d (.int .i64 (k : Int)))] J) ⟨D, T, M⟩ = some ((.exit 0), envOf 45 [(1, .d (.str q)), (2, .ptr N 0), (5, .own t R), (6, .d (.int .i64 (b : Int))), (7, .d (.int .i64 (k : Int)))] J', ⟨D, T, M⟩) :=
  h_run (hs := [.c (CX G C E K), .b false]) (log := [(decide ((k : Int) < (E.length : Int))) = false, BoxAt D N (CX G C E K)]) (by kernel_rfl) (.cons d0 (.cons hD .nil))
theorem r30o_3  (G C E K : List (List D_)) (N : Nat) (q : List Nat) (k b d : Nat) (t : Nat) (R : List (List D_)) (ec eg : List Nat) (ev : Int) (ek el : List Nat) (hD : BoxAt D N (CX G C E K)) (hd : ∀ s, callee 28 [.d (.str ec), .d (.str q)] cx s = some (.ret (.d (.int .i64 (d : Int))), s)) (hrE : E[k]? = some (rE ec eg ev ek el)) (hmx : (List.length R + 1) * 16 ≤ maxBytes)  (d0 : (decide ((k : Int) < (E.length : Int))) = true) (d1 : (decide ((b : Int) < 0)) = false) (d2 : (decide ((d : Int) < (b : Int))) = true) (d3 : ((d : Int) == (d : Int)) = true) : ∃ J', runC callee lf cx (cO (cB (cR (cL (cR (cR (cR pf30.body))))))) (envOf 45 [(1, .d (.str q)), (2, .ptr N 0), (5, .own t R), (6, .d (.int .i64 (b : Int))), (7, .d (.int .i64 (k : Int)))] J) ⟨D, T, M⟩ = some (.normal, envOf 45 [(1, .d (.str q)), (2, .ptr N 0), (5, .own (List.length T + 1) (([[.str ec]] : List (List Go.Rf.D)))), (6, .d (.int .i64 (d : Int))), (7, .d (.int .i64 (IntKind.wrap .i64 ((k : Int) + 1))))] J', ⟨D, (List.set ((T ++ [(1, 1), (0, 1)])) (List.length T + 1) (List.length (([[.str ec]] : List (List Go.Rf.D))), 1)), M⟩) :=
  h_run (hs := [.c (CX G C E K), .b true, .c (CX G C E K), .r (rE ec eg ev ek el), .v (.d (.int .i64 (d : Int))), .b false, .b true, .b true, .c (CX G C E K), .r (rE ec eg ev ek el)]) (log := [(List.all (([[.str ec]] : List (List Go.Rf.D))) fun r => r.length = 1) = true ∧ List.length (([[.str ec]] : List (List Go.Rf.D))) * 16 ≤ maxBytes ∧ List.isEmpty (([[.str ec]] : List (List Go.Rf.D))) = false, (0 : Int) ≤ (k : Int) ∧ E[Int.toNat ((k : Int))]? = some (rE ec eg ev ek el), BoxAt D N (CX G C E K), ((d : Int) == (d : Int)) = true, (decide ((d : Int) < (b : Int))) = true, (decide ((b : Int) < 0)) = false, callee 28 [.d (.str ec), .d (.str q)] cx ⟨D, T, M⟩ = some (.ret (.d (.int .i64 (d : Int))), ⟨D, T, M⟩), (0 : Int) ≤ (k : Int) ∧ E[Int.toNat ((k : Int))]? = some (rE ec eg ev ek el), BoxAt D N (CX G C E K), (decide ((k : Int) < (E.length : Int))) = true, BoxAt D N (CX G C E K)]) (by kernel_rfl) (.cons ⟨rfl, Nat.le_of_ble_eq_true rfl, rfl⟩ (.cons (ixN hrE) (.cons hD (.cons d3 (.cons d2 (.cons d1 (.cons (hd _) (.cons (ixN hrE) (.cons hD (.cons d0 (.cons hD .nil)))))))))))
theorem r30o_5  (G C E K : List (List D_)) (N : Nat) (q : List Nat) (k b d : Nat) (t : Nat) (R : List (List D_)) (ec eg : List Nat) (ev : Int) (ek el : List Nat) (hD : BoxAt D N (CX G C E K)) (hd : ∀ s, callee 28 [.d (.str ec), .d (.str q)] cx s = some (.ret (.d (.int .i64 (d : Int))), s)) (hrE : E[k]? = some (rE ec eg ev ek el)) (hT : T[t]? = some (List.length R, 1)) (hct : cx.t ≤ t) (hmx : (List.length R + 1) * 16 ≤ maxBytes)  (d0 : (decide ((k : Int) < (E.length : Int))) = true) (d1 : (decide ((b : Int) < 0)) = false) (d2 : (decide ((d : Int) < (b : Int))) = false) (d3 : ((d : Int) == (b : Int)) = true) : ∃ J', runC callee lf cx (cO (cB (cR (cL (cR (cR (cR pf30.body))))))) (envOf 45 [(1, .d (.str q)), (2, .ptr N 0), (5, .own t R), (6, .d (.int .i64 (b : Int))), (7, .d (.int .i64 (k : Int)))] J) ⟨D, T, M⟩ = some (.normal, envOf 45 [(1, .d (.str q)), (2, .ptr N 0), (5, .own t (R ++ (([[.str ec]] : List (List Go.Rf.D))))), (6, .d (.int .i64 (b : Int))), (7, .d (.int .i64 (IntKind.wrap .i64 ((k : Int) + 1))))] J', ⟨D, (List.set ((T ++ [(1, 1), (0, 1)])) t (List.length R + List.length (([[.str ec]] : List (List Go.Rf.D))), 1)), M⟩) :=
  h_run (hs := [.c (CX G C E K), .b true, .c (CX G C E K), .r (rE ec eg ev ek el), .v (.d (.int .i64 (d : Int))), .b false, .b false, .b true, .c (CX G C E K), .r (rE ec eg ev ek el)]) (log := [(List.all (([[.str ec]] : List (List Go.Rf.D))) fun r => r.length = 1) = true ∧ ((T ++ [(1, 1), (0, 1)]))[t]? = some (List.length R, 1) ∧ cx.t ≤ t ∧ (List.length R + List.length (([[.str ec]] : List (List Go.Rf.D)))) * 16 ≤ maxBytes, (0 : Int) ≤ (k : Int) ∧ E[Int.toNat ((k : Int))]? = some (rE ec eg ev ek el), BoxAt D N (CX G C E K), ((d : Int) == (b : Int)) = true, (decide ((d : Int) < (b : Int))) = false, (decide ((b : Int) < 0)) = false, callee 28 [.d (.str ec), .d (.str q)] cx ⟨D, T, M⟩ = some (.ret (.d (.int .i64 (d : Int))), ⟨D, T, M⟩), (0 : Int) ≤ (k : Int) ∧ E[Int.toNat ((k : Int))]? = some (rE ec eg ev ek el), BoxAt D N (CX G C E K), (decide ((k : Int) < (E.length : Int))) = true, BoxAt D N (CX G C E K)]) (by kernel_rfl) (.cons ⟨rfl, tok_app2 hT, hct, hmx⟩ (.cons (ixN hrE) (.cons hD (.cons d3 (.cons d2 (.cons d1 (.cons (hd _) (.cons (ixN hrE) (.cons hD (.cons d0 (.cons hD .nil)))))))))))
theorem r30o_6  (G C E K : List (List D_)) (N : Nat) (q : List Nat) (k b d : Nat) (t : Nat) (R : List (List D_)) (ec eg : List Nat) (ev : Int) (ek el : List Nat) (hD : BoxAt D N (CX G C E K)) (hd : ∀ s, callee 28 [.d (.str ec), .d (.str q)] cx s = some (.ret (.d (.int .i64 (d : Int))), s)) (hrE : E[k]? = some (rE ec eg ev ek el))  (d0 : (decide ((k : Int) < (E.length : Int))) = true) (d1 : (decide ((b : Int) < 0)) = false) (d2 : (decide ((d : Int) < (b : Int))) = false) (d3 : ((d : Int) == (b : Int)) = false) : ∃ J', runC callee lf cx (cO (cB (cR (cL (cR (cR (cR pf30.body))))))) (envOf 45 [(1, .d (.str q)), (2, .ptr N 0), (5, .own t R), (6, .d (.int .i64 (b : Int))), (7, .d (.int .i64 (k : Int)))] J) ⟨D, T, M⟩ = some (.normal, envOf 45 [(1, .d (.str q)), (2, .ptr N 0), (5, .own t R), (6, .d (.int .i64 (b : Int))), (7, .d (.int .i64 (IntKind.wrap .i64 ((k : Int) + 1))))] J', ⟨D, T, M⟩) :=
  h_run (hs := [.c (CX G C E K), .b true, .c (CX G C E K), .r (rE ec eg ev ek el), .v (.d (.int .i64 (d : Int))), .b false, .b false, .b false]) (log := [((d : Int) == (b : Int)) = false, (decide ((d : Int) < (b : Int))) = false, (decide ((b : Int) < 0)) = false, callee 28 [.d (.str ec), .d (.str q)] cx ⟨D, T, M⟩ = some (.ret (.d (.int .i64 (d : Int))), ⟨D, T, M⟩), (0 : Int) ≤ (k : Int) ∧ E[Int.toNat ((k : Int))]? = some (rE ec eg ev ek el), BoxAt D N (CX G C E K), (decide ((k : Int) < (E.length : Int))) = true, BoxAt D N (CX G C E K)]) (by kernel_rfl) (.cons d3 (.cons d2 (.cons d1 (.cons (hd _) (.cons (ixN hrE) (.cons hD (.cons d0 (.cons hD .nil))))))))
theorem r29e_0  (G C E K : List (List D_)) (t : Nat) (R : List (List D_))    : ∃ J', runC callee lf cx (cR (cR (cR (cR pf29.body)))) (envOf 40 [(5, .own t R)] J) ⟨D, T, M⟩ = some (.ret, envOf 40 [(4, .own t R)] J', ⟨D, T, M⟩) :=
  h_run (hs := []) (log := []) (by kernel_rfl) (.nil)
theorem r29f_0  (G C E K : List (List D_))    : ∃ J', runC callee lf cx (cR (cR (cR (cR pf29.body)))) (envOf 40 [(5, .nilS)] J) ⟨D, T, M⟩ = some (.ret, envOf 40 [(4, .nilS)] J', ⟨D, T, M⟩) :=
  h_run (hs := []) (log := []) (by kernel_rfl) (.nil)
theorem r30a_0  (G C E K : List (List D_)) (q : List Nat)  {n1 : Nat} (hn1 : List.length D = n1)  : ∃ J', runC callee lf cx (cL pf30.body) (envOf 45 [(0, .agg (CX G C E K)), (1, .d (.str q))] J) ⟨D, T, M⟩ = some (.normal, envOf 45 [(1, .d (.str q)), (2, .ptr n1 0)] J', ⟨(pushB D (CX G C E K)), T, M⟩) :=
  h_run (hs := [.i n1, .c (CX G C E K)]) (log := [List.length D = n1 ∧ AV.cells (.agg (CX G C E K)) = (CX G C E K) ∧ underL (List.length D) (CX G C E K) = true]) (by kernel_rfl) (.cons ⟨hn1, rfl, rfl⟩ .nil)
theorem r30b_0  (G C E K : List (List D_)) (N : Nat) (q : List Nat)    : ∃ J', runC callee lf cx (cL (cR pf30.body)) (envOf 45 [(1, .d (.str q)), (2, .ptr N 0)] J) ⟨D, T, M⟩ = some (.normal, envOf 45 [(1, .d (.str q)), (2, .ptr N 0), (5, .nilS)] J', ⟨D, T, M⟩) :=
  h_run (hs := []) (log := []) (by kernel_rfl) (.nil)
theorem r30c_0  (G C E K : List (List D_)) (N : Nat) (q : List Nat)    : ∃ J', runC callee lf cx (cL (cR (cR pf30.body))) (envOf 45 [(1, .d (.str q)), (2, .ptr N 0), (5, .nilS)] J) ⟨D, T, M⟩ = some (.normal, envOf 45 [(1, .d (.str q)), (2, .ptr N 0), (5, .nilS), (6, .d (.int .i64 (-1)))] J', ⟨D, T, M⟩) :=
  h_run (hs := []) (log := []) (by kernel_rfl) (.nil)
theorem r30d_0  (G C E K : List (List D_)) (N : Nat) (q : List Nat)    : ∃ J', runC callee lf cx (cL (cL (cR (cR (cR pf30.body))))) (envOf 45 [(1, .d (.str q)), (2, .ptr N 0), (5, .nilS), (6, .d (.int .i64 (-1)))] J) ⟨D, T, M⟩ = some (.normal, envOf 45 [(1, .d (.str q)), (2, .ptr N 0), (5, .nilS), (6, .d (.int .i64 (-1))), (7, .d (.int .i64 0))] J', ⟨D, T, M⟩) :=
  h_run (hs := []) (log := []) (by kernel_rfl) (.nil)
theorem r30e_0  (G C E K : List (List D_)) (t : Nat) (R : List (List D_))    : ∃ J', runC callee lf cx (cR (cR (cR (cR pf30.body)))) (envOf 45 [(5, .own t R)] J) ⟨D, T, M⟩ = some (.ret, envOf 45 [(4, .own t R)] J', ⟨D, T, M⟩) :=
  h_run (hs := []) (log := []) (by kernel_rfl) (.nil)
theorem r30f_0  (G C E K : List (List D_))    : ∃ J', runC callee lf cx (cR (cR (cR (cR pf30.body)))) (envOf 45 [(5, .nilS)] J) ⟨D, T, M⟩ = some (.ret, envOf 45 [(4, .nilS)] J', ⟨D, T, M⟩) :=
  h_run (hs := []) (log := []) (by kernel_rfl) (.nil)
end Go.Rf

namespace Go.Rf
set_option maxRecDepth 100000
set_option linter.unusedVariables false
set_option linter.unusedSimpArgs false
theorem env_one {N : Nat} {kn : Kn} {i : Nat} {v : AV} (h : ∀ u, look u i kn = v) (J : Nat → AV) : envOf N kn J = envOf N [(i, v)] (fun j => look (J j) j kn) := by
  have : ∀ n k, envFrom kn J n k = envFrom [(i, v)] (fun j => look (J j) j kn) n k := by
    intro n
    induction n with
    | zero => intro k; rfl
    | succ n ih =>
      intro k
      simp only [envFrom, ih, look]
      congr 1
      split
      · rename_i hk
        rw [← Nat.eq_of_beq_eq_true hk]; exact h _
      · rfl
  exact this N 0
/-- The codes with the least value so far, after k + 1 of them. -/
def cloA (f : List Nat → Nat) (codes : List (List Nat)) : Nat → Nat × List (List Nat)
  | 0 => (f (codes.getD 0 []), [codes.getD 0 []])
  | k + 1 => if f (codes.getD (k + 1) []) < (cloA f codes k).1 then (f (codes.getD (k + 1) []), [codes.getD (k + 1) []])
      else if f (codes.getD (k + 1) []) = (cloA f codes k).1 then ((cloA f codes k).1, (cloA f codes k).2 ++ [codes.getD (k + 1) []]) else cloA f codes k
theorem cloA_len (f : List Nat → Nat) (codes : List (List Nat)) : ∀ k, (cloA f codes k).2.length ≤ k + 1 ∧ 0 < (cloA f codes k).2.length
  | 0 => by simp [cloA]
  | k + 1 => by
    have := cloA_len f codes k
    simp only [cloA]
    split
    · simp
    · split
      · simp; omega
      · exact ⟨by omega, this.2⟩
def Cat.codes (c : Cat) : List (List Nat) := c.es.map Elm.code
def dst (q a : List Nat) : Nat := lv (byt a) (byt q) a.length q.length
theorem code_at {c : Cat} {k : Nat} {x : Elm} (h : c.es[k]? = some x) : c.codes.getD k [] = x.code := by
  rw [List.getD_eq_getElem?_getD, Cat.codes, List.getElem?_map, h]; rfl
section
variable {callee : Callee} {cx : Cx} {lf : Nat}
structure TI (c : Cat) (cx : Cx) (N t n : Nat) (s : St) : Prop where
  cat : CatI c cx.b N s
  tok : s.toks[t]? = some (n, 1)
  own : cx.t ≤ t
theorem ti_cp {c : Cat} {N t n : Nat} {s : St} {z row : List AV} (h : TI c cx N t n s) : TI c cx N t n ⟨setB (appN s.boxes [z]) (s.boxes.length + 0) row, s.toks, s.maps⟩ := ⟨catI_cp h.cat, h.tok, h.own⟩
theorem tok_new (T : List (Nat × Nat)) (x : Nat × Nat) : ((T ++ [(1, 1), (0, 1)]).set (T.length + 1) x)[T.length + 1]? = some x := by
  rw [List.getElem?_set_self (by simp)]
theorem tok_old {T : List (Nat × Nat)} {t : Nat} {y : Nat × Nat} (h : T[t]? = some y) (x : Nat × Nat) : ((T ++ [(1, 1), (0, 1)]).set t x)[t]? = some x := by
  rw [List.getElem?_set_self (by have := (List.getElem?_eq_some_iff.1 h).1; simp; omega)]
theorem loop29 (c : Cat) (N : Nat) (q : List Nat) (hs : c.E.length ≤ 40) (hlf : 50 ≤ lf)
    (hd : ∀ x ∈ c.es, ∀ s, callee 27 [.d (.str x.code), .d (.str q)] cx s = some (.ret (.d (.int .i64 ((dst q x.code : Nat) : Int))), s)) {J : Nat → AV} {s : St} (h0 : CatI c cx.b N s) (h0t : cx.t ≤ s.toks.length) :
    ∃ p' : Env × St, runC callee lf cx (.block 0 (.loop (cO (cB (cR (cL (cR (cR (cR pf29.body))))))))) (envOf 40 [(1, .d (.str q)), (2, .ptr N 0), (5, .nilS), (6, .d (.int .i64 ((0 : Nat) : Int))), (11, .d (.sl c.E)), (12, .d (.int .i64 ((List.length c.E : Nat) : Int))), (13, .d (.int .i64 ((0 : Nat) : Int)))] J) s = some (.normal, p'.1, p'.2) ∧ (fun p => (c.E.length = 0 ∧ ∃ J, p.1 = envOf 40 [(5, .nilS)] J) ∨ (∃ m, c.E.length = m + 1 ∧ ∃ J t, p.1 = envOf 40 [(5, .own t ((cloA (dst q) c.codes m).2.map strRow))] J ∧ cx.t ≤ t)) p' := by
  refine loop_inv (m := c.E.length) (fun k p => (k = 0 ∧ ∃ J, p.1 = envOf 40 [(1, .d (.str q)), (2, .ptr N 0), (5, .nilS), (6, .d (.int .i64 ((0 : Nat) : Int))), (11, .d (.sl c.E)), (12, .d (.int .i64 ((List.length c.E : Nat) : Int))), (13, .d (.int .i64 ((0 : Nat) : Int)))] J ∧ CatI c cx.b N p.2 ∧ cx.t ≤ p.2.toks.length) ∨ (∃ k', k = k' + 1 ∧ ∃ J t, p.1 = envOf 40 [(1, .d (.str q)), (2, .ptr N 0), (5, .own t ((cloA (dst q) c.codes k').2.map strRow)), (6, .d (.int .i64 ((((cloA (dst q) c.codes k').1 : Nat) : Int)))), (11, .d (.sl c.E)), (12, .d (.int .i64 ((List.length c.E : Nat) : Int))), (13, .d (.int .i64 ((k' + 1 : Nat) : Int)))] J ∧ TI c cx N t (cloA (dst q) c.codes k').2.length p.2)) _ (by omega) ?_ ?_ (.inl ⟨rfl, J, rfl, h0, h0t⟩)
  · rintro k ⟨e, s⟩ hk (⟨rfl, J, he, HI, hct⟩ | ⟨k, rfl, J, t, he, HT⟩)
    · obtain ⟨x, hx, hx1, hx2⟩ := c.getE hk
      have hc0 : c.codes.getD 0 [] = x.code := code_at hx
      obtain ⟨J', h⟩ := r29n_1 (callee := callee) (cx := cx) (lf := lf) J s.boxes s.toks s.maps c.G c.C c.E c.K N q 0 0 (dst q x.code) x.code x.grp x.val x.cls x.low HI.1 HI.2 (hd x (List.mem_of_getElem? hx)) hx1 rfl (lt_dec hk) (by simp) (by simp)
      rw [wrapN (by omega)] at h
      simp only at he; subst he
      refine ⟨(_, _), h, .inr ⟨0, rfl, J', s.toks.length + 1, ?_, ?_⟩⟩
      · simp only [cloA, hc0]; rfl
      · exact ⟨(catI_cp HI), by simp only [cloA]; exact tok_new s.toks _, Nat.le_succ_of_le hct⟩
    · obtain ⟨x, hx, hx1, hx2⟩ := c.getE hk
      have hc0 : c.codes.getD (k + 1) [] = x.code := code_at hx
      have HI := HT.cat
      have hl := cloA_len (dst q) c.codes k
      have HT : TI c cx N t _ s := HT
      simp only at he; subst he
      cases e1 : decide (((dst q x.code : Nat) : Int) < (((cloA (dst q) c.codes k).1 : Nat) : Int)) with
      | true =>
        have l1 : dst q x.code < (cloA (dst q) c.codes k).1 := by have := of_decide_eq_true e1; omega
        obtain ⟨J', h⟩ := r29o_3 (callee := callee) (cx := cx) (lf := lf) J s.boxes s.toks s.maps c.G c.C c.E c.K N q (k + 1) (cloA (dst q) c.codes k).1 (dst q x.code) t ((cloA (dst q) c.codes k).2.map strRow) x.code x.grp x.val x.cls x.low HI.1 HI.2 (hd x (List.mem_of_getElem? hx)) hx1 (by rw [List.length_map]; simp only [maxBytes]; omega) rfl (lt_dec hk) (by rw [List.length_map]; have := (cloA_len (dst q) c.codes k).2; rw [beq_eq_false_iff_ne]; omega) e1 (by simp)
        rw [wrapN (by omega)] at h
        refine ⟨(_, _), h, .inr ⟨k + 1, rfl, J', s.toks.length + 1, ?_, ?_⟩⟩
        · simp only [cloA, hc0, if_pos l1]; rfl
        · exact ⟨(catI_cp HI), by simp only [cloA, hc0, if_pos l1]; exact tok_new s.toks _, Nat.le_trans HT.own (Nat.le_succ_of_le (Nat.le_of_lt (List.getElem?_eq_some_iff.1 HT.tok).1))⟩
      | false =>
        have l1 : ¬ dst q x.code < (cloA (dst q) c.codes k).1 := by have := of_decide_eq_false e1; omega
        cases e2 : (((dst q x.code : Nat) : Int) == (((cloA (dst q) c.codes k).1 : Nat) : Int)) with
        | true =>
          have l2 : dst q x.code = (cloA (dst q) c.codes k).1 := by have := eq_of_beq e2; omega
          obtain ⟨J', h⟩ := r29o_5 (callee := callee) (cx := cx) (lf := lf) J s.boxes s.toks s.maps c.G c.C c.E c.K N q (k + 1) (cloA (dst q) c.codes k).1 (dst q x.code) t ((cloA (dst q) c.codes k).2.map strRow) x.code x.grp x.val x.cls x.low HI.1 HI.2 (hd x (List.mem_of_getElem? hx)) hx1 (by rw [List.length_map]; exact HT.tok) HT.own (by rw [List.length_map]; simp only [maxBytes]; omega) rfl (lt_dec hk) (by rw [List.length_map]; have := (cloA_len (dst q) c.codes k).2; rw [beq_eq_false_iff_ne]; omega) e1 e2
          rw [wrapN (by omega)] at h
          refine ⟨(_, _), h, .inr ⟨k + 1, rfl, J', t, ?_, ?_⟩⟩
          · simp only [cloA, hc0, if_neg l1, if_pos l2, List.map_append]; rfl
          · exact ⟨(catI_cp HI), by simp only [cloA, hc0, if_neg l1, if_pos l2, List.length_append]; rw [tok_old HT.tok]; simp, HT.own⟩
        | false =>
          have l2 : ¬ dst q x.code = (cloA (dst q) c.codes k).1 := by intro h; rw [h] at e2; simp at e2
          obtain ⟨J', h⟩ := r29o_6 (callee := callee) (cx := cx) (lf := lf) J s.boxes s.toks s.maps c.G c.C c.E c.K N q (k + 1) (cloA (dst q) c.codes k).1 (dst q x.code) t ((cloA (dst q) c.codes k).2.map strRow) x.code x.grp x.val x.cls x.low HI.1 HI.2 (hd x (List.mem_of_getElem? hx)) hx1 rfl (lt_dec hk) (by rw [List.length_map]; have := (cloA_len (dst q) c.codes k).2; rw [beq_eq_false_iff_ne]; omega) e1 e2
          rw [wrapN (by omega)] at h
          refine ⟨(_, _), h, .inr ⟨k + 1, rfl, J', t, ?_, ?_⟩⟩
          · simp only [cloA, hc0, if_neg l1, if_neg l2]; rfl
          · exact ⟨(catI_cp HI), by simp only [cloA, hc0, if_neg l1, if_neg l2]; exact HT.tok, HT.own⟩
  · rintro ⟨e, s⟩ (⟨hm, J, he, HI, hct⟩ | ⟨k, hm, J, t, he, HT⟩)
    · simp only at he; subst he
      obtain ⟨J', h⟩ := r29n_0 (callee := callee) (cx := cx) (lf := lf) J s.boxes s.toks s.maps c.G c.C c.E c.K N q 0 0 0 [] [] 0 [] [] (by rw [hm]; rfl)
      exact ⟨(envOf 40 [(1, .d (.str q)), (2, .ptr N 0), (5, .nilS), (6, .d (.int .i64 ((0 : Nat) : Int))), (11, .d (.sl c.E)), (12, .d (.int .i64 ((List.length c.E : Nat) : Int))), (13, .d (.int .i64 ((0 : Nat) : Int)))] J', s), h, .inl ⟨hm, _, env_one (kn := [(1, .d (.str q)), (2, .ptr N 0), (5, .nilS), (6, .d (.int .i64 ((0 : Nat) : Int))), (11, .d (.sl c.E)), (12, .d (.int .i64 ((List.length c.E : Nat) : Int))), (13, .d (.int .i64 ((0 : Nat) : Int)))]) (i := 5) (v := .nilS) (fun u => rfl) J'⟩⟩
    · simp only at he; subst he
      have HI := HT.cat
      obtain ⟨J', h⟩ := r29o_0 (callee := callee) (cx := cx) (lf := lf) J s.boxes s.toks s.maps c.G c.C c.E c.K N q (k + 1) (cloA (dst q) c.codes k).1 0 t ((cloA (dst q) c.codes k).2.map strRow) [] [] 0 [] [] (not_lt_dec (by omega))
      exact ⟨(envOf 40 [(1, .d (.str q)), (2, .ptr N 0), (5, .own t ((cloA (dst q) c.codes k).2.map strRow)), (6, .d (.int .i64 (((cloA (dst q) c.codes k).1 : Nat) : Int))), (11, .d (.sl c.E)), (12, .d (.int .i64 ((List.length c.E : Nat) : Int))), (13, .d (.int .i64 ((k + 1 : Nat) : Int)))] J', s), h, .inr ⟨k, hm, _, t, env_one (kn := [(1, .d (.str q)), (2, .ptr N 0), (5, .own t ((cloA (dst q) c.codes k).2.map strRow)), (6, .d (.int .i64 (((cloA (dst q) c.codes k).1 : Nat) : Int))), (11, .d (.sl c.E)), (12, .d (.int .i64 ((List.length c.E : Nat) : Int))), (13, .d (.int .i64 ((k + 1 : Nat) : Int)))]) (i := 5) (v := .own t ((cloA (dst q) c.codes k).2.map strRow)) (fun u => rfl) J', HT.own⟩⟩

theorem loop30 (c : Cat) (N : Nat) (q : List Nat) (hs : c.E.length ≤ 40) (hlf : 50 ≤ lf)
    (hd : ∀ x ∈ c.es, ∀ s, callee 28 [.d (.str x.code), .d (.str q)] cx s = some (.ret (.d (.int .i64 ((dst q x.code : Nat) : Int))), s)) {J : Nat → AV} {s : St} (h0 : CatI c cx.b N s) (h0t : cx.t ≤ s.toks.length) :
    ∃ p' : Env × St, runC callee lf cx (.block 0 (.loop (cO (cB (cR (cL (cR (cR (cR pf30.body))))))))) (envOf 45 [(1, .d (.str q)), (2, .ptr N 0), (5, .nilS), (6, .d (.int .i64 (-1))), (7, .d (.int .i64 ((0 : Nat) : Int)))] J) s = some (.normal, p'.1, p'.2) ∧ (fun p => (c.E.length = 0 ∧ ∃ J, p.1 = envOf 45 [(5, .nilS)] J) ∨ (∃ m, c.E.length = m + 1 ∧ ∃ J t, p.1 = envOf 45 [(5, .own t ((cloA (dst q) c.codes m).2.map strRow))] J ∧ cx.t ≤ t)) p' := by
  refine loop_inv (m := c.E.length) (fun k p => (k = 0 ∧ ∃ J, p.1 = envOf 45 [(1, .d (.str q)), (2, .ptr N 0), (5, .nilS), (6, .d (.int .i64 (-1))), (7, .d (.int .i64 ((0 : Nat) : Int)))] J ∧ CatI c cx.b N p.2 ∧ cx.t ≤ p.2.toks.length) ∨ (∃ k', k = k' + 1 ∧ ∃ J t, p.1 = envOf 45 [(1, .d (.str q)), (2, .ptr N 0), (5, .own t ((cloA (dst q) c.codes k').2.map strRow)), (6, .d (.int .i64 ((((cloA (dst q) c.codes k').1 : Nat) : Int)))), (7, .d (.int .i64 ((k' + 1 : Nat) : Int)))] J ∧ TI c cx N t (cloA (dst q) c.codes k').2.length p.2)) _ (by omega) ?_ ?_ (.inl ⟨rfl, J, rfl, h0, h0t⟩)
  · rintro k ⟨e, s⟩ hk (⟨rfl, J, he, HI, hct⟩ | ⟨k, rfl, J, t, he, HT⟩)
    · obtain ⟨x, hx, hx1, hx2⟩ := c.getE hk
      have hc0 : c.codes.getD 0 [] = x.code := code_at hx
      obtain ⟨J', h⟩ := r30n_1 (callee := callee) (cx := cx) (lf := lf) J s.boxes s.toks s.maps c.G c.C c.E c.K N q 0 0 (dst q x.code) x.code x.grp x.val x.cls x.low HI.1 (hd x (List.mem_of_getElem? hx)) hx1  (lt_dec hk) (by simp) (by simp)
      rw [wrapN (by omega)] at h
      simp only at he; subst he
      refine ⟨(_, _), h, .inr ⟨0, rfl, J', s.toks.length + 1, ?_, ?_⟩⟩
      · simp only [cloA, hc0]; rfl
      · exact ⟨HI, by simp only [cloA]; exact tok_new s.toks _, Nat.le_succ_of_le hct⟩
    · obtain ⟨x, hx, hx1, hx2⟩ := c.getE hk
      have hc0 : c.codes.getD (k + 1) [] = x.code := code_at hx
      have HI := HT.cat
      have hl := cloA_len (dst q) c.codes k
      have HT : TI c cx N t _ s := HT
      simp only at he; subst he
      cases e1 : decide (((dst q x.code : Nat) : Int) < (((cloA (dst q) c.codes k).1 : Nat) : Int)) with
      | true =>
        have l1 : dst q x.code < (cloA (dst q) c.codes k).1 := by have := of_decide_eq_true e1; omega
        obtain ⟨J', h⟩ := r30o_3 (callee := callee) (cx := cx) (lf := lf) J s.boxes s.toks s.maps c.G c.C c.E c.K N q (k + 1) (cloA (dst q) c.codes k).1 (dst q x.code) t ((cloA (dst q) c.codes k).2.map strRow) x.code x.grp x.val x.cls x.low HI.1 (hd x (List.mem_of_getElem? hx)) hx1 (by rw [List.length_map]; simp only [maxBytes]; omega)  (lt_dec hk) (decide_eq_false (by omega)) e1 (by simp)
        rw [wrapN (by omega)] at h
        refine ⟨(_, _), h, .inr ⟨k + 1, rfl, J', s.toks.length + 1, ?_, ?_⟩⟩
        · simp only [cloA, hc0, if_pos l1]; rfl
        · exact ⟨HI, by simp only [cloA, hc0, if_pos l1]; exact tok_new s.toks _, Nat.le_trans HT.own (Nat.le_succ_of_le (Nat.le_of_lt (List.getElem?_eq_some_iff.1 HT.tok).1))⟩
      | false =>
        have l1 : ¬ dst q x.code < (cloA (dst q) c.codes k).1 := by have := of_decide_eq_false e1; omega
        cases e2 : (((dst q x.code : Nat) : Int) == (((cloA (dst q) c.codes k).1 : Nat) : Int)) with
        | true =>
          have l2 : dst q x.code = (cloA (dst q) c.codes k).1 := by have := eq_of_beq e2; omega
          obtain ⟨J', h⟩ := r30o_5 (callee := callee) (cx := cx) (lf := lf) J s.boxes s.toks s.maps c.G c.C c.E c.K N q (k + 1) (cloA (dst q) c.codes k).1 (dst q x.code) t ((cloA (dst q) c.codes k).2.map strRow) x.code x.grp x.val x.cls x.low HI.1 (hd x (List.mem_of_getElem? hx)) hx1 (by rw [List.length_map]; exact HT.tok) HT.own (by rw [List.length_map]; simp only [maxBytes]; omega)  (lt_dec hk) (decide_eq_false (by omega)) e1 e2
          rw [wrapN (by omega)] at h
          refine ⟨(_, _), h, .inr ⟨k + 1, rfl, J', t, ?_, ?_⟩⟩
          · simp only [cloA, hc0, if_neg l1, if_pos l2, List.map_append]; rfl
          · exact ⟨HI, by simp only [cloA, hc0, if_neg l1, if_pos l2, List.length_append]; rw [tok_old HT.tok]; simp, HT.own⟩
        | false =>
          have l2 : ¬ dst q x.code = (cloA (dst q) c.codes k).1 := by intro h; rw [h] at e2; simp at e2
          obtain ⟨J', h⟩ := r30o_6 (callee := callee) (cx := cx) (lf := lf) J s.boxes s.toks s.maps c.G c.C c.E c.K N q (k + 1) (cloA (dst q) c.codes k).1 (dst q x.code) t ((cloA (dst q) c.codes k).2.map strRow) x.code x.grp x.val x.cls x.low HI.1 (hd x (List.mem_of_getElem? hx)) hx1  (lt_dec hk) (decide_eq_false (by omega)) e1 e2
          rw [wrapN (by omega)] at h
          refine ⟨(_, _), h, .inr ⟨k + 1, rfl, J', t, ?_, ?_⟩⟩
          · simp only [cloA, hc0, if_neg l1, if_neg l2]; rfl
          · exact ⟨HI, by simp only [cloA, hc0, if_neg l1, if_neg l2]; exact HT.tok, HT.own⟩
  · rintro ⟨e, s⟩ (⟨hm, J, he, HI, hct⟩ | ⟨k, hm, J, t, he, HT⟩)
    · simp only at he; subst he
      obtain ⟨J', h⟩ := r30n_0 (callee := callee) (cx := cx) (lf := lf) J s.boxes s.toks s.maps c.G c.C c.E c.K N q 0 0 0 [] [] 0 [] [] HI.1 (by rw [hm]; rfl)
      exact ⟨(envOf 45 [(1, .d (.str q)), (2, .ptr N 0), (5, .nilS), (6, .d (.int .i64 (-1))), (7, .d (.int .i64 ((0 : Nat) : Int)))] J', s), h, .inl ⟨hm, _, env_one (kn := [(1, .d (.str q)), (2, .ptr N 0), (5, .nilS), (6, .d (.int .i64 (-1))), (7, .d (.int .i64 ((0 : Nat) : Int)))]) (i := 5) (v := .nilS) (fun u => rfl) J'⟩⟩
    · simp only at he; subst he
      have HI := HT.cat
      obtain ⟨J', h⟩ := r30o_0 (callee := callee) (cx := cx) (lf := lf) J s.boxes s.toks s.maps c.G c.C c.E c.K N q (k + 1) (cloA (dst q) c.codes k).1 0 t ((cloA (dst q) c.codes k).2.map strRow) [] [] 0 [] [] HI.1 (not_lt_dec (by omega))
      exact ⟨(envOf 45 [(1, .d (.str q)), (2, .ptr N 0), (5, .own t ((cloA (dst q) c.codes k).2.map strRow)), (6, .d (.int .i64 (((cloA (dst q) c.codes k).1 : Nat) : Int))), (7, .d (.int .i64 ((k + 1 : Nat) : Int)))] J', s), h, .inr ⟨k, hm, _, t, env_one (kn := [(1, .d (.str q)), (2, .ptr N 0), (5, .own t ((cloA (dst q) c.codes k).2.map strRow)), (6, .d (.int .i64 (((cloA (dst q) c.codes k).1 : Nat) : Int))), (7, .d (.int .i64 ((k + 1 : Nat) : Int)))]) (i := 5) (v := .own t ((cloA (dst q) c.codes k).2.map strRow)) (fun u => rfl) J', HT.own⟩⟩

end
end Go.Rf

namespace Go.Rf
set_option maxRecDepth 100000
set_option linter.unusedVariables false
set_option linter.unusedSimpArgs false
variable {callee : Callee} {cx : Cx} {lf : Nat} (J : Nat → AV) (D : List (List AV)) (T : List (Nat × Nat)) (M : List (List (D_ × D_)))
theorem r8n_0  (G C E K : List (List D_)) (q : List Nat) (sm : Bool) (ck ix : Int) (L : List (List D_)) (l0 : List Nat) (h12 : ∀ s, callee 12 [] cx s = some (.ret (.d (.bool true)), s)) (h13 : ∀ s, callee 13 [.agg (CX G C E K)] cx s = some (.ret (.d (.bool sm)), s)) {n1 : Nat} (hn1 : List.length D = n1) (d0 : sm = false) : ∃ J', runC callee lf cx pf8.body (envOf 46 [(0, .agg (CX G C E K)), (1, .d (.str q))] J) ⟨D, T, M⟩ = some (.ret, envOf 46 [(4, .d (.bool true))] J', ⟨(pushB D (CX G C E K)), T, M⟩) :=
  h_run (hs := [.i n1, .c (CX G C E K), .v (.d (.bool true)), .c (CX G C E K), .v (.d (.bool false))]) (log := [callee 13 [.agg (CX G C E K)] cx ⟨(pushB D (CX G C E K)), T, M⟩ = some (.ret (.d (.bool false)), ⟨(pushB D (CX G C E K)), T, M⟩), BoxAt ((pushB D (CX G C E K))) n1 (CX G C E K), callee 12 [] cx ⟨(pushB D (CX G C E K)), T, M⟩ = some (.ret (.d (.bool true)), ⟨(pushB D (CX G C E K)), T, M⟩), List.length D = n1 ∧ AV.cells (.agg (CX G C E K)) = (CX G C E K) ∧ underL (List.length D) (CX G C E K) = true]) (by kernel_rfl) (.cons (by simp only [h13, d0]) (.cons (bxA_new hn1) (.cons (h12 _) (.cons ⟨hn1, rfl, rfl⟩ .nil))))
theorem r8n_1  (G C E K : List (List D_)) (q : List Nat) (sm : Bool) (ck ix : Int) (L : List (List D_)) (l0 : List Nat) (h12 : ∀ s, callee 12 [] cx s = some (.ret (.d (.bool true)), s)) (h13 : ∀ s, callee 13 [.agg (CX G C E K)] cx s = some (.ret (.d (.bool sm)), s)) {n1 : Nat} (hn1 : List.length D = n1) (d0 : sm = true) (d1 : (decide ((q.length : Int) > 20)) = true) : ∃ J', runC callee lf cx pf8.body (envOf 46 [(0, .agg (CX G C E K)), (1, .d (.str q))] J) ⟨D, T, M⟩ = some (.ret, envOf 46 [(4, .d (.bool true))] J', ⟨(pushB D (CX G C E K)), T, M⟩) :=
  h_run (hs := [.i n1, .c (CX G C E K), .v (.d (.bool true)), .c (CX G C E K), .v (.d (.bool true)), .b true]) (log := [(decide ((q.length : Int) > 20)) = true, callee 13 [.agg (CX G C E K)] cx ⟨(pushB D (CX G C E K)), T, M⟩ = some (.ret (.d (.bool true)), ⟨(pushB D (CX G C E K)), T, M⟩), BoxAt ((pushB D (CX G C E K))) n1 (CX G C E K), callee 12 [] cx ⟨(pushB D (CX G C E K)), T, M⟩ = some (.ret (.d (.bool true)), ⟨(pushB D (CX G C E K)), T, M⟩), List.length D = n1 ∧ AV.cells (.agg (CX G C E K)) = (CX G C E K) ∧ underL (List.length D) (CX G C E K) = true]) (by kernel_rfl) (.cons d1 (.cons (by simp only [h13, d0, d1]) (.cons (bxA_new hn1) (.cons (h12 _) (.cons ⟨hn1, rfl, rfl⟩ .nil)))))
theorem r8n_2  (G C E K : List (List D_)) (q : List Nat) (sm : Bool) (ck ix : Int) (L : List (List D_)) (l0 : List Nat) (h12 : ∀ s, callee 12 [] cx s = some (.ret (.d (.bool true)), s)) (h13 : ∀ s, callee 13 [.agg (CX G C E K)] cx s = some (.ret (.d (.bool sm)), s)) (h15 : ∀ s, callee 15 [.agg (CX G C E K)] cx s = some (.ret (.d (.int .i64 ck)), s)) {n1 : Nat} (hn1 : List.length D = n1) (d0 : sm = true) (d1 : (decide ((q.length : Int) > 20)) = false) (d2 : (ck != 0) = true) : ∃ J', runC callee lf cx pf8.body (envOf 46 [(0, .agg (CX G C E K)), (1, .d (.str q))] J) ⟨D, T, M⟩ = some (.ret, envOf 46 [(4, .d (.bool true))] J', ⟨(pushB D (CX G C E K)), T, M⟩) :=
  h_run (hs := [.i n1, .c (CX G C E K), .v (.d (.bool true)), .c (CX G C E K), .v (.d (.bool true)), .b false, .c (CX G C E K), .v (.d (.int .i64 ck)), .b true]) (log := [(ck != 0) = true, callee 15 [.agg (CX G C E K)] cx ⟨(pushB D (CX G C E K)), T, M⟩ = some (.ret (.d (.int .i64 ck)), ⟨(pushB D (CX G C E K)), T, M⟩), BoxAt ((pushB D (CX G C E K))) n1 (CX G C E K), (decide ((q.length : Int) > 20)) = false, callee 13 [.agg (CX G C E K)] cx ⟨(pushB D (CX G C E K)), T, M⟩ = some (.ret (.d (.bool true)), ⟨(pushB D (CX G C E K)), T, M⟩), BoxAt ((pushB D (CX G C E K))) n1 (CX G C E K), callee 12 [] cx ⟨(pushB D (CX G C E K)), T, M⟩ = some (.ret (.d (.bool true)), ⟨(pushB D (CX G C E K)), T, M⟩), List.length D = n1 ∧ AV.cells (.agg (CX G C E K)) = (CX G C E K) ∧ underL (List.length D) (CX G C E K) = true]) (by kernel_rfl) (.cons d2 (.cons (h15 _) (.cons (bxA_new hn1) (.cons d1 (.cons (by simp only [h13, d0, d1, d2]) (.cons (bxA_new hn1) (.cons (h12 _) (.cons ⟨hn1, rfl, rfl⟩ .nil))))))))
theorem r8n_3  (G C E K : List (List D_)) (q : List Nat) (sm : Bool) (ck ix : Int) (L : List (List D_)) (l0 : List Nat) (h12 : ∀ s, callee 12 [] cx s = some (.ret (.d (.bool true)), s)) (h13 : ∀ s, callee 13 [.agg (CX G C E K)] cx s = some (.ret (.d (.bool sm)), s)) (h15 : ∀ s, callee 15 [.agg (CX G C E K)] cx s = some (.ret (.d (.int .i64 ck)), s)) (h29 : ∀ s, callee 29 [.agg (CX G C E K), .d (.str q)] cx s = some (.ret (.nilS), s)) (h30 : ∀ s, callee 30 [.agg (CX G C E K), .d (.str q)] cx s = some (.ret (.nilS), s)) (h26 : ∀ s, callee 26 [.nilS, .nilS] cx s = some (.ret (.d (.bool true)), s)) (h20 : ∀ s, callee 20 [.agg (CX G C E K), .d (.str q)] cx s = some (.ret (.d (.int .i64 ix)), s)) {n1 : Nat} (hn1 : List.length D = n1) (d0 : sm = true) (d1 : (decide ((q.length : Int) > 20)) = false) (d2 : (ck != 0) = false) (d3 : (decide (ix < 0)) = true) : ∃ J', runC callee lf cx pf8.body (envOf 46 [(0, .agg (CX G C E K)), (1, .d (.str q))] J) ⟨D, T, M⟩ = some (.ret, envOf 46 [(4, .d (.bool true))] J', ⟨(pushB D (CX G C E K)), T, M⟩) :=
  h_run (hs := [.i n1, .c (CX G C E K), .v (.d (.bool true)), .c (CX G C E K), .v (.d (.bool true)), .b false, .c (CX G C E K), .v (.d (.int .i64 ck)), .b false, .c (CX G C E K), .v (.nilS), .c (CX G C E K), .v (.nilS), .v (.d (.bool true)), .c (CX G C E K), .v (.d (.int .i64 ix)), .b true]) (log := [(decide (ix < 0)) = true, callee 20 [.agg (CX G C E K), .d (.str q)] cx ⟨(pushB D (CX G C E K)), T, M⟩ = some (.ret (.d (.int .i64 ix)), ⟨(pushB D (CX G C E K)), T, M⟩), BoxAt ((pushB D (CX G C E K))) n1 (CX G C E K), callee 26 [.nilS, .nilS] cx ⟨(pushB D (CX G C E K)), T, M⟩ = some (.ret (.d (.bool true)), ⟨(pushB D (CX G C E K)), T, M⟩), callee 30 [.agg (CX G C E K), .d (.str q)] cx ⟨(pushB D (CX G C E K)), T, M⟩ = some (.ret (.nilS), ⟨(pushB D (CX G C E K)), T, M⟩), BoxAt ((pushB D (CX G C E K))) n1 (CX G C E K), callee 29 [.agg (CX G C E K), .d (.str q)] cx ⟨(pushB D (CX G C E K)), T, M⟩ = some (.ret (.nilS), ⟨(pushB D (CX G C E K)), T, M⟩), BoxAt ((pushB D (CX G C E K))) n1 (CX G C E K), (ck != 0) = false, callee 15 [.agg (CX G C E K)] cx ⟨(pushB D (CX G C E K)), T, M⟩ = some (.ret (.d (.int .i64 ck)), ⟨(pushB D (CX G C E K)), T, M⟩), BoxAt ((pushB D (CX G C E K))) n1 (CX G C E K), (decide ((q.length : Int) > 20)) = false, callee 13 [.agg (CX G C E K)] cx ⟨(pushB D (CX G C E K)), T, M⟩ = some (.ret (.d (.bool true)), ⟨(pushB D (CX G C E K)), T, M⟩), BoxAt ((pushB D (CX G C E K))) n1 (CX G C E K), callee 12 [] cx ⟨(pushB D (CX G C E K)), T, M⟩ = some (.ret (.d (.bool true)), ⟨(pushB D (CX G C E K)), T, M⟩), List.length D = n1 ∧ AV.cells (.agg (CX G C E K)) = (CX G C E K) ∧ underL (List.length D) (CX G C E K) = true]) (by kernel_rfl) (.cons d3 (.cons (h20 _) (.cons (bxA_new hn1) (.cons (h26 _) (.cons (h30 _) (.cons (bxA_new hn1) (.cons (h29 _) (.cons (bxA_new hn1) (.cons d2 (.cons (h15 _) (.cons (bxA_new hn1) (.cons d1 (.cons (by simp only [h13, d0, d1, d2, d3]) (.cons (bxA_new hn1) (.cons (h12 _) (.cons ⟨hn1, rfl, rfl⟩ .nil))))))))))))))))
theorem r8o_0  (G C E K : List (List D_)) (q : List Nat) (sm : Bool) (ck ix : Int) (L : List (List D_)) (l0 : List Nat) (h12 : ∀ s, callee 12 [] cx s = some (.ret (.d (.bool true)), s)) (h13 : ∀ s, callee 13 [.agg (CX G C E K)] cx s = some (.ret (.d (.bool sm)), s)) {n1 : Nat} (hn1 : List.length D = n1) (d0 : sm = false) : ∃ J', runC callee lf cx pf8.body (envOf 46 [(0, .agg (CX G C E K)), (1, .d (.str q))] J) ⟨D, T, M⟩ = some (.ret, envOf 46 [(4, .d (.bool true))] J', ⟨(pushB D (CX G C E K)), T, M⟩) :=
  h_run (hs := [.i n1, .c (CX G C E K), .v (.d (.bool true)), .c (CX G C E K), .v (.d (.bool false))]) (log := [callee 13 [.agg (CX G C E K)] cx ⟨(pushB D (CX G C E K)), T, M⟩ = some (.ret (.d (.bool false)), ⟨(pushB D (CX G C E K)), T, M⟩), BoxAt ((pushB D (CX G C E K))) n1 (CX G C E K), callee 12 [] cx ⟨(pushB D (CX G C E K)), T, M⟩ = some (.ret (.d (.bool true)), ⟨(pushB D (CX G C E K)), T, M⟩), List.length D = n1 ∧ AV.cells (.agg (CX G C E K)) = (CX G C E K) ∧ underL (List.length D) (CX G C E K) = true]) (by kernel_rfl) (.cons (by simp only [h13, d0]) (.cons (bxA_new hn1) (.cons (h12 _) (.cons ⟨hn1, rfl, rfl⟩ .nil))))
theorem r8o_1  (G C E K : List (List D_)) (q : List Nat) (sm : Bool) (ck ix : Int) (L : List (List D_)) (l0 : List Nat) (h12 : ∀ s, callee 12 [] cx s = some (.ret (.d (.bool true)), s)) (h13 : ∀ s, callee 13 [.agg (CX G C E K)] cx s = some (.ret (.d (.bool sm)), s)) {n1 : Nat} (hn1 : List.length D = n1) (d0 : sm = true) (d1 : (decide ((q.length : Int) > 20)) = true) : ∃ J', runC callee lf cx pf8.body (envOf 46 [(0, .agg (CX G C E K)), (1, .d (.str q))] J) ⟨D, T, M⟩ = some (.ret, envOf 46 [(4, .d (.bool true))] J', ⟨(pushB D (CX G C E K)), T, M⟩) :=
  h_run (hs := [.i n1, .c (CX G C E K), .v (.d (.bool true)), .c (CX G C E K), .v (.d (.bool true)), .b true]) (log := [(decide ((q.length : Int) > 20)) = true, callee 13 [.agg (CX G C E K)] cx ⟨(pushB D (CX G C E K)), T, M⟩ = some (.ret (.d (.bool true)), ⟨(pushB D (CX G C E K)), T, M⟩), BoxAt ((pushB D (CX G C E K))) n1 (CX G C E K), callee 12 [] cx ⟨(pushB D (CX G C E K)), T, M⟩ = some (.ret (.d (.bool true)), ⟨(pushB D (CX G C E K)), T, M⟩), List.length D = n1 ∧ AV.cells (.agg (CX G C E K)) = (CX G C E K) ∧ underL (List.length D) (CX G C E K) = true]) (by kernel_rfl) (.cons d1 (.cons (by simp only [h13, d0, d1]) (.cons (bxA_new hn1) (.cons (h12 _) (.cons ⟨hn1, rfl, rfl⟩ .nil)))))
theorem r8o_2  (G C E K : List (List D_)) (q : List Nat) (sm : Bool) (ck ix : Int) (L : List (List D_)) (l0 : List Nat) (h12 : ∀ s, callee 12 [] cx s = some (.ret (.d (.bool true)), s)) (h13 : ∀ s, callee 13 [.agg (CX G C E K)] cx s = some (.ret (.d (.bool sm)), s)) (h15 : ∀ s, callee 15 [.agg (CX G C E K)] cx s = some (.ret (.d (.int .i64 ck)), s)) {n1 : Nat} (hn1 : List.length D = n1) (d0 : sm = true) (d1 : (decide ((q.length : Int) > 20)) = false) (d2 : (ck != 0) = true) : ∃ J', runC callee lf cx pf8.body (envOf 46 [(0, .agg (CX G C E K)), (1, .d (.str q))] J) ⟨D, T, M⟩ = some (.ret, envOf 46 [(4, .d (.bool true))] J', ⟨(pushB D (CX G C E K)), T, M⟩) :=
  h_run (hs := [.i n1, .c (CX G C E K), .v (.d (.bool true)), .c (CX G C E K), .v (.d (.bool true)), .b false, .c (CX G C E K), .v (.d (.int .i64 ck)), .b true]) (log := [(ck != 0) = true, callee 15 [.agg (CX G C E K)] cx ⟨(pushB D (CX G C E K)), T, M⟩ = some (.ret (.d (.int .i64 ck)), ⟨(pushB D (CX G C E K)), T, M⟩), BoxAt ((pushB D (CX G C E K))) n1 (CX G C E K), (decide ((q.length : Int) > 20)) = false, callee 13 [.agg (CX G C E K)] cx ⟨(pushB D (CX G C E K)), T, M⟩ = some (.ret (.d (.bool true)), ⟨(pushB D (CX G C E K)), T, M⟩), BoxAt ((pushB D (CX G C E K))) n1 (CX G C E K), callee 12 [] cx ⟨(pushB D (CX G C E K)), T, M⟩ = some (.ret (.d (.bool true)), ⟨(pushB D (CX G C E K)), T, M⟩), List.length D = n1 ∧ AV.cells (.agg (CX G C E K)) = (CX G C E K) ∧ underL (List.length D) (CX G C E K) = true]) (by kernel_rfl) (.cons d2 (.cons (h15 _) (.cons (bxA_new hn1) (.cons d1 (.cons (by simp only [h13, d0, d1, d2]) (.cons (bxA_new hn1) (.cons (h12 _) (.cons ⟨hn1, rfl, rfl⟩ .nil))))))))
theorem r8o_3  (G C E K : List (List D_)) (q : List Nat) (sm : Bool) (ck ix : Int) (L : List (List D_)) (l0 : List Nat) (h12 : ∀ s, callee 12 [] cx s = some (.ret (.d (.bool true)), s)) (h13 : ∀ s, callee 13 [.agg (CX G C E K)] cx s = some (.ret (.d (.bool sm)), s)) (h15 : ∀ s, callee 15 [.agg (CX G C E K)] cx s = some (.ret (.d (.int .i64 ck)), s)) (h29 : ∀ s, callee 29 [.agg (CX G C E K), .d (.str q)] cx s = some (.ret (.d (.sl L)), s)) (h30 : ∀ s, callee 30 [.agg (CX G C E K), .d (.str q)] cx s = some (.ret (.d (.sl L)), s)) (h26 : ∀ s, callee 26 [.d (.sl L), .d (.sl L)] cx s = some (.ret (.d (.bool true)), s)) (h20 : ∀ s, callee 20 [.agg (CX G C E K), .d (.str q)] cx s = some (.ret (.d (.int .i64 ix)), s)) {n1 : Nat} (hn1 : List.length D = n1) (d0 : sm = true) (d1 : (decide ((q.length : Int) > 20)) = false) (d2 : (ck != 0) = false) (d3 : (decide (ix < 0)) = true) : ∃ J', runC callee lf cx pf8.body (envOf 46 [(0, .agg (CX G C E K)), (1, .d (.str q))] J) ⟨D, T, M⟩ = some (.ret, envOf 46 [(4, .d (.bool true))] J', ⟨(pushB D (CX G C E K)), T, M⟩) :=
  h_run (hs := [.i n1, .c (CX G C E K), .v (.d (.bool true)), .c (CX G C E K), .v (.d (.bool true)), .b false, .c (CX G C E K), .v (.d (.int .i64 ck)), .b false, .c (CX G C E K), .v (.d (.sl L)), .c (CX G C E K), .v (.d (.sl L)), .v (.d (.bool true)), .c (CX G C E K), .v (.d (.int .i64 ix)), .b true]) (log := [(decide (ix < 0)) = true, callee 20 [.agg (CX G C E K), .d (.str q)] cx ⟨(pushB D (CX G C E K)), T, M⟩ = some (.ret (.d (.int .i64 ix)), ⟨(pushB D (CX G C E K)), T, M⟩), BoxAt ((pushB D (CX G C E K))) n1 (CX G C E K), callee 26 [.d (.sl L), .d (.sl L)] cx ⟨(pushB D (CX G C E K)), T, M⟩ = some (.ret (.d (.bool true)), ⟨(pushB D (CX G C E K)), T, M⟩), callee 30 [.agg (CX G C E K), .d (.str q)] cx ⟨(pushB D (CX G C E K)), T, M⟩ = some (.ret (.d (.sl L)), ⟨(pushB D (CX G C E K)), T, M⟩), BoxAt ((pushB D (CX G C E K))) n1 (CX G C E K), callee 29 [.agg (CX G C E K), .d (.str q)] cx ⟨(pushB D (CX G C E K)), T, M⟩ = some (.ret (.d (.sl L)), ⟨(pushB D (CX G C E K)), T, M⟩), BoxAt ((pushB D (CX G C E K))) n1 (CX G C E K), (ck != 0) = false, callee 15 [.agg (CX G C E K)] cx ⟨(pushB D (CX G C E K)), T, M⟩ = some (.ret (.d (.int .i64 ck)), ⟨(pushB D (CX G C E K)), T, M⟩), BoxAt ((pushB D (CX G C E K))) n1 (CX G C E K), (decide ((q.length : Int) > 20)) = false, callee 13 [.agg (CX G C E K)] cx ⟨(pushB D (CX G C E K)), T, M⟩ = some (.ret (.d (.bool true)), ⟨(pushB D (CX G C E K)), T, M⟩), BoxAt ((pushB D (CX G C E K))) n1 (CX G C E K), callee 12 [] cx ⟨(pushB D (CX G C E K)), T, M⟩ = some (.ret (.d (.bool true)), ⟨(pushB D (CX G C E K)), T, M⟩), List.length D = n1 ∧ AV.cells (.agg (CX G C E K)) = (CX G C E K) ∧ underL (List.length D) (CX G C E K) = true]) (by kernel_rfl) (.cons d3 (.cons (h20 _) (.cons (bxA_new hn1) (.cons (h26 _) (.cons (h30 _) (.cons (bxA_new hn1) (.cons (h29 _) (.cons (bxA_new hn1) (.cons d2 (.cons (h15 _) (.cons (bxA_new hn1) (.cons d1 (.cons (by simp only [h13, d0, d1, d2, d3]) (.cons (bxA_new hn1) (.cons (h12 _) (.cons ⟨hn1, rfl, rfl⟩ .nil))))))))))))))))
theorem r8o_4  (G C E K : List (List D_)) (q : List Nat) (sm : Bool) (ck ix : Int) (L : List (List D_)) (l0 : List Nat) (h12 : ∀ s, callee 12 [] cx s = some (.ret (.d (.bool true)), s)) (h13 : ∀ s, callee 13 [.agg (CX G C E K)] cx s = some (.ret (.d (.bool sm)), s)) (h15 : ∀ s, callee 15 [.agg (CX G C E K)] cx s = some (.ret (.d (.int .i64 ck)), s)) (h29 : ∀ s, callee 29 [.agg (CX G C E K), .d (.str q)] cx s = some (.ret (.d (.sl L)), s)) (h30 : ∀ s, callee 30 [.agg (CX G C E K), .d (.str q)] cx s = some (.ret (.d (.sl L)), s)) (h26 : ∀ s, callee 26 [.d (.sl L), .d (.sl L)] cx s = some (.ret (.d (.bool true)), s)) (h20 : ∀ s, callee 20 [.agg (CX G C E K), .d (.str q)] cx s = some (.ret (.d (.int .i64 ix)), s)) {n1 : Nat} (hn1 : List.length D = n1) (d0 : sm = true) (d1 : (decide ((q.length : Int) > 20)) = false) (d2 : (ck != 0) = false) (d3 : (decide (ix < 0)) = false) (d4 : ((L.length : Int) == 1) = false) : ∃ J', runC callee lf cx pf8.body (envOf 46 [(0, .agg (CX G C E K)), (1, .d (.str q))] J) ⟨D, T, M⟩ = some (.ret, envOf 46 [(4, .d (.bool false))] J', ⟨(pushB D (CX G C E K)), T, M⟩) :=
  h_run (hs := [.i n1, .c (CX G C E K), .v (.d (.bool true)), .c (CX G C E K), .v (.d (.bool true)), .b false, .c (CX G C E K), .v (.d (.int .i64 ck)), .b false, .c (CX G C E K), .v (.d (.sl L)), .c (CX G C E K), .v (.d (.sl L)), .v (.d (.bool true)), .c (CX G C E K), .v (.d (.int .i64 ix)), .b false, .b false]) (log := [((L.length : Int) == 1) = false, (decide (ix < 0)) = false, callee 20 [.agg (CX G C E K), .d (.str q)] cx ⟨(pushB D (CX G C E K)), T, M⟩ = some (.ret (.d (.int .i64 ix)), ⟨(pushB D (CX G C E K)), T, M⟩), BoxAt ((pushB D (CX G C E K))) n1 (CX G C E K), callee 26 [.d (.sl L), .d (.sl L)] cx ⟨(pushB D (CX G C E K)), T, M⟩ = some (.ret (.d (.bool true)), ⟨(pushB D (CX G C E K)), T, M⟩), callee 30 [.agg (CX G C E K), .d (.str q)] cx ⟨(pushB D (CX G C E K)), T, M⟩ = some (.ret (.d (.sl L)), ⟨(pushB D (CX G C E K)), T, M⟩), BoxAt ((pushB D (CX G C E K))) n1 (CX G C E K), callee 29 [.agg (CX G C E K), .d (.str q)] cx ⟨(pushB D (CX G C E K)), T, M⟩ = some (.ret (.d (.sl L)), ⟨(pushB D (CX G C E K)), T, M⟩), BoxAt ((pushB D (CX G C E K))) n1 (CX G C E K), (ck != 0) = false, callee 15 [.agg (CX G C E K)] cx ⟨(pushB D (CX G C E K)), T, M⟩ = some (.ret (.d (.int .i64 ck)), ⟨(pushB D (CX G C E K)), T, M⟩), BoxAt ((pushB D (CX G C E K))) n1 (CX G C E K), (decide ((q.length : Int) > 20)) = false, callee 13 [.agg (CX G C E K)] cx ⟨(pushB D (CX G C E K)), T, M⟩ = some (.ret (.d (.bool true)), ⟨(pushB D (CX G C E K)), T, M⟩), BoxAt ((pushB D (CX G C E K))) n1 (CX G C E K), callee 12 [] cx ⟨(pushB D (CX G C E K)), T, M⟩ = some (.ret (.d (.bool true)), ⟨(pushB D (CX G C E K)), T, M⟩), List.length D = n1 ∧ AV.cells (.agg (CX G C E K)) = (CX G C E K) ∧ underL (List.length D) (CX G C E K) = true]) (by kernel_rfl) (.cons d4 (.cons d3 (.cons (h20 _) (.cons (bxA_new hn1) (.cons (h26 _) (.cons (h30 _) (.cons (bxA_new hn1) (.cons (h29 _) (.cons (bxA_new hn1) (.cons d2 (.cons (h15 _) (.cons (bxA_new hn1) (.cons d1 (.cons (by simp only [h13, d0, d1, d2, d3, d4]) (.cons (bxA_new hn1) (.cons (h12 _) (.cons ⟨hn1, rfl, rfl⟩ .nil)))))))))))))))))
theorem r8o_5  (G C E K : List (List D_)) (q : List Nat) (sm : Bool) (ck ix : Int) (L : List (List D_)) (l0 : List Nat) (h12 : ∀ s, callee 12 [] cx s = some (.ret (.d (.bool true)), s)) (h13 : ∀ s, callee 13 [.agg (CX G C E K)] cx s = some (.ret (.d (.bool sm)), s)) (h15 : ∀ s, callee 15 [.agg (CX G C E K)] cx s = some (.ret (.d (.int .i64 ck)), s)) (h29 : ∀ s, callee 29 [.agg (CX G C E K), .d (.str q)] cx s = some (.ret (.d (.sl L)), s)) (h30 : ∀ s, callee 30 [.agg (CX G C E K), .d (.str q)] cx s = some (.ret (.d (.sl L)), s)) (h26 : ∀ s, callee 26 [.d (.sl L), .d (.sl L)] cx s = some (.ret (.d (.bool true)), s)) (h20 : ∀ s, callee 20 [.agg (CX G C E K), .d (.str q)] cx s = some (.ret (.d (.int .i64 ix)), s)) (hL : L[0]? = some [.str l0]) {n1 : Nat} (hn1 : List.length D = n1) (d0 : sm = true) (d1 : (decide ((q.length : Int) > 20)) = false) (d2 : (ck != 0) = false) (d3 : (decide (ix < 0)) = false) (d4 : ((L.length : Int) == 1) = true) (d5 : (beqN l0 q) = true) : ∃ J', runC callee lf cx pf8.body (envOf 46 [(0, .agg (CX G C E K)), (1, .d (.str q))] J) ⟨D, T, M⟩ = some (.ret, envOf 46 [(4, .d (.bool true))] J', ⟨(pushB D (CX G C E K)), T, M⟩) :=
  h_run (hs := [.i n1, .c (CX G C E K), .v (.d (.bool true)), .c (CX G C E K), .v (.d (.bool true)), .b false, .c (CX G C E K), .v (.d (.int .i64 ck)), .b false, .c (CX G C E K), .v (.d (.sl L)), .c (CX G C E K), .v (.d (.sl L)), .v (.d (.bool true)), .c (CX G C E K), .v (.d (.int .i64 ix)), .b false, .b true, .r [.str l0], .b true]) (log := [(beqN l0 q) = true, (0 : Int) ≤ 0 ∧ L[Int.toNat 0]? = some [.str l0], ((L.length : Int) == 1) = true, (decide (ix < 0)) = false, callee 20 [.agg (CX G C E K), .d (.str q)] cx ⟨(pushB D (CX G C E K)), T, M⟩ = some (.ret (.d (.int .i64 ix)), ⟨(pushB D (CX G C E K)), T, M⟩), BoxAt ((pushB D (CX G C E K))) n1 (CX G C E K), callee 26 [.d (.sl L), .d (.sl L)] cx ⟨(pushB D (CX G C E K)), T, M⟩ = some (.ret (.d (.bool true)), ⟨(pushB D (CX G C E K)), T, M⟩), callee 30 [.agg (CX G C E K), .d (.str q)] cx ⟨(pushB D (CX G C E K)), T, M⟩ = some (.ret (.d (.sl L)), ⟨(pushB D (CX G C E K)), T, M⟩), BoxAt ((pushB D (CX G C E K))) n1 (CX G C E K), callee 29 [.agg (CX G C E K), .d (.str q)] cx ⟨(pushB D (CX G C E K)), T, M⟩ = some (.ret (.d (.sl L)), ⟨(pushB D (CX G C E K)), T, M⟩), BoxAt ((pushB D (CX G C E K))) n1 (CX G C E K), (ck != 0) = false, callee 15 [.agg (CX G C E K)] cx ⟨(pushB D (CX G C E K)), T, M⟩ = some (.ret (.d (.int .i64 ck)), ⟨(pushB D (CX G C E K)), T, M⟩), BoxAt ((pushB D (CX G C E K))) n1 (CX G C E K), (decide ((q.length : Int) > 20)) = false, callee 13 [.agg (CX G C E K)] cx ⟨(pushB D (CX G C E K)), T, M⟩ = some (.ret (.d (.bool true)), ⟨(pushB D (CX G C E K)), T, M⟩), BoxAt ((pushB D (CX G C E K))) n1 (CX G C E K), callee 12 [] cx ⟨(pushB D (CX G C E K)), T, M⟩ = some (.ret (.d (.bool true)), ⟨(pushB D (CX G C E K)), T, M⟩), List.length D = n1 ∧ AV.cells (.agg (CX G C E K)) = (CX G C E K) ∧ underL (List.length D) (CX G C E K) = true]) (by kernel_rfl) (.cons d5 (.cons (ix0 hL) (.cons d4 (.cons d3 (.cons (h20 _) (.cons (bxA_new hn1) (.cons (h26 _) (.cons (h30 _) (.cons (bxA_new hn1) (.cons (h29 _) (.cons (bxA_new hn1) (.cons d2 (.cons (h15 _) (.cons (bxA_new hn1) (.cons d1 (.cons (by simp only [h13, d0, d1, d2, d3, d4, d5]) (.cons (bxA_new hn1) (.cons (h12 _) (.cons ⟨hn1, rfl, rfl⟩ .nil)))))))))))))))))))
theorem r8o_6  (G C E K : List (List D_)) (q : List Nat) (sm : Bool) (ck ix : Int) (L : List (List D_)) (l0 : List Nat) (h12 : ∀ s, callee 12 [] cx s = some (.ret (.d (.bool true)), s)) (h13 : ∀ s, callee 13 [.agg (CX G C E K)] cx s = some (.ret (.d (.bool sm)), s)) (h15 : ∀ s, callee 15 [.agg (CX G C E K)] cx s = some (.ret (.d (.int .i64 ck)), s)) (h29 : ∀ s, callee 29 [.agg (CX G C E K), .d (.str q)] cx s = some (.ret (.d (.sl L)), s)) (h30 : ∀ s, callee 30 [.agg (CX G C E K), .d (.str q)] cx s = some (.ret (.d (.sl L)), s)) (h26 : ∀ s, callee 26 [.d (.sl L), .d (.sl L)] cx s = some (.ret (.d (.bool true)), s)) (h20 : ∀ s, callee 20 [.agg (CX G C E K), .d (.str q)] cx s = some (.ret (.d (.int .i64 ix)), s)) (hL : L[0]? = some [.str l0]) {n1 : Nat} (hn1 : List.length D = n1) (d0 : sm = true) (d1 : (decide ((q.length : Int) > 20)) = false) (d2 : (ck != 0) = false) (d3 : (decide (ix < 0)) = false) (d4 : ((L.length : Int) == 1) = true) (d5 : (beqN l0 q) = false) : ∃ J', runC callee lf cx pf8.body (envOf 46 [(0, .agg (CX G C E K)), (1, .d (.str q))] J) ⟨D, T, M⟩ = some (.ret, envOf 46 [(4, .d (.bool false))] J', ⟨(pushB D (CX G C E K)), T, M⟩) :=
  h_run (hs := [.i n1, .c (CX G C E K), .v (.d (.bool true)), .c (CX G C E K), .v (.d (.bool true)), .b false, .c (CX G C E K), .v (.d (.int .i64 ck)), .b false, .c (CX G C E K), .v (.d (.sl L)), .c (CX G C E K), .v (.d (.sl L)), .v (.d (.bool true)), .c (CX G C E K), .v (.d (.int .i64 ix)), .b false, .b true, .r [.str l0], .b false]) (log := [(beqN l0 q) = false, (0 : Int) ≤ 0 ∧ L[Int.toNat 0]? = some [.str l0], ((L.length : Int) == 1) = true, (decide (ix < 0)) = false, callee 20 [.agg (CX G C E K), .d (.str q)] cx ⟨(pushB D (CX G C E K)), T, M⟩ = some (.ret (.d (.int .i64 ix)), ⟨(pushB D (CX G C E K)), T, M⟩), BoxAt ((pushB D (CX G C E K))) n1 (CX G C E K), callee 26 [.d (.sl L), .d (.sl L)] cx ⟨(pushB D (CX G C E K)), T, M⟩ = some (.ret (.d (.bool true)), ⟨(pushB D (CX G C E K)), T, M⟩), callee 30 [.agg (CX G C E K), .d (.str q)] cx ⟨(pushB D (CX G C E K)), T, M⟩ = some (.ret (.d (.sl L)), ⟨(pushB D (CX G C E K)), T, M⟩), BoxAt ((pushB D (CX G C E K))) n1 (CX G C E K), callee 29 [.agg (CX G C E K), .d (.str q)] cx ⟨(pushB D (CX G C E K)), T, M⟩ = some (.ret (.d (.sl L)), ⟨(pushB D (CX G C E K)), T, M⟩), BoxAt ((pushB D (CX G C E K))) n1 (CX G C E K), (ck != 0) = false, callee 15 [.agg (CX G C E K)] cx ⟨(pushB D (CX G C E K)), T, M⟩ = some (.ret (.d (.int .i64 ck)), ⟨(pushB D (CX G C E K)), T, M⟩), BoxAt ((pushB D (CX G C E K))) n1 (CX G C E K), (decide ((q.length : Int) > 20)) = false, callee 13 [.agg (CX G C E K)] cx ⟨(pushB D (CX G C E K)), T, M⟩ = some (.ret (.d (.bool true)), ⟨(pushB D (CX G C E K)), T, M⟩), BoxAt ((pushB D (CX G C E K))) n1 (CX G C E K), callee 12 [] cx ⟨(pushB D (CX G C E K)), T, M⟩ = some (.ret (.d (.bool true)), ⟨(pushB D (CX G C E K)), T, M⟩), List.length D = n1 ∧ AV.cells (.agg (CX G C E K)) = (CX G C E K) ∧ underL (List.length D) (CX G C E K) = true]) (by kernel_rfl) (.cons d5 (.cons (ix0 hL) (.cons d4 (.cons d3 (.cons (h20 _) (.cons (bxA_new hn1) (.cons (h26 _) (.cons (h30 _) (.cons (bxA_new hn1) (.cons (h29 _) (.cons (bxA_new hn1) (.cons d2 (.cons (h15 _) (.cons (bxA_new hn1) (.cons d1 (.cons (by simp only [h13, d0, d1, d2, d3, d4, d5]) (.cons (bxA_new hn1) (.cons (h12 _) (.cons ⟨hn1, rfl, rfl⟩ .nil)))))))))))))))))))
end Go.Rf

namespace Go.Rf
set_option maxRecDepth 100000
set_option linter.unusedVariables false
set_option linter.unusedSimpArgs false
/-! ### plain facts -/
theorem byt_ext {a b : List Nat} (h : a.length = b.length) (k : ∀ j, j < a.length → byt a j = byt b j) : a = b := by
  refine List.ext_getElem? fun i => ?_
  by_cases hi : i < a.length
  · rw [byt_get hi, byt_get (by omega), k i hi]
  · rw [List.getElem?_eq_none (by omega), List.getElem?_eq_none (by omega)]
theorem lv_eq (a b : List Nat) : lv (byt a) (byt b) a.length b.length = 0 ↔ a = b :=
  ⟨fun h => by obtain ⟨h1, h2⟩ := (lv_zero _ _ _ _).1 h; exact byt_ext h1 h2, fun h => by subst h; exact (lv_zero _ _ _ _).2 ⟨rfl, fun _ _ => rfl⟩⟩
theorem bless_irr (a : List Nat) : bless a a = false := by
  induction a with
  | nil => rfl
  | cons x a ih =>
    have : Nat.blt x x = false := by rw [Bool.eq_false_iff]; simp [Nat.blt]
    simp [bless, ih, this]
theorem bless_trans : ∀ (a b c : List Nat), bless a b = true → bless b c = true → bless a c = true := by
  intro a
  induction a with
  | nil =>
    intro b c h1 h2
    cases c with
    | nil => cases b <;> simp [bless] at h1 h2
    | cons z c => rfl
  | cons x a ih =>
    intro b c h1 h2
    cases b with
    | nil => simp [bless] at h1
    | cons y b =>
      cases c with
      | nil => simp [bless] at h2
      | cons z c =>
        simp only [bless, Bool.or_eq_true, Bool.and_eq_true, Nat.beq_eq] at h1 h2 ⊢
        have e : ∀ a b : Nat, Nat.blt a b = true ↔ a < b := fun a b => by simp [Nat.blt, Nat.succ_le_iff]
        rw [e] at h1 h2 ⊢
        rcases h1 with h1 | ⟨h1, h1'⟩
        · rcases h2 with h2 | ⟨h2, h2'⟩
          · exact .inl (by omega)
          · exact .inl (by omega)
        · rcases h2 with h2 | ⟨h2, h2'⟩
          · exact .inl (by omega)
          · exact .inr ⟨by omega, ih _ _ h1' h2'⟩
/-- Rising codes are all different. -/
theorem codes_lt {c : Cat} (h : upR c.E = true) : ∀ i j, i < j → j < c.E.length → bless (c.codes.getD i []) (c.codes.getD j []) = true := by
  have step : ∀ k, k + 1 < c.E.length → bless (c.codes.getD k []) (c.codes.getD (k + 1) []) = true := by
    intro k hk
    have := all_range.1 h k (by omega)
    obtain ⟨x, hx, hx1, hx2⟩ := c.getE (k := k) (by omega)
    obtain ⟨y, hy, hy1, hy2⟩ := c.getE (k := k + 1) hk
    simp only [rowUp, hx2, hy2, Elm.row] at this
    rw [code_at hx, code_at hy]; exact this
  intro i j hij
  obtain ⟨d, rfl⟩ : ∃ d, j = i + 1 + d := ⟨j - (i + 1), by omega⟩
  induction d with
  | zero => exact fun hj => step i (by omega)
  | succ d ih => exact fun hj => bless_trans _ _ _ (ih (by omega) (by omega)) (step (i + 1 + d) (by omega))
theorem cloA_min (f : List Nat → Nat) (codes : List (List Nat)) : ∀ k j, j ≤ k → (cloA f codes k).1 ≤ f (codes.getD j [])
  | 0, j, hj => by
    have : j = 0 := by omega
    subst this
    exact Nat.le_refl _
  | k + 1, j, hj => by
    have ih := cloA_min f codes k
    simp only [cloA]
    by_cases hjk : j = k + 1
    · subst hjk
      split
      · exact Nat.le_refl _
      · split
        · simp only; omega
        · omega
    · have := ih j (by omega)
      split
      · simp only; omega
      · split
        · exact this
        · exact this
/-- Where just one code has the value 0, it stands alone from its place on. -/
theorem cloA_zero {f : List Nat → Nat} {codes : List (List Nat)} {i : Nat} (h0 : f (codes.getD i []) = 0) (hne : ∀ j, j ≠ i → j < codes.length → f (codes.getD j []) ≠ 0) : ∀ k, i ≤ k → k < codes.length → cloA f codes k = (0, [codes.getD i []]) := by
  intro k hk
  induction k with
  | zero =>
    intro hl
    obtain rfl : i = 0 := by omega
    simp only [cloA, h0]
  | succ k ih =>
    intro hl
    by_cases hik : i = k + 1
    · subst hik
      have hpos : 0 < (cloA f codes k).1 := by
        have key : ∀ m, m ≤ k → 0 < (cloA f codes m).1 := by
          intro m
          induction m with
          | zero => exact fun hm => Nat.pos_of_ne_zero (hne 0 (by omega) (by omega))
          | succ m ihm =>
            intro hm
            have h1 := ihm (by omega)
            have h2 := hne (m + 1) (by omega) (by omega)
            simp only [cloA]
            split
            · exact Nat.pos_of_ne_zero h2
            · split <;> exact h1
        exact key k (Nat.le_refl _)
      simp only [cloA, h0, if_pos hpos]
    · have := ih (by omega) (by omega)
      have hn := hne (k + 1) (by omega) hl
      simp only [cloA, this]
      rw [if_neg (by omega), if_neg (by omega)]
theorem dst_zero {q a : List Nat} : dst q a = 0 ↔ a = q := lv_eq a q
theorem sm_of {c : Cat} (h : smallB c = true) : Sm c := by
  simp only [smallB, Bool.and_eq_true, decide_eq_true_eq] at h
  exact ⟨by omega, by omega, by omega, by omega⟩
theorem chk_of {c : Cat} (h : chkR c = 0) : b47 c = true ∧ b48 c = true ∧ b49 c = true ∧ b50 c = true := by
  unfold chkR chkI at h
  revert h
  generalize decide (((List.length c.G : Nat) : Int) > 6) = t0
  generalize decide (((List.length c.C : Nat) : Int) > 12) = t1
  generalize decide (((List.length c.E : Nat) : Int) > 400) = t2
  generalize decide (((List.length c.K : Nat) : Int) > 144) = t3
  generalize b47 c = x
  generalize b48 c = y
  generalize b49 c = z
  generalize b50 c = w
  revert t0 t1 t2 t3 x y z w
  decide
theorem code_len {c : Cat} (h : b47 c = true) {x : Elm} (hx : x ∈ c.es) : x.code.length ≤ 8 := by
  simp only [b47, Bool.and_eq_true] at h
  obtain ⟨k, hk, rfl⟩ := List.getElem_of_mem hx
  have := all_range.1 h.2.2.1 k (by simpa using hk)
  obtain ⟨x, hx, hx1, hx2⟩ := c.getE (k := k) (by simpa using hk)
  have hx3 : c.es[k] = x := by rw [List.getElem?_eq_getElem hk] at hx; exact Option.some.inj hx
  rw [hx3]
  rw [hx2] at this
  simp only [refOk, Elm.row, codeB, Bool.and_eq_true, Bool.not_eq_true'] at this
  have := of_decide_eq_false this.1.1.1.1.2
  omega
end Go.Rf

namespace Go.Rf
set_option maxRecDepth 100000
set_option linter.unusedVariables false
set_option linter.unusedSimpArgs false
theorem leave_v {pf : PFn} {r N : Nat} {v w : AV} {J : Nat → AV} {s s' : St} (hq : pf.quiet = true) (hres : pf.res = [.t r]) (hr : r < N) (hf : freeze ⟨s.boxes.length, s.toks.length, s.maps.length⟩ v = some w) : leave pf s (some (.ret, envOf N [(r, v)] J, s')) = some (.ret w, s) := by
  have hg : (envOf N [(r, v)] J).getD r undefA = v := by
    rw [List.getD_eq_getElem?_getD, envOf, envFrom_get _ _ _ _ _ hr]
    simp [look]
  simp only [leave, hres, hq, readAll, readRes, hg, packRes, if_true, hf]
theorem quiet_runv {giv : Nat → Option (List AV → Cx → St → Option (Out × St))} {tb : Nat → Option PFn} {n f N r : Nat} {pf : PFn} {args : List AV} {kn : Kn} {w : AV} {cx : Cx} {s : St} (hg : giv f = none) (ht : tb f = some pf) (hq : pf.quiet = true) (hN : args.length ≤ pf.ntmps)
    (ha : enter pf args = envOf N kn (fun _ => undefA)) (hres : pf.res = [.t r]) (hr : r < N)
    (h : ∃ v J' s', freeze ⟨s.boxes.length, s.toks.length, s.maps.length⟩ v = some w ∧ runC (run giv tb n) n ⟨s.boxes.length, s.toks.length, s.maps.length⟩ pf.body (envOf N kn (fun _ => undefA)) s = some (.ret, envOf N [(r, v)] J', s')) :
    run giv tb (n + 1) f args cx s = some (.ret w, s) := by
  obtain ⟨v, J', s', hf, h⟩ := h
  simp only [run, hg, ht, if_pos hN, cxOf, hq, if_true, ha]
  rw [h]
  exact leave_v hq hres hr hf
def cloV (c : Cat) (q : List Nat) : AV := match c.E.length with
  | 0 => .nilS
  | m + 1 => .d (.sl ((cloA (dst q) c.codes m).2.map strRow))
theorem kdist (n : Nat) (f : Nat) (hf : giv5 f = some gDist) (cx : Cx) (s : St) (x q : List Nat) (hx : x.length ≤ 40) (hq : q.length ≤ 40) : KK (n + 1) f [.d (.str x), .d (.str q)] cx s = some (.ret (.d (.int .i64 ((dst q x : Nat) : Int))), s) := by
  simp only [run, hf, gDist, if_pos (And.intro hx hq)]; rfl
theorem k29 (n : Nat) (hn : 50 ≤ n) (c : Cat) (hc : c.E.length ≤ 40) (hl : ∀ x ∈ c.es, x.code.length ≤ 40) (q : List Nat) (hq : q.length ≤ 40) (cx : Cx) (s : St) : KK (n + 1) 29 [.agg c.cells, .d (.str q)] cx s = some (.ret (cloV c q), s) := by
  refine quiet_runv (pf := pf29) (N := 40) (r := 4) (kn := [(0, .agg c.cells), (1, .d (.str q))]) rfl rfl rfl (Nat.le_of_ble_eq_true rfl) rfl rfl (by decide) ?_
  obtain ⟨m, rfl⟩ : ∃ m, n = m + 1 := ⟨n - 1, by omega⟩
  have hcb : (⟨s.boxes.length, s.toks.length, s.maps.length⟩ : Cx).b = s.boxes.length := rfl
  have hct : (⟨s.boxes.length, s.toks.length, s.maps.length⟩ : Cx).t = s.toks.length := rfl
  have hd : ∀ (cx : Cx), ∀ x ∈ c.es, ∀ s, KK (m + 1) 27 [.d (.str x.code), .d (.str q)] cx s = some (.ret (.d (.int .i64 ((dst q x.code : Nat) : Int))), s) := fun cx x hx s => kdist m 27 rfl cx s x.code q (hl x hx) hq
  generalize hcx : (⟨s.boxes.length, s.toks.length, s.maps.length⟩ : Cx) = cx' at hcb hct
  generalize hnn : m + 1 = n at *
  obtain ⟨J1, h1⟩ := r29a_0 (callee := KK n) (cx := cx') (lf := n) (fun _ => undefA) s.boxes s.toks s.maps c.G c.C c.E c.K q rfl
  have I1 : CatI c cx'.b s.boxes.length ⟨pushB s.boxes c.cells, s.toks, s.maps⟩ := catI_new (by omega)
  obtain ⟨J2, h2⟩ := r29b_0 (callee := KK n) (cx := cx') (lf := n) J1 (pushB s.boxes c.cells) s.toks s.maps c.G c.C c.E c.K s.boxes.length q
  obtain ⟨J3, h3⟩ := r29c_0 (callee := KK n) (cx := cx') (lf := n) J2 (pushB s.boxes c.cells) s.toks s.maps c.G c.C c.E c.K s.boxes.length q
  obtain ⟨J4, h4⟩ := r29d_0 (callee := KK n) (cx := cx') (lf := n) J3 (pushB s.boxes c.cells) s.toks s.maps c.G c.C c.E c.K s.boxes.length q I1.1
  obtain ⟨p5, h5, h6⟩ := loop29 (callee := KK n) (cx := cx') (lf := n) c s.boxes.length q hc hn (fun x hx s => hd cx' x hx s) (J := J4) (s := ⟨pushB s.boxes c.cells, s.toks, s.maps⟩) I1 (by simp only; omega)
  rw [show pf29.body = .seq (cL pf29.body) (.seq (cL (cR pf29.body)) (.seq (cL (cR (cR pf29.body))) (.seq (.seq (cL (cL (cR (cR (cR pf29.body))))) (.block 0 (.loop (cO (cB (cR (cL (cR (cR (cR pf29.body)))))))))) (cR (cR (cR (cR pf29.body))))))) from rfl]
  rcases h6 with ⟨hm, J6, e6⟩ | ⟨k, hm, J6, t, e6, ht⟩
  · obtain ⟨J7, h7⟩ := r29f_0 (callee := KK n) (cx := cx') (lf := n) J6 p5.2.boxes p5.2.toks p5.2.maps c.G c.C c.E c.K
    refine ⟨.nilS, J7, p5.2, ?_, run_seq h1 (run_seq h2 (run_seq h3 (run_seq (run_seq h4 h5) (by rw [e6]; exact h7))))⟩
    simp only [cloV, hm]; rfl
  · obtain ⟨J7, h7⟩ := r29e_0 (callee := KK n) (cx := cx') (lf := n) J6 p5.2.boxes p5.2.toks p5.2.maps c.G c.C c.E c.K t ((cloA (dst q) c.codes k).2.map strRow)
    refine ⟨_, J7, p5.2, ?_, run_seq h1 (run_seq h2 (run_seq h3 (run_seq (run_seq h4 h5) (by rw [e6]; exact h7))))⟩
    simp only [cloV, hm, freeze, freeze2, freeze1]
    rw [if_neg (by omega)]

theorem k30 (n : Nat) (hn : 50 ≤ n) (c : Cat) (hc : c.E.length ≤ 40) (hl : ∀ x ∈ c.es, x.code.length ≤ 40) (q : List Nat) (hq : q.length ≤ 40) (cx : Cx) (s : St) : KK (n + 1) 30 [.agg c.cells, .d (.str q)] cx s = some (.ret (cloV c q), s) := by
  refine quiet_runv (pf := pf30) (N := 45) (r := 4) (kn := [(0, .agg c.cells), (1, .d (.str q))]) rfl rfl rfl (Nat.le_of_ble_eq_true rfl) rfl rfl (by decide) ?_
  obtain ⟨m, rfl⟩ : ∃ m, n = m + 1 := ⟨n - 1, by omega⟩
  have hcb : (⟨s.boxes.length, s.toks.length, s.maps.length⟩ : Cx).b = s.boxes.length := rfl
  have hct : (⟨s.boxes.length, s.toks.length, s.maps.length⟩ : Cx).t = s.toks.length := rfl
  have hd : ∀ (cx : Cx), ∀ x ∈ c.es, ∀ s, KK (m + 1) 28 [.d (.str x.code), .d (.str q)] cx s = some (.ret (.d (.int .i64 ((dst q x.code : Nat) : Int))), s) := fun cx x hx s => kdist m 28 rfl cx s x.code q (hl x hx) hq
  generalize hcx : (⟨s.boxes.length, s.toks.length, s.maps.length⟩ : Cx) = cx' at hcb hct
  generalize hnn : m + 1 = n at *
  obtain ⟨J1, h1⟩ := r30a_0 (callee := KK n) (cx := cx') (lf := n) (fun _ => undefA) s.boxes s.toks s.maps c.G c.C c.E c.K q rfl
  have I1 : CatI c cx'.b s.boxes.length ⟨pushB s.boxes c.cells, s.toks, s.maps⟩ := catI_new (by omega)
  obtain ⟨J2, h2⟩ := r30b_0 (callee := KK n) (cx := cx') (lf := n) J1 (pushB s.boxes c.cells) s.toks s.maps c.G c.C c.E c.K s.boxes.length q
  obtain ⟨J3, h3⟩ := r30c_0 (callee := KK n) (cx := cx') (lf := n) J2 (pushB s.boxes c.cells) s.toks s.maps c.G c.C c.E c.K s.boxes.length q
  obtain ⟨J4, h4⟩ := r30d_0 (callee := KK n) (cx := cx') (lf := n) J3 (pushB s.boxes c.cells) s.toks s.maps c.G c.C c.E c.K s.boxes.length q
  obtain ⟨p5, h5, h6⟩ := loop30 (callee := KK n) (cx := cx') (lf := n) c s.boxes.length q hc hn (fun x hx s => hd cx' x hx s) (J := J4) (s := ⟨pushB s.boxes c.cells, s.toks, s.maps⟩) I1 (by simp only; omega)
  rw [show pf30.body = .seq (cL pf30.body) (.seq (cL (cR pf30.body)) (.seq (cL (cR (cR pf30.body))) (.seq (.seq (cL (cL (cR (cR (cR pf30.body))))) (.block 0 (.loop (cO (cB (cR (cL (cR (cR (cR pf30.body)))))))))) (cR (cR (cR (cR pf30.body))))))) from rfl]
  rcases h6 with ⟨hm, J6, e6⟩ | ⟨k, hm, J6, t, e6, ht⟩
  · obtain ⟨J7, h7⟩ := r30f_0 (callee := KK n) (cx := cx') (lf := n) J6 p5.2.boxes p5.2.toks p5.2.maps c.G c.C c.E c.K
    refine ⟨.nilS, J7, p5.2, ?_, run_seq h1 (run_seq h2 (run_seq h3 (run_seq (run_seq h4 h5) (by rw [e6]; exact h7))))⟩
    simp only [cloV, hm]; rfl
  · obtain ⟨J7, h7⟩ := r30e_0 (callee := KK n) (cx := cx') (lf := n) J6 p5.2.boxes p5.2.toks p5.2.maps c.G c.C c.E c.K t ((cloA (dst q) c.codes k).2.map strRow)
    refine ⟨_, J7, p5.2, ?_, run_seq h1 (run_seq h2 (run_seq h3 (run_seq (run_seq h4 h5) (by rw [e6]; exact h7))))⟩
    simp only [cloV, hm, freeze, freeze2, freeze1]
    rw [if_neg (by omega)]

theorem k26n (n : Nat) (cx : Cx) (s : St) : KK (n + 2) 26 [.nilS, .nilS] cx s = some (.ret (.d (.bool true)), s) := rfl
theorem sameR_refl (C : List (List Nat)) : sameR C C = true := by
  have : ∀ a : List Nat, beqN a a = true := fun a => beqN_iff.2 rfl
  simp [sameR, this]
theorem closest_run (c : Cat) (q : List Nat) : KK 102 8 [.agg c.cells, .d (.str q)] cx0 st0 = some (.ret (.d (.bool true)), st0) := by
  refine quiet_run (pf := pf8) (N := 46) (r := 4) (kn := [(0, .agg c.cells), (1, .d (.str q))]) rfl rfl rfl (Nat.le_of_ble_eq_true rfl) rfl rfl (by decide) fun t m => ?_
  have h12 : ∀ cx s, KK 101 12 [] cx s = some (.ret (.d (.bool true)), s) := fun cx s => rfl
  have h13 := fun cx s => k13 100 c cx s
  have base : ∀ s : St, True := fun _ => trivial
  cases hsm : smallB c with
  | false =>
    rw [hsm] at h13
    obtain ⟨J', h⟩ := r8n_0 (callee := KK 101) (cx := ⟨st0.boxes.length, t, m⟩) (lf := 101) (fun _ => undefA) st0.boxes st0.toks st0.maps c.G c.C c.E c.K q false 0 0 [] [] (h12 _) (h13 _) rfl rfl
    exact ⟨J', _, h⟩
  | true =>
  rw [hsm] at h13
  have hs := sm_of hsm
  cases e1 : decide (((List.length q : Nat) : Int) > 20) with
  | true =>
    obtain ⟨J', h⟩ := r8n_1 (callee := KK 101) (cx := ⟨st0.boxes.length, t, m⟩) (lf := 101) (fun _ => undefA) st0.boxes st0.toks st0.maps c.G c.C c.E c.K q true 0 0 [] [] (h12 _) (h13 _) rfl rfl e1
    exact ⟨J', _, h⟩
  | false =>
  have lq : q.length ≤ 20 := by have := of_decide_eq_false e1; omega
  have h15 := fun cx s => k15 96 (by omega) c hs cx s
  cases e2 : (chkR c != 0) with
  | true =>
    obtain ⟨J', h⟩ := r8n_2 (callee := KK 101) (cx := ⟨st0.boxes.length, t, m⟩) (lf := 101) (fun _ => undefA) st0.boxes st0.toks st0.maps c.G c.C c.E c.K q true (chkR c) 0 [] [] (h12 _) (h13 _) (h15 _) rfl rfl e1 e2
    exact ⟨J', _, h⟩
  | false =>
  have hck : chkR c = 0 := by simpa using e2
  obtain ⟨hb47, hb48, _, _⟩ := chk_of hck
  have hl : ∀ x ∈ c.es, x.code.length ≤ 40 := fun x hx => Nat.le_trans (code_len hb47 hx) (by omega)
  have h29 := fun cx s => k29 100 (by omega) c hs.e hl q (by omega) cx s
  have h30 := fun cx s => k30 100 (by omega) c hs.e hl q (by omega) cx s
  have h20 := fun cx s => k20 100 (by omega) c hs.e cx s q
  cases hm : c.E.length with
  | zero =>
    have hv : cloV c q = .nilS := by simp only [cloV, hm]
    rw [hv] at h29 h30
    have hix : decide (rIdx q c.E < 0) = true := by
      rw [rIdx_none (fun k hk => by omega)]; rfl
    obtain ⟨J', h⟩ := r8n_3 (callee := KK 101) (cx := ⟨st0.boxes.length, t, m⟩) (lf := 101) (fun _ => undefA) st0.boxes st0.toks st0.maps c.G c.C c.E c.K q true (chkR c) (rIdx q c.E) [] [] (h12 _) (h13 _) (h15 _) (h29 _) (h30 _) (fun s => k26n 99 _ s) (h20 _) rfl rfl e1 e2 hix
    exact ⟨J', _, h⟩
  | succ k =>
    have hv : cloV c q = .d (.sl ((cloA (dst q) c.codes k).2.map strRow)) := by simp only [cloV, hm]
    rw [hv] at h29 h30
    have hlen := (cloA_len (dst q) c.codes k).1
    have h26 := fun cx s => k26 100 (by omega) (cloA (dst q) c.codes k).2 (cloA (dst q) c.codes k).2 (by rw [List.length_map]; have := hs.e; omega) cx s
    rw [sameR_refl] at h26
    cases e3 : decide (rIdx q c.E < 0) with
    | true =>
      obtain ⟨J', h⟩ := r8o_3 (callee := KK 101) (cx := ⟨st0.boxes.length, t, m⟩) (lf := 101) (fun _ => undefA) st0.boxes st0.toks st0.maps c.G c.C c.E c.K q true (chkR c) (rIdx q c.E) ((cloA (dst q) c.codes k).2.map strRow) [] (h12 _) (h13 _) (h15 _) (h29 _) (h30 _) (h26 _) (h20 _) rfl rfl e1 e2 e3
      exact ⟨J', _, h⟩
    | false =>
      have h0 : 0 ≤ rIdx q c.E := by have := of_decide_eq_false e3; omega
      obtain ⟨i1, i2⟩ := rIdx_lt h0
      obtain ⟨x, hx, hx1, hx2⟩ := c.getE i1
      have hcode : x.code = q := by
        have hi : c.E.findIdx? (rowIs q) = some (rIdx q c.E).toNat := by
          have h00 := h0
          unfold rIdx at h00 ⊢
          cases e : c.E.findIdx? (rowIs q) with
          | none => rw [e] at h00; simp at h00
          | some i => simp
        rw [List.findIdx?_eq_some_iff_getElem] at hi
        obtain ⟨hi1, hi2, _⟩ := hi
        have : c.E[(rIdx q c.E).toNat] = Elm.row x := by rw [List.getElem?_eq_getElem hi1] at hx1; exact Option.some.inj hx1
        rw [this] at hi2
        exact beqN_iff.1 hi2
      have hup : upR c.E = true := by simp only [b48, Bool.and_eq_true] at hb48; exact hb48.2.1
      have hclen : c.codes.length = c.E.length := by simp [Cat.codes]
      have hz : cloA (dst q) c.codes k = (0, [c.codes.getD (rIdx q c.E).toNat []]) := by
        refine cloA_zero ?_ (fun j hj hjl hz => ?_) k (by omega) (by omega)
        · rw [code_at hx, dst_zero]; exact hcode
        · rw [dst_zero] at hz
          rcases Nat.lt_or_gt_of_ne hj with h | h
          · have := codes_lt hup j (rIdx q c.E).toNat h i1
            rw [hz, code_at hx, hcode, bless_irr] at this; exact absurd this (by simp)
          · have := codes_lt hup (rIdx q c.E).toNat j h (by omega)
            rw [hz, code_at hx, hcode, bless_irr] at this; exact absurd this (by simp)
      rw [code_at hx, hcode] at hz
      rw [hz] at h29 h30 h26
      obtain ⟨J', h⟩ := r8o_5 (callee := KK 101) (cx := ⟨st0.boxes.length, t, m⟩) (lf := 101) (fun _ => undefA) st0.boxes st0.toks st0.maps c.G c.C c.E c.K q true (chkR c) (rIdx q c.E) [[.str q]] q (h12 _) (h13 _) (h15 _) (h29 _) (h30 _) (h26 _) (h20 _) rfl rfl rfl e1 e2 e3 rfl (beqN_iff.2 rfl)
      exact ⟨J', _, h⟩
end Go.Rf
