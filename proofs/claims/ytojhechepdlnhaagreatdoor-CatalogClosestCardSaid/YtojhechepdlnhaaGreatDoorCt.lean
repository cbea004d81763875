/- The document's functions over catalogs: what they return, at every state. -/
import Derived.Test.YtojhechepdlnhaaGreatDoorCs
import Derived.Test.YtojhechepdlnhaaGreatDoorPk
import Derived.Test.YtojhechepdlnhaaGreatDoorAwake
import Derived.Test.YtojhechepdlnhaaGreatDoorDq
namespace Go.Rf
set_option maxRecDepth 100000
set_option linter.unusedVariables false
set_option linter.unusedSimpArgs false
theorem leave_d {pf : PFn} {r N : Nat} {x : D} {J : Nat → AV} {s s' : St} (hq : pf.quiet = true) (hres : pf.res = [.t r]) (hr : r < N) : leave pf s (some (.ret, envOf N [(r, .d x)] J, s')) = some (.ret (.d x), s) := by
  have hg : (envOf N [(r, .d x)] J).getD r undefA = .d x := by
    rw [List.getD_eq_getElem?_getD, envOf, envFrom_get _ _ _ _ _ hr]
    simp [look]
  simp only [leave, hres, hq, readAll, readRes, hg, packRes, if_true, freeze, freeze2, freeze1]
/-- A quiet function's run. -/
theorem quiet_run {giv : Nat → Option (List AV → Cx → St → Option (Out × St))} {tb : Nat → Option PFn} {n f N r : Nat} {pf : PFn} {args : List AV} {kn : Kn} {x : D} {cx : Cx} {s : St} (hg : giv f = none) (ht : tb f = some pf) (hq : pf.quiet = true) (hN : args.length ≤ pf.ntmps)
    (ha : enter pf args = envOf N kn (fun _ => undefA)) (hres : pf.res = [.t r]) (hr : r < N)
    (h : ∀ t m, ∃ J' s', runC (run giv tb n) n ⟨s.boxes.length, t, m⟩ pf.body (envOf N kn (fun _ => undefA)) s = some (.ret, envOf N [(r, .d x)] J', s')) :
    run giv tb (n + 1) f args cx s = some (.ret (.d x), s) := by
  obtain ⟨J', s', h⟩ := h s.toks.length s.maps.length
  simp only [run, hg, ht, if_pos hN, cxOf, hq, if_true, ha]
  rw [h]
  exact leave_d hq hres hr
abbrev Cat.G (c : Cat) : List (List D) := c.gs.map Gp.row
abbrev Cat.C (c : Cat) : List (List D) := c.cs.map strRow
abbrev Cat.E (c : Cat) : List (List D) := c.es.map Elm.row
abbrev Cat.K (c : Cat) : List (List D) := c.ks.map Cnn.row
def CatI (c : Cat) (b N : Nat) (s : St) : Prop := BoxAt s.boxes N c.cells ∧ b ≤ s.boxes.length
theorem row_get {α : Type} (f : α → List D) (l : List α) {k : Nat} (h : k < (l.map f).length) : ∃ x, l[k]? = some x ∧ (l.map f)[k]? = some (f x) ∧ (l.map f).getD k [] = f x := by
  have h : k < l.length := by simpa using h
  refine ⟨l[k], by simp [h], by simp [h], by simp [h]⟩
theorem Cat.getG (c : Cat) {k : Nat} (h : k < c.G.length) : ∃ x, c.gs[k]? = some x ∧ c.G[k]? = some (Gp.row x) ∧ c.G.getD k [] = Gp.row x := row_get _ _ h
theorem Cat.getC (c : Cat) {k : Nat} (h : k < c.C.length) : ∃ x, c.cs[k]? = some x ∧ c.C[k]? = some (strRow x) ∧ c.C.getD k [] = strRow x := row_get _ _ h
theorem Cat.getE (c : Cat) {k : Nat} (h : k < c.E.length) : ∃ x, c.es[k]? = some x ∧ c.E[k]? = some (Elm.row x) ∧ c.E.getD k [] = Elm.row x := row_get _ _ h
theorem Cat.getK (c : Cat) {k : Nat} (h : k < c.K.length) : ∃ x, c.ks[k]? = some x ∧ c.K[k]? = some (Cnn.row x) ∧ c.K.getD k [] = Cnn.row x := row_get _ _ h
/-! ### rising -/
def rowUp (G : List (List D)) (k : Nat) : Bool := match G.getD k [], G.getD (k + 1) [] with
  | .str a :: _, .str b :: _ => bless a b
  | _, _ => true
def rowUpK (G : List (List D)) (k : Nat) : Bool := match G.getD k [], G.getD (k + 1) [] with
  | .str a :: .str b :: _, .str c :: .str d :: _ => befB a b c d
  | _, _ => true
def upR (G : List (List D)) : Bool := (List.range (G.length - 1)).all (rowUp G)
def upK (G : List (List D)) : Bool := (List.range (G.length - 1)).all (rowUpK G)
section
variable {callee : Callee} {cx : Cx} {lf : Nat}
theorem not_lt_dec {a b : Nat} (h : b ≤ a) : decide (((a : Nat) : Int) < ((b : Nat) : Int)) = false := decide_eq_false (by omega)
theorem lt_dec {a b : Nat} (h : a < b) : decide (((a : Nat) : Int) < ((b : Nat) : Int)) = true := decide_eq_true (by omega)
theorem sub_w {k : Nat} (h : k < 1000000) : IntKind.wrap .i64 (((k + 1 : Nat) : Int) - 1) = ((k : Nat) : Int) := by rw [wrapP (by omega) (by omega)]; rfl
theorem l48b (c : Cat) (N : Nat) (hs : c.G.length < 1000000) (hlf : c.G.length < lf) : Scan callee cx lf (.block 0 (.loop (cO (cB (cR (cL (cR pf48.body)))))))
    71 [(1, .ptr N 0), (3, .d (.int .i64 1))] 2 [(1, .ptr N 0)] (CatI c cx.b N) (upR c.G) := by
  refine Scan.count [(1, .ptr N 0)] 3 (fun k => .d (.int .i64 ((k + 1 : Nat) : Int))) (rowUp c.G) (by omega) ?_ ?_ ?_
  · intro k J s hk hg hI
    obtain ⟨x, hx, hx1, hx2⟩ := c.getG (k := k) (by omega)
    obtain ⟨y, hy, hy1, hy2⟩ := c.getG (k := k + 1) (by omega)
    simp only [rowUp, hx2, hy2, Gp.row] at hg
    obtain ⟨J', h⟩ := r48b_2 (callee := callee) (cx := cx) (lf := lf) J s.boxes s.toks s.maps c.G c.C c.E c.K N k _ _ _ _ _ _ hI.1 (sub_w (by omega)) hy1 hx1 (lt_dec (by omega)) (by rw [hg]; rfl)
    rw [wrapN (by omega)] at h
    exact ⟨J', s, h, hI⟩
  · intro k J s hk hg hI
    obtain ⟨x, hx, hx1, hx2⟩ := c.getG (k := k) (by omega)
    obtain ⟨y, hy, hy1, hy2⟩ := c.getG (k := k + 1) (by omega)
    simp only [rowUp, hx2, hy2, Gp.row] at hg
    obtain ⟨J', h⟩ := r48b_1 (callee := callee) (cx := cx) (lf := lf) J s.boxes s.toks s.maps c.G c.C c.E c.K N k _ _ _ _ _ _ hI.1 (sub_w (by omega)) hy1 hx1 (lt_dec (by omega)) (by rw [hg]; rfl)
    exact ⟨J', s, h⟩
  · intro J s hI
    obtain ⟨J', h⟩ := r48b_0 (callee := callee) (cx := cx) (lf := lf) J s.boxes s.toks s.maps c.G c.C c.E c.K N (c.G.length - 1) [] 0 0 [] 0 0 hI.1 (not_lt_dec (by omega))
    exact ⟨J', s, h, hI⟩
theorem l48c (c : Cat) (N : Nat) (hs : c.E.length < 1000000) (hlf : c.E.length < lf) : Scan callee cx lf (.block 2 (.loop (cO (cB (cR (cL (cR (cR pf48.body))))))))
    71 [(1, .ptr N 0), (4, .d (.int .i64 1))] 2 [(1, .ptr N 0)] (CatI c cx.b N) (upR c.E) := by
  refine Scan.count [(1, .ptr N 0)] 4 (fun k => .d (.int .i64 ((k + 1 : Nat) : Int))) (rowUp c.E) (by omega) ?_ ?_ ?_
  · intro k J s hk hg hI
    obtain ⟨x, hx, hx1, hx2⟩ := c.getE (k := k) (by omega)
    obtain ⟨y, hy, hy1, hy2⟩ := c.getE (k := k + 1) (by omega)
    simp only [rowUp, hx2, hy2, Elm.row] at hg
    obtain ⟨J', h⟩ := r48c_2 (callee := callee) (cx := cx) (lf := lf) J s.boxes s.toks s.maps c.G c.C c.E c.K N k _ _ _ _ _ _ _ _ _ _ hI.1 (sub_w (by omega)) hy1 hx1 (lt_dec (by omega)) (by rw [hg]; rfl)
    rw [wrapN (by omega)] at h
    exact ⟨J', s, h, hI⟩
  · intro k J s hk hg hI
    obtain ⟨x, hx, hx1, hx2⟩ := c.getE (k := k) (by omega)
    obtain ⟨y, hy, hy1, hy2⟩ := c.getE (k := k + 1) (by omega)
    simp only [rowUp, hx2, hy2, Elm.row] at hg
    obtain ⟨J', h⟩ := r48c_1 (callee := callee) (cx := cx) (lf := lf) J s.boxes s.toks s.maps c.G c.C c.E c.K N k _ _ _ _ _ _ _ _ _ _ hI.1 (sub_w (by omega)) hy1 hx1 (lt_dec (by omega)) (by rw [hg]; rfl)
    exact ⟨J', s, h⟩
  · intro J s hI
    obtain ⟨J', h⟩ := r48c_0 (callee := callee) (cx := cx) (lf := lf) J s.boxes s.toks s.maps c.G c.C c.E c.K N (c.E.length - 1) [] [] 0 [] [] [] [] 0 [] [] hI.1 (not_lt_dec (by omega))
    exact ⟨J', s, h, hI⟩
theorem l48d (c : Cat) (N : Nat) (h103 : ∀ (s : St) (f0 s0 : List Nat) (v0 : Int) (f1 s1 : List Nat) (v1 : Int), callee 103 [.agg [.d (.str f0), .d (.str s0), .d (.int .i64 v0)], .agg [.d (.str f1), .d (.str s1), .d (.int .i64 v1)]] cx s = some (.ret (.d (.bool (befB f0 s0 f1 s1))), s)) (hs : c.K.length < 1000000) (hlf : c.K.length < lf) : Scan callee cx lf (.block 4 (.loop (cO (cB (cR (cL (cR (cR (cR pf48.body)))))))))
    71 [(1, .ptr N 0), (5, .d (.int .i64 1))] 2 [(1, .ptr N 0)] (CatI c cx.b N) (upK c.K) := by
  refine Scan.count [(1, .ptr N 0)] 5 (fun k => .d (.int .i64 ((k + 1 : Nat) : Int))) (rowUpK c.K) (by omega) ?_ ?_ ?_
  · intro k J s hk hg hI
    obtain ⟨x, hx, hx1, hx2⟩ := c.getK (k := k) (by omega)
    obtain ⟨y, hy, hy1, hy2⟩ := c.getK (k := k + 1) (by omega)
    simp only [rowUpK, hx2, hy2, Cnn.row] at hg
    obtain ⟨J', h⟩ := r48d_1 (callee := callee) (cx := cx) (lf := lf) J s.boxes s.toks s.maps c.G c.C c.E c.K N k _ _ _ _ _ _ hI.1 (sub_w (by omega)) hy1 hx1 h103 (lt_dec (by omega)) (by rw [hg])
    rw [wrapN (by omega)] at h
    exact ⟨J', s, h, hI⟩
  · intro k J s hk hg hI
    obtain ⟨x, hx, hx1, hx2⟩ := c.getK (k := k) (by omega)
    obtain ⟨y, hy, hy1, hy2⟩ := c.getK (k := k + 1) (by omega)
    simp only [rowUpK, hx2, hy2, Cnn.row] at hg
    obtain ⟨J', h⟩ := r48d_2 (callee := callee) (cx := cx) (lf := lf) J s.boxes s.toks s.maps c.G c.C c.E c.K N k _ _ _ _ _ _ hI.1 (sub_w (by omega)) hy1 hx1 h103 (lt_dec (by omega)) (by rw [hg])
    exact ⟨J', s, h⟩
  · intro J s hI
    obtain ⟨J', h⟩ := r48d_0 (callee := callee) (cx := cx) (lf := lf) J s.boxes s.toks s.maps c.G c.C c.E c.K N (c.K.length - 1) [] [] 0 [] [] 0 hI.1 (not_lt_dec (by omega))
    exact ⟨J', s, h, hI⟩
theorem catI_new {c : Cat} {b : Nat} {D : List (List AV)} {T : List (Nat × Nat)} {M : List (List (Go.Rf.D × Go.Rf.D))} (h : b ≤ D.length) : CatI c b D.length ⟨pushB D c.cells, T, M⟩ :=
  ⟨bxA_new rfl, by simp only [pushB, List.length_append, List.length_singleton]; omega⟩
theorem shape48 : pf48.body = .seq (cL pf48.body) (.seq (.seq (cL (cL (cR pf48.body))) (.block 0 (.loop (cO (cB (cR (cL (cR pf48.body)))))))) (.seq (.seq (cL (cL (cR (cR pf48.body)))) (.block 2 (.loop (cO (cB (cR (cL (cR (cR pf48.body))))))))) (.seq (.seq (cL (cL (cR (cR (cR pf48.body))))) (.block 4 (.loop (cO (cB (cR (cL (cR (cR (cR pf48.body)))))))))) (cR (cR (cR (cR pf48.body))))))) := rfl
theorem e48 (c : Cat) (s : St) (b : Bool) (hb : cx.b = s.boxes.length) (hsG : c.G.length < 1000000) (hsE : c.E.length < 1000000) (hsK : c.K.length < 1000000) (hG : c.G.length < lf) (hE : c.E.length < lf) (hK : c.K.length < lf)
    (h103 : ∀ (s : St) (f0 s0 : List Nat) (v0 : Int) (f1 s1 : List Nat) (v1 : Int), callee 103 [.agg [.d (.str f0), .d (.str s0), .d (.int .i64 v0)], .agg [.d (.str f1), .d (.str s1), .d (.int .i64 v1)]] cx s = some (.ret (.d (.bool (befB f0 s0 f1 s1))), s))
    (h104 : ∀ s, callee 104 [.d (.sl c.C)] cx s = some (.ret (.d (.bool b)), s)) :
    ∃ J' s', runC callee lf cx pf48.body (envOf 71 [(0, .agg c.cells)] (fun _ => undefA)) s = some (.ret, envOf 71 [(2, .d (.bool (upR c.G && (upR c.E && (upK c.K && b)))))] J', s') := by
  obtain ⟨J1, h1⟩ := r48a_0 (callee := callee) (cx := cx) (lf := lf) (fun _ => undefA) s.boxes s.toks s.maps c.G c.C c.E c.K rfl
  have I1 : CatI c cx.b s.boxes.length ⟨pushB s.boxes c.cells, s.toks, s.maps⟩ := catI_new (by omega)
  have p : ∀ (slot : Nat) (C : PC), (∀ J D T M, ∃ J', runC callee lf cx C (envOf 71 [(1, .ptr s.boxes.length 0)] J) ⟨D, T, M⟩ = some (.normal, envOf 71 [(1, .ptr s.boxes.length 0), (slot, .d (.int .i64 1))] J', ⟨D, T, M⟩)) →
      Plain callee cx lf C 71 [(1, .ptr s.boxes.length 0)] [(1, .ptr s.boxes.length 0), (slot, .d (.int .i64 1))] (CatI c cx.b s.boxes.length) (CatI c cx.b s.boxes.length) := fun slot C h J s hI => by
    obtain ⟨J', h⟩ := h J s.boxes s.toks s.maps
    exact ⟨J', s, h, hI⟩
  have pe : Ends callee cx lf (cR (cR (cR (cR pf48.body)))) 71 [(1, .ptr s.boxes.length 0)] 2 (CatI c cx.b s.boxes.length) (.d (.bool b)) := fun J s2 hI => by
    obtain ⟨J', h⟩ := r48e_0 (callee := callee) (cx := cx) (lf := lf) J s2.boxes s2.toks s2.maps c.G c.C c.E c.K _ b hI.1 h104
    exact ⟨J', s2, h⟩
  obtain ⟨J2, s2, h2⟩ := Scan.ends (Plain.scan (p 3 _ fun J D T M => r48bi_0 J D T M c.G c.C c.E c.K _) (l48b c _ hsG hG))
    (Scan.ends (Plain.scan (p 4 _ fun J D T M => r48ci_0 J D T M c.G c.C c.E c.K _) (l48c c _ hsE hE))
    (Scan.ends (Plain.scan (p 5 _ fun J D T M => r48di_0 J D T M c.G c.C c.E c.K _) (l48d c _ h103 hsK hK)) pe)) J1 _ I1
  exact ⟨J2, s2, by rw [shape48]; exact run_seq h1 h2⟩
end
end Go.Rf

namespace Go.Rf
set_option maxRecDepth 100000
set_option linter.unusedVariables false
set_option linter.unusedSimpArgs false
section
variable {callee : Callee} {cx : Cx} {lf : Nat}
theorem catI_cp {c : Cat} {b N : Nat} {s : St} {z row : List AV} (h : CatI c b N s) : CatI c b N ⟨setB (appN s.boxes [z]) (s.boxes.length + 0) row, s.toks, s.maps⟩ :=
  ⟨bxA_cp h.1 rfl, by have := h.2; rw [len_cp]; omega⟩
def grpOk : List D → Bool
  | [.str _, .int _ gl, .int _ gc] => !(decide (gl < 1)) && !(decide (gl > 30)) && !(decide (gc < 0)) && !(decide (gc > 1000000))
  | _ => true
def elmOk : List D → Bool
  | [_, _, .int _ v, _, _] => !(decide (v < 0)) && !(decide (v > 1000000))
  | _ => true
def cnnOk : List D → Bool
  | [_, _, .int _ v] => !(decide (v < 0)) && !(decide (v > 1000000))
  | _ => true
def nmOk : List D → Bool
  | .str a :: _ => nameB a
  | _ => true
def refOk (G C E : List (List D)) : List D → Bool
  | [.str a, .str g, _, .str k, .str l] => codeB a && !(decide ((rIdx g G) < 0)) && (!(!(beqN k ([]))) || rHas k C) && (!(!(beqN l ([]))) || !(decide ((rIdx l E) < 0)))
  | _ => true
def lnkOk (C : List (List D)) : List D → Bool
  | .str a :: .str b :: _ => rHas a C && rHas b C
  | _ => true
theorem l49b (c : Cat) (N : Nat)  (hs : c.G.length < 1000000) (hlf : c.G.length < lf) : Scan callee cx lf (.block 0 (.loop (cO (cB (cR (cL (cR (pf49.body))))))))
    83 [(1, .ptr N 0), (3, .d (.int .i64 0))] 2 [(1, .ptr N 0)] (CatI c cx.b N) ((List.range c.G.length).all fun k => grpOk (c.G.getD k [])) := by
  refine Scan.rounds [(1, .ptr N 0)] 3 (fun k => .d (.int .i64 ((k : Nat) : Int))) (fun k => grpOk (c.G.getD k [])) hlf ?_ ?_
  · intro k J s hk hI
    obtain ⟨x, hx, hx1, hx2⟩ := c.getG (k := k) (by omega)
    cases e0 : (decide (x.limit < 1)) with
    | true =>
      obtain ⟨J', h⟩ := r49b_1 (callee := callee) (cx := cx) (lf := lf) J s.boxes s.toks s.maps c.G c.C c.E c.K N k x.name x.limit x.credit hI.1 hI.2 hx1 rfl (lt_dec (by omega)) e0; exact ⟨J', _, .inl ⟨by simp only [grpOk, hx2, Gp.row, e0, Bool.not_true, Bool.not_false, Bool.and_true, Bool.true_and, Bool.and_false, Bool.false_and, Bool.or_true, Bool.true_or, Bool.or_false, Bool.false_or], h⟩⟩
    | false =>
      cases e1 : (decide (x.limit > 30)) with
      | true =>
        obtain ⟨J', h⟩ := r49b_2 (callee := callee) (cx := cx) (lf := lf) J s.boxes s.toks s.maps c.G c.C c.E c.K N k x.name x.limit x.credit hI.1 hI.2 hx1 rfl (lt_dec (by omega)) e0 e1; exact ⟨J', _, .inl ⟨by simp only [grpOk, hx2, Gp.row, e0, e1, Bool.not_true, Bool.not_false, Bool.and_true, Bool.true_and, Bool.and_false, Bool.false_and, Bool.or_true, Bool.true_or, Bool.or_false, Bool.false_or], h⟩⟩
      | false =>
        cases e2 : (decide (x.credit < 0)) with
        | true =>
          obtain ⟨J', h⟩ := r49b_3 (callee := callee) (cx := cx) (lf := lf) J s.boxes s.toks s.maps c.G c.C c.E c.K N k x.name x.limit x.credit hI.1 hI.2 hx1 rfl (lt_dec (by omega)) e0 e1 e2; exact ⟨J', _, .inl ⟨by simp only [grpOk, hx2, Gp.row, e0, e1, e2, Bool.not_true, Bool.not_false, Bool.and_true, Bool.true_and, Bool.and_false, Bool.false_and, Bool.or_true, Bool.true_or, Bool.or_false, Bool.false_or], h⟩⟩
        | false =>
          cases e3 : (decide (x.credit > 1000000)) with
          | true =>
            obtain ⟨J', h⟩ := r49b_4 (callee := callee) (cx := cx) (lf := lf) J s.boxes s.toks s.maps c.G c.C c.E c.K N k x.name x.limit x.credit hI.1 hI.2 hx1 rfl (lt_dec (by omega)) e0 e1 e2 e3; exact ⟨J', _, .inl ⟨by simp only [grpOk, hx2, Gp.row, e0, e1, e2, e3, Bool.not_true, Bool.not_false, Bool.and_true, Bool.true_and, Bool.and_false, Bool.false_and, Bool.or_true, Bool.true_or, Bool.or_false, Bool.false_or], h⟩⟩
          | false =>
            obtain ⟨J', h⟩ := r49b_5 (callee := callee) (cx := cx) (lf := lf) J s.boxes s.toks s.maps c.G c.C c.E c.K N k x.name x.limit x.credit hI.1 hI.2 hx1 rfl (lt_dec (by omega)) e0 e1 e2 e3; rw [wrapN (by omega)] at h; exact ⟨J', _, .inr ⟨by simp only [grpOk, hx2, Gp.row, e0, e1, e2, e3, Bool.not_true, Bool.not_false, Bool.and_true, Bool.true_and, Bool.and_false, Bool.false_and, Bool.or_true, Bool.true_or, Bool.or_false, Bool.false_or], h, catI_cp hI⟩⟩
  · intro J s hI
    obtain ⟨J', h⟩ := r49b_0 (callee := callee) (cx := cx) (lf := lf) J s.boxes s.toks s.maps c.G c.C c.E c.K N c.G.length [] 0 0 hI.1 (not_lt_dec (by omega))
    exact ⟨J', s, h, hI⟩

theorem l49c (c : Cat) (N : Nat)  (hs : c.E.length < 1000000) (hlf : c.E.length < lf) : Scan callee cx lf (.block 2 (.loop (cO (cB (cR (cL (cR (cR (pf49.body)))))))))
    83 [(1, .ptr N 0), (5, .d (.int .i64 0))] 2 [(1, .ptr N 0)] (CatI c cx.b N) ((List.range c.E.length).all fun k => elmOk (c.E.getD k [])) := by
  refine Scan.rounds [(1, .ptr N 0)] 5 (fun k => .d (.int .i64 ((k : Nat) : Int))) (fun k => elmOk (c.E.getD k [])) hlf ?_ ?_
  · intro k J s hk hI
    obtain ⟨x, hx, hx1, hx2⟩ := c.getE (k := k) (by omega)
    cases e0 : (decide (x.val < 0)) with
    | true =>
      obtain ⟨J', h⟩ := r49c_1 (callee := callee) (cx := cx) (lf := lf) J s.boxes s.toks s.maps c.G c.C c.E c.K N k x.code x.grp x.val x.cls x.low hI.1 hx1  (lt_dec (by omega)) e0; exact ⟨J', _, .inl ⟨by simp only [elmOk, hx2, Elm.row, e0, Bool.not_true, Bool.not_false, Bool.and_true, Bool.true_and, Bool.and_false, Bool.false_and, Bool.or_true, Bool.true_or, Bool.or_false, Bool.false_or], h⟩⟩
    | false =>
      cases e1 : (decide (x.val > 1000000)) with
      | true =>
        obtain ⟨J', h⟩ := r49c_2 (callee := callee) (cx := cx) (lf := lf) J s.boxes s.toks s.maps c.G c.C c.E c.K N k x.code x.grp x.val x.cls x.low hI.1 hx1  (lt_dec (by omega)) e0 e1; exact ⟨J', _, .inl ⟨by simp only [elmOk, hx2, Elm.row, e0, e1, Bool.not_true, Bool.not_false, Bool.and_true, Bool.true_and, Bool.and_false, Bool.false_and, Bool.or_true, Bool.true_or, Bool.or_false, Bool.false_or], h⟩⟩
      | false =>
        obtain ⟨J', h⟩ := r49c_3 (callee := callee) (cx := cx) (lf := lf) J s.boxes s.toks s.maps c.G c.C c.E c.K N k x.code x.grp x.val x.cls x.low hI.1 hx1  (lt_dec (by omega)) e0 e1; rw [wrapN (by omega)] at h; exact ⟨J', _, .inr ⟨by simp only [elmOk, hx2, Elm.row, e0, e1, Bool.not_true, Bool.not_false, Bool.and_true, Bool.true_and, Bool.and_false, Bool.false_and, Bool.or_true, Bool.true_or, Bool.or_false, Bool.false_or], h, hI⟩⟩
  · intro J s hI
    obtain ⟨J', h⟩ := r49c_0 (callee := callee) (cx := cx) (lf := lf) J s.boxes s.toks s.maps c.G c.C c.E c.K N c.E.length [] [] 0 [] [] hI.1 (not_lt_dec (by omega))
    exact ⟨J', s, h, hI⟩

theorem l49d (c : Cat) (N : Nat)  (hs : c.K.length < 1000000) (hlf : c.K.length < lf) : Scan callee cx lf (.block 4 (.loop (cO (cB (cR (cL (cR (cR (cR (pf49.body))))))))))
    83 [(1, .ptr N 0), (6, .d (.int .i64 0))] 2 [(1, .ptr N 0)] (CatI c cx.b N) ((List.range c.K.length).all fun k => cnnOk (c.K.getD k [])) := by
  refine Scan.rounds [(1, .ptr N 0)] 6 (fun k => .d (.int .i64 ((k : Nat) : Int))) (fun k => cnnOk (c.K.getD k [])) hlf ?_ ?_
  · intro k J s hk hI
    obtain ⟨x, hx, hx1, hx2⟩ := c.getK (k := k) (by omega)
    cases e0 : (decide (x.val < 0)) with
    | true =>
      obtain ⟨J', h⟩ := r49d_1 (callee := callee) (cx := cx) (lf := lf) J s.boxes s.toks s.maps c.G c.C c.E c.K N k x.fst x.snd x.val hI.1 hx1  (lt_dec (by omega)) e0; exact ⟨J', _, .inl ⟨by simp only [cnnOk, hx2, Cnn.row, e0, Bool.not_true, Bool.not_false, Bool.and_true, Bool.true_and, Bool.and_false, Bool.false_and, Bool.or_true, Bool.true_or, Bool.or_false, Bool.false_or], h⟩⟩
    | false =>
      cases e1 : (decide (x.val > 1000000)) with
      | true =>
        obtain ⟨J', h⟩ := r49d_2 (callee := callee) (cx := cx) (lf := lf) J s.boxes s.toks s.maps c.G c.C c.E c.K N k x.fst x.snd x.val hI.1 hx1  (lt_dec (by omega)) e0 e1; exact ⟨J', _, .inl ⟨by simp only [cnnOk, hx2, Cnn.row, e0, e1, Bool.not_true, Bool.not_false, Bool.and_true, Bool.true_and, Bool.and_false, Bool.false_and, Bool.or_true, Bool.true_or, Bool.or_false, Bool.false_or], h⟩⟩
      | false =>
        obtain ⟨J', h⟩ := r49d_3 (callee := callee) (cx := cx) (lf := lf) J s.boxes s.toks s.maps c.G c.C c.E c.K N k x.fst x.snd x.val hI.1 hx1  (lt_dec (by omega)) e0 e1; rw [wrapN (by omega)] at h; exact ⟨J', _, .inr ⟨by simp only [cnnOk, hx2, Cnn.row, e0, e1, Bool.not_true, Bool.not_false, Bool.and_true, Bool.true_and, Bool.and_false, Bool.false_and, Bool.or_true, Bool.true_or, Bool.or_false, Bool.false_or], h, hI⟩⟩
  · intro J s hI
    obtain ⟨J', h⟩ := r49d_0 (callee := callee) (cx := cx) (lf := lf) J s.boxes s.toks s.maps c.G c.C c.E c.K N c.K.length [] [] 0 hI.1 (not_lt_dec (by omega))
    exact ⟨J', s, h, hI⟩

theorem l47b (c : Cat) (N : Nat) (h99 : ∀ (s : St) (x : List Nat), callee 99 [.d (.str x)] cx s = some (.ret (.d (.bool (nameB x))), s)) (hs : c.G.length < 1000000) (hlf : c.G.length < lf) : Scan callee cx lf (.block 0 (.loop (cO (cB (cR (cL (cR (pf47.body))))))))
    114 [(1, .ptr N 0), (3, .d (.int .i64 0))] 2 [(1, .ptr N 0)] (CatI c cx.b N) ((List.range c.G.length).all fun k => nmOk (c.G.getD k [])) := by
  refine Scan.rounds [(1, .ptr N 0)] 3 (fun k => .d (.int .i64 ((k : Nat) : Int))) (fun k => nmOk (c.G.getD k [])) hlf ?_ ?_
  · intro k J s hk hI
    obtain ⟨x, hx, hx1, hx2⟩ := c.getG (k := k) (by omega)
    cases e0 : (nameB x.name) with
    | true =>
      obtain ⟨J', h⟩ := r47b_1 (callee := callee) (cx := cx) (lf := lf) J s.boxes s.toks s.maps c.G c.C c.E c.K N k x.name x.limit x.credit hI.1 hx1 h99  (lt_dec (by omega)) e0; rw [wrapN (by omega)] at h; exact ⟨J', _, .inr ⟨by simp only [nmOk, hx2, Gp.row, e0, Bool.not_true, Bool.not_false, Bool.and_true, Bool.true_and, Bool.and_false, Bool.false_and, Bool.or_true, Bool.true_or, Bool.or_false, Bool.false_or], h, hI⟩⟩
    | false =>
      obtain ⟨J', h⟩ := r47b_2 (callee := callee) (cx := cx) (lf := lf) J s.boxes s.toks s.maps c.G c.C c.E c.K N k x.name x.limit x.credit hI.1 hx1 h99  (lt_dec (by omega)) e0; exact ⟨J', _, .inl ⟨by simp only [nmOk, hx2, Gp.row, e0, Bool.not_true, Bool.not_false, Bool.and_true, Bool.true_and, Bool.and_false, Bool.false_and, Bool.or_true, Bool.true_or, Bool.or_false, Bool.false_or], h⟩⟩
  · intro J s hI
    obtain ⟨J', h⟩ := r47b_0 (callee := callee) (cx := cx) (lf := lf) J s.boxes s.toks s.maps c.G c.C c.E c.K N c.G.length [] 0 0 hI.1 (not_lt_dec (by omega))
    exact ⟨J', s, h, hI⟩

theorem l47c (c : Cat) (N : Nat) (h99 : ∀ (s : St) (x : List Nat), callee 99 [.d (.str x)] cx s = some (.ret (.d (.bool (nameB x))), s)) (hs : c.C.length < 1000000) (hlf : c.C.length < lf) : Scan callee cx lf (.block 2 (.loop (cO (cB (cR (cL (cR (cR (pf47.body)))))))))
    114 [(1, .ptr N 0), (4, .d (.int .i64 0))] 2 [(1, .ptr N 0)] (CatI c cx.b N) ((List.range c.C.length).all fun k => nmOk (c.C.getD k [])) := by
  refine Scan.rounds [(1, .ptr N 0)] 4 (fun k => .d (.int .i64 ((k : Nat) : Int))) (fun k => nmOk (c.C.getD k [])) hlf ?_ ?_
  · intro k J s hk hI
    obtain ⟨x, hx, hx1, hx2⟩ := c.getC (k := k) (by omega)
    cases e0 : (nameB x) with
    | true =>
      obtain ⟨J', h⟩ := r47c_1 (callee := callee) (cx := cx) (lf := lf) J s.boxes s.toks s.maps c.G c.C c.E c.K N k x hI.1 hx1 h99  (lt_dec (by omega)) e0; rw [wrapN (by omega)] at h; exact ⟨J', _, .inr ⟨by simp only [nmOk, hx2, strRow, e0, Bool.not_true, Bool.not_false, Bool.and_true, Bool.true_and, Bool.and_false, Bool.false_and, Bool.or_true, Bool.true_or, Bool.or_false, Bool.false_or], h, hI⟩⟩
    | false =>
      obtain ⟨J', h⟩ := r47c_2 (callee := callee) (cx := cx) (lf := lf) J s.boxes s.toks s.maps c.G c.C c.E c.K N k x hI.1 hx1 h99  (lt_dec (by omega)) e0; exact ⟨J', _, .inl ⟨by simp only [nmOk, hx2, strRow, e0, Bool.not_true, Bool.not_false, Bool.and_true, Bool.true_and, Bool.and_false, Bool.false_and, Bool.or_true, Bool.true_or, Bool.or_false, Bool.false_or], h⟩⟩
  · intro J s hI
    obtain ⟨J', h⟩ := r47c_0 (callee := callee) (cx := cx) (lf := lf) J s.boxes s.toks s.maps c.G c.C c.E c.K N c.C.length [] hI.1 (not_lt_dec (by omega))
    exact ⟨J', s, h, hI⟩

theorem l47d (c : Cat) (N : Nat) (h100 : ∀ (s : St) (x : List Nat), callee 100 [.d (.str x)] cx s = some (.ret (.d (.bool (codeB x))), s)) (h101 : ∀ (s : St) (x : List Nat), callee 101 [.agg c.cells, .d (.str x)] cx s = some (.ret (.d (.int .i64 (rIdx x c.G))), s)) (h20 : ∀ (s : St) (x : List Nat), callee 20 [.agg c.cells, .d (.str x)] cx s = some (.ret (.d (.int .i64 (rIdx x c.E))), s)) (h102 : ∀ (s : St) (x : List Nat), callee 102 [.d (.sl c.C), .d (.str x)] cx s = some (.ret (.d (.bool (rHas x c.C))), s)) (hs : c.E.length < 1000000) (hlf : c.E.length < lf) : Scan callee cx lf (.block 4 (.loop (cO (cB (cR (cL (cR (cR (cR (pf47.body))))))))))
    114 [(1, .ptr N 0), (5, .d (.int .i64 0))] 2 [(1, .ptr N 0)] (CatI c cx.b N) ((List.range c.E.length).all fun k => refOk c.G c.C c.E (c.E.getD k [])) := by
  refine Scan.rounds [(1, .ptr N 0)] 5 (fun k => .d (.int .i64 ((k : Nat) : Int))) (fun k => refOk c.G c.C c.E (c.E.getD k [])) hlf ?_ ?_
  · intro k J s hk hI
    obtain ⟨x, hx, hx1, hx2⟩ := c.getE (k := k) (by omega)
    cases e0 : (codeB x.code) with
    | true =>
      cases e1 : (decide ((rIdx x.grp c.G) < 0)) with
      | true =>
        obtain ⟨J', h⟩ := r47d_2 (callee := callee) (cx := cx) (lf := lf) J s.boxes s.toks s.maps c.G c.C c.E c.K N k x.code x.grp x.val x.cls x.low hI.1 hI.2 hx1 h100 h101 rfl (lt_dec (by omega)) e0 e1; exact ⟨J', _, .inl ⟨by simp only [refOk, hx2, Elm.row, e0, e1, Bool.not_true, Bool.not_false, Bool.and_true, Bool.true_and, Bool.and_false, Bool.false_and, Bool.or_true, Bool.true_or, Bool.or_false, Bool.false_or], h⟩⟩
      | false =>
        cases e2 : (!(beqN x.cls ([]))) with
        | true =>
          cases e3 : (rHas x.cls c.C) with
          | true =>
            cases e4 : (!(beqN x.low ([]))) with
            | true =>
              cases e5 : (decide ((rIdx x.low c.E) < 0)) with
              | true =>
                obtain ⟨J', h⟩ := r47d_8 (callee := callee) (cx := cx) (lf := lf) J s.boxes s.toks s.maps c.G c.C c.E c.K N k x.code x.grp x.val x.cls x.low hI.1 hI.2 hx1 h100 h101 h20 h102 rfl (lt_dec (by omega)) e0 e1 e2 e3 e4 e5; exact ⟨J', _, .inl ⟨by simp only [refOk, hx2, Elm.row, e0, e1, e2, e3, e4, e5, Bool.not_true, Bool.not_false, Bool.and_true, Bool.true_and, Bool.and_false, Bool.false_and, Bool.or_true, Bool.true_or, Bool.or_false, Bool.false_or], h⟩⟩
              | false =>
                obtain ⟨J', h⟩ := r47d_9 (callee := callee) (cx := cx) (lf := lf) J s.boxes s.toks s.maps c.G c.C c.E c.K N k x.code x.grp x.val x.cls x.low hI.1 hI.2 hx1 h100 h101 h20 h102 rfl (lt_dec (by omega)) e0 e1 e2 e3 e4 e5; rw [wrapN (by omega)] at h; exact ⟨J', _, .inr ⟨by simp only [refOk, hx2, Elm.row, e0, e1, e2, e3, e4, e5, Bool.not_true, Bool.not_false, Bool.and_true, Bool.true_and, Bool.and_false, Bool.false_and, Bool.or_true, Bool.true_or, Bool.or_false, Bool.false_or], h, catI_cp hI⟩⟩
            | false =>
              obtain ⟨J', h⟩ := r47d_5 (callee := callee) (cx := cx) (lf := lf) J s.boxes s.toks s.maps c.G c.C c.E c.K N k x.code x.grp x.val x.cls x.low hI.1 hI.2 hx1 h100 h101 h102 rfl (lt_dec (by omega)) e0 e1 e2 e3 e4; rw [wrapN (by omega)] at h; exact ⟨J', _, .inr ⟨by simp only [refOk, hx2, Elm.row, e0, e1, e2, e3, e4, Bool.not_true, Bool.not_false, Bool.and_true, Bool.true_and, Bool.and_false, Bool.false_and, Bool.or_true, Bool.true_or, Bool.or_false, Bool.false_or], h, catI_cp hI⟩⟩
          | false =>
            obtain ⟨J', h⟩ := r47d_3 (callee := callee) (cx := cx) (lf := lf) J s.boxes s.toks s.maps c.G c.C c.E c.K N k x.code x.grp x.val x.cls x.low hI.1 hI.2 hx1 h100 h101 h102 rfl (lt_dec (by omega)) e0 e1 e2 e3; exact ⟨J', _, .inl ⟨by simp only [refOk, hx2, Elm.row, e0, e1, e2, e3, Bool.not_true, Bool.not_false, Bool.and_true, Bool.true_and, Bool.and_false, Bool.false_and, Bool.or_true, Bool.true_or, Bool.or_false, Bool.false_or], h⟩⟩
        | false =>
          cases e3 : (!(beqN x.low ([]))) with
          | true =>
            cases e4 : (decide ((rIdx x.low c.E) < 0)) with
            | true =>
              obtain ⟨J', h⟩ := r47d_6 (callee := callee) (cx := cx) (lf := lf) J s.boxes s.toks s.maps c.G c.C c.E c.K N k x.code x.grp x.val x.cls x.low hI.1 hI.2 hx1 h100 h101 h20 rfl (lt_dec (by omega)) e0 e1 e2 e3 e4; exact ⟨J', _, .inl ⟨by simp only [refOk, hx2, Elm.row, e0, e1, e2, e3, e4, Bool.not_true, Bool.not_false, Bool.and_true, Bool.true_and, Bool.and_false, Bool.false_and, Bool.or_true, Bool.true_or, Bool.or_false, Bool.false_or], h⟩⟩
            | false =>
              obtain ⟨J', h⟩ := r47d_7 (callee := callee) (cx := cx) (lf := lf) J s.boxes s.toks s.maps c.G c.C c.E c.K N k x.code x.grp x.val x.cls x.low hI.1 hI.2 hx1 h100 h101 h20 rfl (lt_dec (by omega)) e0 e1 e2 e3 e4; rw [wrapN (by omega)] at h; exact ⟨J', _, .inr ⟨by simp only [refOk, hx2, Elm.row, e0, e1, e2, e3, e4, Bool.not_true, Bool.not_false, Bool.and_true, Bool.true_and, Bool.and_false, Bool.false_and, Bool.or_true, Bool.true_or, Bool.or_false, Bool.false_or], h, catI_cp hI⟩⟩
          | false =>
            obtain ⟨J', h⟩ := r47d_4 (callee := callee) (cx := cx) (lf := lf) J s.boxes s.toks s.maps c.G c.C c.E c.K N k x.code x.grp x.val x.cls x.low hI.1 hI.2 hx1 h100 h101 rfl (lt_dec (by omega)) e0 e1 e2 e3; rw [wrapN (by omega)] at h; exact ⟨J', _, .inr ⟨by simp only [refOk, hx2, Elm.row, e0, e1, e2, e3, Bool.not_true, Bool.not_false, Bool.and_true, Bool.true_and, Bool.and_false, Bool.false_and, Bool.or_true, Bool.true_or, Bool.or_false, Bool.false_or], h, catI_cp hI⟩⟩
    | false =>
      obtain ⟨J', h⟩ := r47d_1 (callee := callee) (cx := cx) (lf := lf) J s.boxes s.toks s.maps c.G c.C c.E c.K N k x.code x.grp x.val x.cls x.low hI.1 hI.2 hx1 h100 rfl (lt_dec (by omega)) e0; exact ⟨J', _, .inl ⟨by simp only [refOk, hx2, Elm.row, e0, Bool.not_true, Bool.not_false, Bool.and_true, Bool.true_and, Bool.and_false, Bool.false_and, Bool.or_true, Bool.true_or, Bool.or_false, Bool.false_or], h⟩⟩
  · intro J s hI
    obtain ⟨J', h⟩ := r47d_0 (callee := callee) (cx := cx) (lf := lf) J s.boxes s.toks s.maps c.G c.C c.E c.K N c.E.length [] [] 0 [] [] hI.1 (not_lt_dec (by omega))
    exact ⟨J', s, h, hI⟩

theorem l47e (c : Cat) (N : Nat) (h102 : ∀ (s : St) (x : List Nat), callee 102 [.d (.sl c.C), .d (.str x)] cx s = some (.ret (.d (.bool (rHas x c.C))), s)) (hs : c.K.length < 1000000) (hlf : c.K.length < lf) : Scan callee cx lf (.block 6 (.loop (cO (cB (cR (cL (cR (cR (cR (cR (pf47.body)))))))))))
    114 [(1, .ptr N 0), (7, .d (.int .i64 0))] 2 [(1, .ptr N 0)] (CatI c cx.b N) ((List.range c.K.length).all fun k => lnkOk c.C (c.K.getD k [])) := by
  refine Scan.rounds [(1, .ptr N 0)] 7 (fun k => .d (.int .i64 ((k : Nat) : Int))) (fun k => lnkOk c.C (c.K.getD k [])) hlf ?_ ?_
  · intro k J s hk hI
    obtain ⟨x, hx, hx1, hx2⟩ := c.getK (k := k) (by omega)
    cases e0 : (rHas x.fst c.C) with
    | true =>
      cases e1 : (rHas x.snd c.C) with
      | true =>
        obtain ⟨J', h⟩ := r47e_2 (callee := callee) (cx := cx) (lf := lf) J s.boxes s.toks s.maps c.G c.C c.E c.K N k x.fst x.snd x.val hI.1 hx1 h102  (lt_dec (by omega)) e0 e1; rw [wrapN (by omega)] at h; exact ⟨J', _, .inr ⟨by simp only [lnkOk, hx2, Cnn.row, e0, e1, Bool.not_true, Bool.not_false, Bool.and_true, Bool.true_and, Bool.and_false, Bool.false_and, Bool.or_true, Bool.true_or, Bool.or_false, Bool.false_or], h, hI⟩⟩
      | false =>
        obtain ⟨J', h⟩ := r47e_3 (callee := callee) (cx := cx) (lf := lf) J s.boxes s.toks s.maps c.G c.C c.E c.K N k x.fst x.snd x.val hI.1 hx1 h102  (lt_dec (by omega)) e0 e1; exact ⟨J', _, .inl ⟨by simp only [lnkOk, hx2, Cnn.row, e0, e1, Bool.not_true, Bool.not_false, Bool.and_true, Bool.true_and, Bool.and_false, Bool.false_and, Bool.or_true, Bool.true_or, Bool.or_false, Bool.false_or], h⟩⟩
    | false =>
      obtain ⟨J', h⟩ := r47e_1 (callee := callee) (cx := cx) (lf := lf) J s.boxes s.toks s.maps c.G c.C c.E c.K N k x.fst x.snd x.val hI.1 hx1 h102  (lt_dec (by omega)) e0; exact ⟨J', _, .inl ⟨by simp only [lnkOk, hx2, Cnn.row, e0, Bool.not_true, Bool.not_false, Bool.and_true, Bool.true_and, Bool.and_false, Bool.false_and, Bool.or_true, Bool.true_or, Bool.or_false, Bool.false_or], h⟩⟩
  · intro J s hI
    obtain ⟨J', h⟩ := r47e_0 (callee := callee) (cx := cx) (lf := lf) J s.boxes s.toks s.maps c.G c.C c.E c.K N c.K.length [] [] 0 hI.1 (not_lt_dec (by omega))
    exact ⟨J', s, h, hI⟩

end
end Go.Rf

namespace Go.Rf
set_option maxRecDepth 100000
set_option linter.unusedVariables false
set_option linter.unusedSimpArgs false
theorem rIdx_at {q : List Nat} {G : List (List D)} {k : Nat} (hk : k < G.length) (h : rowIs q (G.getD k []) = true) (hj : ∀ j, j < k → rowIs q (G.getD j []) = false) : rIdx q G = (k : Int) := by
  have : G.findIdx? (rowIs q) = some k := by
    rw [List.findIdx?_eq_some_iff_getElem]
    refine ⟨hk, by simpa [List.getD_eq_getElem?_getD, hk] using h, fun j hj2 => ?_⟩
    have := hj j hj2
    rw [List.getD_eq_getElem?_getD, List.getElem?_eq_getElem (by omega)] at this
    simpa using this
  unfold rIdx
  rw [this]
theorem rIdx_none {q : List Nat} {G : List (List D)} (h : ∀ k, k < G.length → rowIs q (G.getD k []) = false) : rIdx q G = -1 := by
  have : G.findIdx? (rowIs q) = none := by
    rw [List.findIdx?_eq_none_iff]
    intro x hx
    obtain ⟨k, hk, rfl⟩ := List.getElem_of_mem hx
    have := h k hk
    rw [List.getD_eq_getElem?_getD, List.getElem?_eq_getElem hk] at this
    exact this
  unfold rIdx
  rw [this]
theorem rHas_at {q : List Nat} {G : List (List D)} {k : Nat} (hk : k < G.length) (h : rowIs q (G.getD k []) = true) : rHas q G = true := by
  unfold rHas
  rw [List.any_eq_true]
  exact ⟨G[k], List.getElem_mem hk, by simpa [List.getD_eq_getElem?_getD, hk] using h⟩
theorem rHas_none {q : List Nat} {G : List (List D)} (h : ∀ k, k < G.length → rowIs q (G.getD k []) = false) : rHas q G = false := by
  unfold rHas
  rw [List.any_eq_false]
  intro x hx
  obtain ⟨k, hk, rfl⟩ := List.getElem_of_mem hx
  have := h k hk
  rw [List.getD_eq_getElem?_getD, List.getElem?_eq_getElem hk] at this
  simpa using this
section
variable {callee : Callee} {cx : Cx} {lf : Nat}
/-- A round that finds. -/
theorem find_count {Q : PC} {id m N : Nat} {I : St → Prop} (knB : Kn) (i : Nat) (v : Nat → AV) (knR : Nat → Kn) (good : Nat → Bool) (hlf : m < lf)
    (round : ∀ k J s, k < m → I s → ∃ J' s', (good k = false ∧ runC callee lf cx Q (envOf N (knB ++ [(i, v k)]) J) s = some (.ret, envOf N (knR k) J', s')) ∨
      (good k = true ∧ runC callee lf cx Q (envOf N (knB ++ [(i, v k)]) J) s = some (.normal, envOf N (knB ++ [(i, v (k + 1))]) J', s') ∧ I s'))
    (out : ∀ J s, I s → ∃ J' s', runC callee lf cx Q (envOf N (knB ++ [(i, v m)]) J) s = some (.exit id, envOf N (knB ++ [(i, v m)]) J', s') ∧ I s') (J : Nat → AV) (s : St) (hI : I s) :
    ∃ J' s', (∃ k, k < m ∧ good k = false ∧ (∀ j, j < k → good j = true) ∧ runC callee lf cx (.block id (.loop Q)) (envOf N (knB ++ [(i, v 0)]) J) s = some (.ret, envOf N (knR k) J', s')) ∨
      ((∀ k, k < m → good k = true) ∧ runC callee lf cx (.block id (.loop Q)) (envOf N (knB ++ [(i, v 0)]) J) s = some (.normal, envOf N knB J', s') ∧ I s') :=
  find_loop (fun k => knB ++ [(i, v k)]) knR knB good hlf (fun k J s hk hg hI => by
    obtain ⟨J', s', h | h⟩ := round k J s hk hI
    · exact absurd (h.1.symm.trans hg) (by simp)
    · exact ⟨J', s', h.2.1, h.2.2⟩) (fun k J s hk hg hI => by
    obtain ⟨J', s', h | h⟩ := round k J s hk hI
    · exact ⟨J', s', h.2⟩
    · exact absurd (h.1.symm.trans hg) (by simp)) (fun J s hI => by
    obtain ⟨J', s', h1, h2⟩ := out J s hI
    exact ⟨_, s', by rw [h1, env_drop], h2⟩) J s hI
theorem inR_def (c a b : Nat) : inR c a b = (decide (((c : Nat) : Int) ≥ ((a : Nat) : Int)) && decide (((c : Nat) : Int) ≤ ((b : Nat) : Int))) := by
  simp only [inR, ge_iff_le, Int.ofNat_le]
theorem e143 (c a b : Nat) (s : St) : ∃ J' s', runC callee lf cx pf143.body (envOf 15 [(0, .d (.int .u8 ((c : Nat) : Int))), (1, .d (.int .u8 ((a : Nat) : Int))), (2, .d (.int .u8 ((b : Nat) : Int)))] (fun _ => undefA)) s = some (.ret, envOf 15 [(6, .d (.bool (inR c a b)))] J', s') := by
  obtain ⟨vv, hv0⟩ : ∃ v, v = inR c a b := ⟨_, rfl⟩
  rw [← hv0]
  cases e0 : (decide (((c : Nat) : Int) ≥ ((a : Nat) : Int))) with
  | true =>
    cases e1 : (decide (((c : Nat) : Int) ≤ ((b : Nat) : Int))) with
    | true =>
      have hv : vv = true := hv0.trans (by simp only [inR_def, e0, e1, Bool.not_true, Bool.not_false, Bool.and_true, Bool.true_and, Bool.and_false, Bool.false_and, Bool.or_true, Bool.true_or, Bool.or_false, Bool.false_or]); rw [hv]; obtain ⟨J', h⟩ := r143_1 (callee := callee) (cx := cx) (lf := lf) (fun _ => undefA) s.boxes s.toks s.maps c a b   e0 e1; exact ⟨J', _, h⟩
    | false =>
      have hv : vv = false := hv0.trans (by simp only [inR_def, e0, e1, Bool.not_true, Bool.not_false, Bool.and_true, Bool.true_and, Bool.and_false, Bool.false_and, Bool.or_true, Bool.true_or, Bool.or_false, Bool.false_or]); rw [hv]; obtain ⟨J', h⟩ := r143_2 (callee := callee) (cx := cx) (lf := lf) (fun _ => undefA) s.boxes s.toks s.maps c a b   e0 e1; exact ⟨J', _, h⟩
  | false =>
    have hv : vv = false := hv0.trans (by simp only [inR_def, e0, Bool.not_true, Bool.not_false, Bool.and_true, Bool.true_and, Bool.and_false, Bool.false_and, Bool.or_true, Bool.true_or, Bool.or_false, Bool.false_or]); rw [hv]; obtain ⟨J', h⟩ := r143_0 (callee := callee) (cx := cx) (lf := lf) (fun _ => undefA) s.boxes s.toks s.maps c a b   e0; exact ⟨J', _, h⟩

theorem e103 (kf0 ks0 : List Nat) (kv0 : Int) (kf ks : List Nat) (kv : Int) (s : St) : ∃ J' s', runC callee lf cx pf103.body (envOf 24 [(0, .agg [.d (.str kf0), .d (.str ks0), .d (.int .i64 kv0)]), (1, .agg [.d (.str kf), .d (.str ks), .d (.int .i64 kv)])] (fun _ => undefA)) s = some (.ret, envOf 24 [(4, .d (.bool (befB kf0 ks0 kf ks)))] J', s') := by
  obtain ⟨vv, hv0⟩ : ∃ v, v = befB kf0 ks0 kf ks := ⟨_, rfl⟩
  rw [← hv0]
  cases e0 : (bless kf0 kf) with
  | true =>
    have hv : vv = true := hv0.trans (by simp only [befB, e0, Bool.not_true, Bool.not_false, Bool.and_true, Bool.true_and, Bool.and_false, Bool.false_and, Bool.or_true, Bool.true_or, Bool.or_false, Bool.false_or]); rw [hv]; obtain ⟨J', h⟩ := r103_0 (callee := callee) (cx := cx) (lf := lf) (fun _ => undefA) s.boxes s.toks s.maps kf ks kv kf0 ks0 kv0  rfl rfl e0; exact ⟨J', _, h⟩
  | false =>
    cases e1 : (beqN kf0 kf) with
    | true =>
      cases e2 : (bless ks0 ks) with
      | true =>
        have hv : vv = true := hv0.trans (by simp only [befB, e0, e1, e2, Bool.not_true, Bool.not_false, Bool.and_true, Bool.true_and, Bool.and_false, Bool.false_and, Bool.or_true, Bool.true_or, Bool.or_false, Bool.false_or]); rw [hv]; obtain ⟨J', h⟩ := r103_2 (callee := callee) (cx := cx) (lf := lf) (fun _ => undefA) s.boxes s.toks s.maps kf ks kv kf0 ks0 kv0  rfl rfl e0 e1 e2; exact ⟨J', _, h⟩
      | false =>
        have hv : vv = false := hv0.trans (by simp only [befB, e0, e1, e2, Bool.not_true, Bool.not_false, Bool.and_true, Bool.true_and, Bool.and_false, Bool.false_and, Bool.or_true, Bool.true_or, Bool.or_false, Bool.false_or]); rw [hv]; obtain ⟨J', h⟩ := r103_3 (callee := callee) (cx := cx) (lf := lf) (fun _ => undefA) s.boxes s.toks s.maps kf ks kv kf0 ks0 kv0  rfl rfl e0 e1 e2; exact ⟨J', _, h⟩
    | false =>
      have hv : vv = false := hv0.trans (by simp only [befB, e0, e1, Bool.not_true, Bool.not_false, Bool.and_true, Bool.true_and, Bool.and_false, Bool.false_and, Bool.or_true, Bool.true_or, Bool.or_false, Bool.false_or]); rw [hv]; obtain ⟨J', h⟩ := r103_1 (callee := callee) (cx := cx) (lf := lf) (fun _ => undefA) s.boxes s.toks s.maps kf ks kv kf0 ks0 kv0  rfl rfl e0 e1; exact ⟨J', _, h⟩

def smallB (c : Cat) : Bool := decide (((List.length c.G : Nat) : Int) ≤ 12) && (decide (((List.length c.C : Nat) : Int) ≤ 16) && (decide (((List.length c.E : Nat) : Int) ≤ 40) && decide (((List.length c.K : Nat) : Int) ≤ 40)))
theorem e13 (c : Cat) (s : St) : ∃ J' s', runC callee lf cx pf13.body (envOf 25 [(0, .agg c.cells)] (fun _ => undefA)) s = some (.ret, envOf 25 [(2, .d (.bool (smallB c)))] J', s') := by
  obtain ⟨vv, hv0⟩ : ∃ v, v = smallB c := ⟨_, rfl⟩
  rw [← hv0]
  cases e0 : (decide (((List.length c.G : Nat) : Int) ≤ 12)) with
  | true =>
    cases e1 : (decide (((List.length c.C : Nat) : Int) ≤ 16)) with
    | true =>
      cases e2 : (decide (((List.length c.E : Nat) : Int) ≤ 40)) with
      | true =>
        cases e3 : (decide (((List.length c.K : Nat) : Int) ≤ 40)) with
        | true =>
          have hv : vv = true := hv0.trans (by simp only [smallB, e0, e1, e2, e3, Bool.not_true, Bool.not_false, Bool.and_true, Bool.true_and, Bool.and_false, Bool.false_and, Bool.or_true, Bool.true_or, Bool.or_false, Bool.false_or]); rw [hv]; obtain ⟨J', h⟩ := r13_3 (callee := callee) (cx := cx) (lf := lf) (fun _ => undefA) s.boxes s.toks s.maps c.G c.C c.E c.K  rfl e0 e1 e2 e3; exact ⟨J', _, h⟩
        | false =>
          have hv : vv = false := hv0.trans (by simp only [smallB, e0, e1, e2, e3, Bool.not_true, Bool.not_false, Bool.and_true, Bool.true_and, Bool.and_false, Bool.false_and, Bool.or_true, Bool.true_or, Bool.or_false, Bool.false_or]); rw [hv]; obtain ⟨J', h⟩ := r13_4 (callee := callee) (cx := cx) (lf := lf) (fun _ => undefA) s.boxes s.toks s.maps c.G c.C c.E c.K  rfl e0 e1 e2 e3; exact ⟨J', _, h⟩
      | false =>
        have hv : vv = false := hv0.trans (by simp only [smallB, e0, e1, e2, Bool.not_true, Bool.not_false, Bool.and_true, Bool.true_and, Bool.and_false, Bool.false_and, Bool.or_true, Bool.true_or, Bool.or_false, Bool.false_or]); rw [hv]; obtain ⟨J', h⟩ := r13_2 (callee := callee) (cx := cx) (lf := lf) (fun _ => undefA) s.boxes s.toks s.maps c.G c.C c.E c.K  rfl e0 e1 e2; exact ⟨J', _, h⟩
    | false =>
      have hv : vv = false := hv0.trans (by simp only [smallB, e0, e1, Bool.not_true, Bool.not_false, Bool.and_true, Bool.true_and, Bool.and_false, Bool.false_and, Bool.or_true, Bool.true_or, Bool.or_false, Bool.false_or]); rw [hv]; obtain ⟨J', h⟩ := r13_1 (callee := callee) (cx := cx) (lf := lf) (fun _ => undefA) s.boxes s.toks s.maps c.G c.C c.E c.K  rfl e0 e1; exact ⟨J', _, h⟩
  | false =>
    have hv : vv = false := hv0.trans (by simp only [smallB, e0, Bool.not_true, Bool.not_false, Bool.and_true, Bool.true_and, Bool.and_false, Bool.false_and, Bool.or_true, Bool.true_or, Bool.or_false, Bool.false_or]); rw [hv]; obtain ⟨J', h⟩ := r13_0 (callee := callee) (cx := cx) (lf := lf) (fun _ => undefA) s.boxes s.toks s.maps c.G c.C c.E c.K  rfl e0; exact ⟨J', _, h⟩

def chkI (c : Cat) (b47 b48 b49 b50 : Bool) : Int := bif decide (((List.length c.G : Nat) : Int) > 6) then 6 else bif decide (((List.length c.C : Nat) : Int) > 12) then 6 else bif decide (((List.length c.E : Nat) : Int) > 400) then 6 else bif decide (((List.length c.K : Nat) : Int) > 144) then 6 else
  bif !b47 then 3 else bif !b48 then 4 else bif !b49 then 5 else bif !b50 then 9 else 0
theorem e15 (c : Cat) (b47 b48 b49 b50 : Bool) (h47 : ∀ s, callee 47 [.agg c.cells] cx s = some (.ret (.d (.bool b47)), s)) (h48 : ∀ s, callee 48 [.agg c.cells] cx s = some (.ret (.d (.bool b48)), s)) (h49 : ∀ s, callee 49 [.agg c.cells] cx s = some (.ret (.d (.bool b49)), s)) (h50 : b47 = true → ∀ s, callee 50 [.agg c.cells] cx s = some (.ret (.d (.bool b50)), s)) (s : St) : ∃ J' s', runC callee lf cx pf15.body (envOf 37 [(0, .agg c.cells)] (fun _ => undefA)) s = some (.ret, envOf 37 [(2, .d (.int .i64 (chkI c b47 b48 b49 b50)))] J', s') := by
  obtain ⟨vv, hv0⟩ : ∃ v, v = chkI c b47 b48 b49 b50 := ⟨_, rfl⟩
  rw [← hv0]
  cases e0 : (decide (((List.length c.G : Nat) : Int) > 6)) with
  | true =>
    have hv : vv = 6 := hv0.trans (by simp only [chkI, cond_true, cond_false, e0, Bool.not_true, Bool.not_false, Bool.and_true, Bool.true_and, Bool.and_false, Bool.false_and, Bool.or_true, Bool.true_or, Bool.or_false, Bool.false_or]); rw [hv]; obtain ⟨J', h⟩ := r15_0 (callee := callee) (cx := cx) (lf := lf) (fun _ => undefA) s.boxes s.toks s.maps c.G c.C c.E c.K b47 b48 b49 b50  rfl e0; exact ⟨J', _, h⟩
  | false =>
    cases e1 : (decide (((List.length c.C : Nat) : Int) > 12)) with
    | true =>
      have hv : vv = 6 := hv0.trans (by simp only [chkI, cond_true, cond_false, e0, e1, Bool.not_true, Bool.not_false, Bool.and_true, Bool.true_and, Bool.and_false, Bool.false_and, Bool.or_true, Bool.true_or, Bool.or_false, Bool.false_or]); rw [hv]; obtain ⟨J', h⟩ := r15_1 (callee := callee) (cx := cx) (lf := lf) (fun _ => undefA) s.boxes s.toks s.maps c.G c.C c.E c.K b47 b48 b49 b50  rfl e0 e1; exact ⟨J', _, h⟩
    | false =>
      cases e2 : (decide (((List.length c.E : Nat) : Int) > 400)) with
      | true =>
        have hv : vv = 6 := hv0.trans (by simp only [chkI, cond_true, cond_false, e0, e1, e2, Bool.not_true, Bool.not_false, Bool.and_true, Bool.true_and, Bool.and_false, Bool.false_and, Bool.or_true, Bool.true_or, Bool.or_false, Bool.false_or]); rw [hv]; obtain ⟨J', h⟩ := r15_2 (callee := callee) (cx := cx) (lf := lf) (fun _ => undefA) s.boxes s.toks s.maps c.G c.C c.E c.K b47 b48 b49 b50  rfl e0 e1 e2; exact ⟨J', _, h⟩
      | false =>
        cases e3 : (decide (((List.length c.K : Nat) : Int) > 144)) with
        | true =>
          have hv : vv = 6 := hv0.trans (by simp only [chkI, cond_true, cond_false, e0, e1, e2, e3, Bool.not_true, Bool.not_false, Bool.and_true, Bool.true_and, Bool.and_false, Bool.false_and, Bool.or_true, Bool.true_or, Bool.or_false, Bool.false_or]); rw [hv]; obtain ⟨J', h⟩ := r15_3 (callee := callee) (cx := cx) (lf := lf) (fun _ => undefA) s.boxes s.toks s.maps c.G c.C c.E c.K b47 b48 b49 b50  rfl e0 e1 e2 e3; exact ⟨J', _, h⟩
        | false =>
          cases e4 : b47 with
          | true =>
            cases e5 : b48 with
            | true =>
              cases e6 : b49 with
              | true =>
                cases e7 : b50 with
                | true =>
                  have hv : vv = 0 := hv0.trans (by simp only [chkI, cond_true, cond_false, e0, e1, e2, e3, e4, e5, e6, e7, Bool.not_true, Bool.not_false, Bool.and_true, Bool.true_and, Bool.and_false, Bool.false_and, Bool.or_true, Bool.true_or, Bool.or_false, Bool.false_or]); rw [hv]; obtain ⟨J', h⟩ := r15_7 (callee := callee) (cx := cx) (lf := lf) (fun _ => undefA) s.boxes s.toks s.maps c.G c.C c.E c.K b47 b48 b49 b50 h47 h48 h49 (h50 e4) rfl e0 e1 e2 e3 e4 e5 e6 e7; exact ⟨J', _, h⟩
                | false =>
                  have hv : vv = 9 := hv0.trans (by simp only [chkI, cond_true, cond_false, e0, e1, e2, e3, e4, e5, e6, e7, Bool.not_true, Bool.not_false, Bool.and_true, Bool.true_and, Bool.and_false, Bool.false_and, Bool.or_true, Bool.true_or, Bool.or_false, Bool.false_or]); rw [hv]; obtain ⟨J', h⟩ := r15_8 (callee := callee) (cx := cx) (lf := lf) (fun _ => undefA) s.boxes s.toks s.maps c.G c.C c.E c.K b47 b48 b49 b50 h47 h48 h49 (h50 e4) rfl e0 e1 e2 e3 e4 e5 e6 e7; exact ⟨J', _, h⟩
              | false =>
                have hv : vv = 5 := hv0.trans (by simp only [chkI, cond_true, cond_false, e0, e1, e2, e3, e4, e5, e6, Bool.not_true, Bool.not_false, Bool.and_true, Bool.true_and, Bool.and_false, Bool.false_and, Bool.or_true, Bool.true_or, Bool.or_false, Bool.false_or]); rw [hv]; obtain ⟨J', h⟩ := r15_6 (callee := callee) (cx := cx) (lf := lf) (fun _ => undefA) s.boxes s.toks s.maps c.G c.C c.E c.K b47 b48 b49 b50 h47 h48 h49 rfl e0 e1 e2 e3 e4 e5 e6; exact ⟨J', _, h⟩
            | false =>
              have hv : vv = 4 := hv0.trans (by simp only [chkI, cond_true, cond_false, e0, e1, e2, e3, e4, e5, Bool.not_true, Bool.not_false, Bool.and_true, Bool.true_and, Bool.and_false, Bool.false_and, Bool.or_true, Bool.true_or, Bool.or_false, Bool.false_or]); rw [hv]; obtain ⟨J', h⟩ := r15_5 (callee := callee) (cx := cx) (lf := lf) (fun _ => undefA) s.boxes s.toks s.maps c.G c.C c.E c.K b47 b48 b49 b50 h47 h48 rfl e0 e1 e2 e3 e4 e5; exact ⟨J', _, h⟩
          | false =>
            have hv : vv = 3 := hv0.trans (by simp only [chkI, cond_true, cond_false, e0, e1, e2, e3, e4, Bool.not_true, Bool.not_false, Bool.and_true, Bool.true_and, Bool.and_false, Bool.false_and, Bool.or_true, Bool.true_or, Bool.or_false, Bool.false_or]); rw [hv]; obtain ⟨J', h⟩ := r15_4 (callee := callee) (cx := cx) (lf := lf) (fun _ => undefA) s.boxes s.toks s.maps c.G c.C c.E c.K b47 b48 b49 b50 h47 rfl e0 e1 e2 e3 e4; exact ⟨J', _, h⟩

theorem e20 (c : Cat) (q : List Nat) (s : St) (hb : cx.b ≤ s.boxes.length) (hs : c.E.length < 1000000) (hlf : c.E.length < lf) : ∃ J' s', runC callee lf cx pf20.body (envOf 22 [(0, .agg c.cells), (1, .d (.str q))] (fun _ => undefA)) s = some (.ret, envOf 22 [(4, .d (.int .i64 (rIdx q c.E)))] J', s') := by
  obtain ⟨J1, h1⟩ := r20a_0 (callee := callee) (cx := cx) (lf := lf) (fun _ => undefA) s.boxes s.toks s.maps c.G c.C c.E c.K q rfl
  have I1 : CatI c cx.b s.boxes.length ⟨pushB s.boxes c.cells, s.toks, s.maps⟩ := catI_new hb
  obtain ⟨J2, h2⟩ := r20b_0 (callee := callee) (cx := cx) (lf := lf) J1 (pushB s.boxes c.cells) s.toks s.maps c.G c.C c.E c.K s.boxes.length q
  obtain ⟨J3, s3, h3⟩ := find_count (callee := callee) (cx := cx) (lf := lf) (Q := cO (cB (cR (cL (cR pf20.body))))) (id := 0) (N := 22) (m := c.E.length) (I := CatI c cx.b s.boxes.length) [(1, .d (.str q)), (2, .ptr s.boxes.length 0)] 5 (fun k => .d (.int .i64 ((k : Nat) : Int))) (fun k => [(4, .d (.int .i64 ((k : Nat) : Int)))]) (fun k => !(rowIs q (c.E.getD k []))) hlf
    (fun k J s2 hk hI => by
      obtain ⟨x, hx, hx1, hx2⟩ := c.getE hk
      cases e0 : beqN x.code q with
      | true =>
        obtain ⟨J', h⟩ := r20c_1 (callee := callee) (cx := cx) (lf := lf) J s2.boxes s2.toks s2.maps c.G c.C c.E c.K s.boxes.length k q x.code x.grp x.val x.cls x.low hI.1 hx1 (lt_dec hk) e0
        exact ⟨J', s2, .inl ⟨by simp only [hx2, Elm.row, rowIs, e0, Bool.not_true], h⟩⟩
      | false =>
        obtain ⟨J', h⟩ := r20c_2 (callee := callee) (cx := cx) (lf := lf) J s2.boxes s2.toks s2.maps c.G c.C c.E c.K s.boxes.length k q x.code x.grp x.val x.cls x.low hI.1 hx1 (lt_dec hk) e0
        rw [wrapN (by omega)] at h
        exact ⟨J', s2, .inr ⟨by simp only [hx2, Elm.row, rowIs, e0, Bool.not_false], h, hI⟩⟩)
    (fun J s2 hI => by
      obtain ⟨J', h⟩ := r20c_0 (callee := callee) (cx := cx) (lf := lf) J s2.boxes s2.toks s2.maps c.G c.C c.E c.K s.boxes.length c.E.length q [] [] 0 [] [] hI.1 (not_lt_dec (by omega))
      exact ⟨J', s2, h, hI⟩) J2 _ I1
  rw [show pf20.body = .seq (cL pf20.body) (.seq (.seq (cL (cL (cR pf20.body))) (.block 0 (.loop (cO (cB (cR (cL (cR pf20.body)))))))) (cR (cR pf20.body))) from rfl]
  rcases h3 with ⟨k, hk, hg, hj, h3⟩ | ⟨hg, h3, I3⟩
  · rw [rIdx_at hk (by simpa using hg) (fun j hj2 => by simpa using hj j hj2)]
    exact ⟨J3, s3, run_seq h1 (run_stop (run_seq h2 h3) (by simp))⟩
  · rw [rIdx_none (fun j hj2 => by simpa using hg j hj2)]
    obtain ⟨J4, h4⟩ := r20d_0 (callee := callee) (cx := cx) (lf := lf) J3 s3.boxes s3.toks s3.maps c.G c.C c.E c.K s.boxes.length q
    exact ⟨J4, s3, run_seq h1 (run_seq (run_seq h2 h3) h4)⟩

theorem e101 (c : Cat) (q : List Nat) (s : St) (hb : cx.b ≤ s.boxes.length) (hs : c.G.length < 1000000) (hlf : c.G.length < lf) : ∃ J' s', runC callee lf cx pf101.body (envOf 22 [(0, .agg c.cells), (1, .d (.str q))] (fun _ => undefA)) s = some (.ret, envOf 22 [(4, .d (.int .i64 (rIdx q c.G)))] J', s') := by
  obtain ⟨J1, h1⟩ := r101a_0 (callee := callee) (cx := cx) (lf := lf) (fun _ => undefA) s.boxes s.toks s.maps c.G c.C c.E c.K q rfl
  have I1 : CatI c cx.b s.boxes.length ⟨pushB s.boxes c.cells, s.toks, s.maps⟩ := catI_new hb
  obtain ⟨J2, h2⟩ := r101b_0 (callee := callee) (cx := cx) (lf := lf) J1 (pushB s.boxes c.cells) s.toks s.maps c.G c.C c.E c.K s.boxes.length q
  obtain ⟨J3, s3, h3⟩ := find_count (callee := callee) (cx := cx) (lf := lf) (Q := cO (cB (cR (cL (cR pf101.body))))) (id := 0) (N := 22) (m := c.G.length) (I := CatI c cx.b s.boxes.length) [(1, .d (.str q)), (2, .ptr s.boxes.length 0)] 5 (fun k => .d (.int .i64 ((k : Nat) : Int))) (fun k => [(4, .d (.int .i64 ((k : Nat) : Int)))]) (fun k => !(rowIs q (c.G.getD k []))) hlf
    (fun k J s2 hk hI => by
      obtain ⟨x, hx, hx1, hx2⟩ := c.getG hk
      cases e0 : beqN x.name q with
      | true =>
        obtain ⟨J', h⟩ := r101c_1 (callee := callee) (cx := cx) (lf := lf) J s2.boxes s2.toks s2.maps c.G c.C c.E c.K s.boxes.length k q x.name x.limit x.credit hI.1 hx1 (lt_dec hk) e0
        exact ⟨J', s2, .inl ⟨by simp only [hx2, Gp.row, rowIs, e0, Bool.not_true], h⟩⟩
      | false =>
        obtain ⟨J', h⟩ := r101c_2 (callee := callee) (cx := cx) (lf := lf) J s2.boxes s2.toks s2.maps c.G c.C c.E c.K s.boxes.length k q x.name x.limit x.credit hI.1 hx1 (lt_dec hk) e0
        rw [wrapN (by omega)] at h
        exact ⟨J', s2, .inr ⟨by simp only [hx2, Gp.row, rowIs, e0, Bool.not_false], h, hI⟩⟩)
    (fun J s2 hI => by
      obtain ⟨J', h⟩ := r101c_0 (callee := callee) (cx := cx) (lf := lf) J s2.boxes s2.toks s2.maps c.G c.C c.E c.K s.boxes.length c.G.length q [] 0 0 hI.1 (not_lt_dec (by omega))
      exact ⟨J', s2, h, hI⟩) J2 _ I1
  rw [show pf101.body = .seq (cL pf101.body) (.seq (.seq (cL (cL (cR pf101.body))) (.block 0 (.loop (cO (cB (cR (cL (cR pf101.body)))))))) (cR (cR pf101.body))) from rfl]
  rcases h3 with ⟨k, hk, hg, hj, h3⟩ | ⟨hg, h3, I3⟩
  · rw [rIdx_at hk (by simpa using hg) (fun j hj2 => by simpa using hj j hj2)]
    exact ⟨J3, s3, run_seq h1 (run_stop (run_seq h2 h3) (by simp))⟩
  · rw [rIdx_none (fun j hj2 => by simpa using hg j hj2)]
    obtain ⟨J4, h4⟩ := r101d_0 (callee := callee) (cx := cx) (lf := lf) J3 s3.boxes s3.toks s3.maps c.G c.C c.E c.K s.boxes.length q
    exact ⟨J4, s3, run_seq h1 (run_seq (run_seq h2 h3) h4)⟩

end
end Go.Rf

namespace Go.Rf
set_option maxRecDepth 100000
set_option linter.unusedVariables false
set_option linter.unusedSimpArgs false
section
variable {callee : Callee} {cx : Cx} {lf : Nat}
def b49 (c : Cat) : Bool := (List.range c.G.length).all (fun k => grpOk (c.G.getD k [])) && ((List.range c.E.length).all (fun k => elmOk (c.E.getD k [])) && ((List.range c.K.length).all (fun k => cnnOk (c.K.getD k [])) && true))
theorem e49 (c : Cat) (s : St) (hb : cx.b ≤ s.boxes.length) (hsE : c.E.length < 1000000) (hE : c.E.length < lf) (hsG : c.G.length < 1000000) (hG : c.G.length < lf) (hsK : c.K.length < 1000000) (hK : c.K.length < lf)  :
    ∃ J' s', runC callee lf cx pf49.body (envOf 83 [(0, .agg c.cells)] (fun _ => undefA)) s = some (.ret, envOf 83 [(2, .d (.bool (b49 c)))] J', s') := by
  obtain ⟨J1, h1⟩ := r49a_0 (callee := callee) (cx := cx) (lf := lf) (fun _ => undefA) s.boxes s.toks s.maps c.G c.C c.E c.K rfl
  have I1 : CatI c cx.b s.boxes.length ⟨pushB s.boxes c.cells, s.toks, s.maps⟩ := catI_new hb
  have p : ∀ (slot : Nat) (C : PC), (∀ J D T M, ∃ J', runC callee lf cx C (envOf 83 [(1, .ptr s.boxes.length 0)] J) ⟨D, T, M⟩ = some (.normal, envOf 83 [(1, .ptr s.boxes.length 0), (slot, .d (.int .i64 0))] J', ⟨D, T, M⟩)) →
      Plain callee cx lf C 83 [(1, .ptr s.boxes.length 0)] [(1, .ptr s.boxes.length 0), (slot, .d (.int .i64 0))] (CatI c cx.b s.boxes.length) (CatI c cx.b s.boxes.length) := fun slot C h J s hI => by
    obtain ⟨J', h⟩ := h J s.boxes s.toks s.maps
    exact ⟨J', s, h, hI⟩
  have pe : Ends callee cx lf (cR (cR (cR (cR (pf49.body))))) 83 [(1, .ptr s.boxes.length 0)] 2 (CatI c cx.b s.boxes.length) (.d (.bool true)) := fun J s2 hI => by
    obtain ⟨J', h⟩ := r49e_0 (callee := callee) (cx := cx) (lf := lf) J s2.boxes s2.toks s2.maps c.G c.C c.E c.K s.boxes.length
    exact ⟨J', s2, h⟩
  obtain ⟨J2, s2, h2⟩ := Scan.ends (Plain.scan (p 3 _ fun J D T M => r49bi_0 J D T M c.G c.C c.E c.K _) (l49b c _ hsG hG))
    (Scan.ends (Plain.scan (p 5 _ fun J D T M => r49ci_0 J D T M c.G c.C c.E c.K _) (l49c c _ hsE hE))
    (Scan.ends (Plain.scan (p 6 _ fun J D T M => r49di_0 J D T M c.G c.C c.E c.K _) (l49d c _ hsK hK))
    (pe))) J1 _ I1
  exact ⟨J2, s2, by rw [show pf49.body = .seq (cL pf49.body) (.seq (.seq (cL (cL (cR (pf49.body)))) (.block 0 (.loop (cO (cB (cR (cL (cR (pf49.body))))))))) (.seq (.seq (cL (cL (cR (cR (pf49.body))))) (.block 2 (.loop (cO (cB (cR (cL (cR (cR (pf49.body)))))))))) (.seq (.seq (cL (cL (cR (cR (cR (pf49.body)))))) (.block 4 (.loop (cO (cB (cR (cL (cR (cR (cR (pf49.body))))))))))) (cR (cR (cR (cR (pf49.body)))))))) from rfl]; exact run_seq h1 h2⟩

def b47 (c : Cat) : Bool := (List.range c.G.length).all (fun k => nmOk (c.G.getD k [])) && ((List.range c.C.length).all (fun k => nmOk (c.C.getD k [])) && ((List.range c.E.length).all (fun k => refOk c.G c.C c.E (c.E.getD k [])) && ((List.range c.K.length).all (fun k => lnkOk c.C (c.K.getD k [])) && true)))
theorem e47 (c : Cat) (s : St) (hb : cx.b ≤ s.boxes.length) (hsC : c.C.length < 1000000) (hC : c.C.length < lf) (hsE : c.E.length < 1000000) (hE : c.E.length < lf) (hsG : c.G.length < 1000000) (hG : c.G.length < lf) (hsK : c.K.length < 1000000) (hK : c.K.length < lf) (h99 : ∀ (s : St) (x : List Nat), callee 99 [.d (.str x)] cx s = some (.ret (.d (.bool (nameB x))), s)) (h100 : ∀ (s : St) (x : List Nat), callee 100 [.d (.str x)] cx s = some (.ret (.d (.bool (codeB x))), s)) (h101 : ∀ (s : St) (x : List Nat), callee 101 [.agg c.cells, .d (.str x)] cx s = some (.ret (.d (.int .i64 (rIdx x c.G))), s)) (h20 : ∀ (s : St) (x : List Nat), callee 20 [.agg c.cells, .d (.str x)] cx s = some (.ret (.d (.int .i64 (rIdx x c.E))), s)) (h102 : ∀ (s : St) (x : List Nat), callee 102 [.d (.sl c.C), .d (.str x)] cx s = some (.ret (.d (.bool (rHas x c.C))), s)) :
    ∃ J' s', runC callee lf cx pf47.body (envOf 114 [(0, .agg c.cells)] (fun _ => undefA)) s = some (.ret, envOf 114 [(2, .d (.bool (b47 c)))] J', s') := by
  obtain ⟨J1, h1⟩ := r47a_0 (callee := callee) (cx := cx) (lf := lf) (fun _ => undefA) s.boxes s.toks s.maps c.G c.C c.E c.K rfl
  have I1 : CatI c cx.b s.boxes.length ⟨pushB s.boxes c.cells, s.toks, s.maps⟩ := catI_new hb
  have p : ∀ (slot : Nat) (C : PC), (∀ J D T M, ∃ J', runC callee lf cx C (envOf 114 [(1, .ptr s.boxes.length 0)] J) ⟨D, T, M⟩ = some (.normal, envOf 114 [(1, .ptr s.boxes.length 0), (slot, .d (.int .i64 0))] J', ⟨D, T, M⟩)) →
      Plain callee cx lf C 114 [(1, .ptr s.boxes.length 0)] [(1, .ptr s.boxes.length 0), (slot, .d (.int .i64 0))] (CatI c cx.b s.boxes.length) (CatI c cx.b s.boxes.length) := fun slot C h J s hI => by
    obtain ⟨J', h⟩ := h J s.boxes s.toks s.maps
    exact ⟨J', s, h, hI⟩
  have pe : Ends callee cx lf (cR (cR (cR (cR (cR (pf47.body)))))) 114 [(1, .ptr s.boxes.length 0)] 2 (CatI c cx.b s.boxes.length) (.d (.bool true)) := fun J s2 hI => by
    obtain ⟨J', h⟩ := r47f_0 (callee := callee) (cx := cx) (lf := lf) J s2.boxes s2.toks s2.maps c.G c.C c.E c.K s.boxes.length
    exact ⟨J', s2, h⟩
  obtain ⟨J2, s2, h2⟩ := Scan.ends (Plain.scan (p 3 _ fun J D T M => r47bi_0 J D T M c.G c.C c.E c.K _) (l47b c _ h99 hsG hG))
    (Scan.ends (Plain.scan (p 4 _ fun J D T M => r47ci_0 J D T M c.G c.C c.E c.K _) (l47c c _ h99 hsC hC))
    (Scan.ends (Plain.scan (p 5 _ fun J D T M => r47di_0 J D T M c.G c.C c.E c.K _) (l47d c _ h100 h101 h20 h102 hsE hE))
    (Scan.ends (Plain.scan (p 7 _ fun J D T M => r47ei_0 J D T M c.G c.C c.E c.K _) (l47e c _ h102 hsK hK))
    (pe)))) J1 _ I1
  exact ⟨J2, s2, by rw [show pf47.body = .seq (cL pf47.body) (.seq (.seq (cL (cL (cR (pf47.body)))) (.block 0 (.loop (cO (cB (cR (cL (cR (pf47.body))))))))) (.seq (.seq (cL (cL (cR (cR (pf47.body))))) (.block 2 (.loop (cO (cB (cR (cL (cR (cR (pf47.body)))))))))) (.seq (.seq (cL (cL (cR (cR (cR (pf47.body)))))) (.block 4 (.loop (cO (cB (cR (cL (cR (cR (cR (pf47.body))))))))))) (.seq (.seq (cL (cL (cR (cR (cR (cR (pf47.body))))))) (.block 6 (.loop (cO (cB (cR (cL (cR (cR (cR (cR (pf47.body)))))))))))) (cR (cR (cR (cR (cR (pf47.body)))))))))) from rfl]; exact run_seq h1 h2⟩

theorem plain_of {C : PC} {N : Nat} {kn0 kn1 : Kn} {I : St → Prop} (h : ∀ J D T M, ∃ J', runC callee lf cx C (envOf N kn0 J) ⟨D, T, M⟩ = some (.normal, envOf N kn1 J', ⟨D, T, M⟩)) : Plain callee cx lf C N kn0 kn1 I I := fun J s hI => by
  obtain ⟨J', h⟩ := h J s.boxes s.toks s.maps
  exact ⟨J', s, h, hI⟩
theorem ends_of {C : PC} {N r : Nat} {kn0 : Kn} {I : St → Prop} {v : AV} (h : ∀ J D T M, ∃ J', runC callee lf cx C (envOf N kn0 J) ⟨D, T, M⟩ = some (.ret, envOf N [(r, v)] J', ⟨D, T, M⟩)) : Ends callee cx lf C N kn0 r I v := fun J s hI => by
  obtain ⟨J', h⟩ := h J s.boxes s.toks s.maps
  exact ⟨J', s, h⟩
abbrev TT : St → Prop := fun _ => True
theorem getS (C : List (List Nat)) {k : Nat} (h : k < (C.map strRow).length) : ∃ x, (C.map strRow)[k]? = some [.str x] ∧ (C.map strRow).getD k [] = [.str x] := by
  obtain ⟨x, _, h1, h2⟩ := row_get strRow C h
  exact ⟨x, h1, h2⟩
/-- Has. -/
theorem e102 (C : List (List Nat)) (q : List Nat) (s : St) (hs : (C.map strRow).length < 1000000) (hlf : (C.map strRow).length < lf) : ∃ J' s', runC callee lf cx pf102.body (envOf 18 [(0, .d (.sl (C.map strRow))), (1, .d (.str q))] (fun _ => undefA)) s = some (.ret, envOf 18 [(4, .d (.bool (rHas q (C.map strRow))))] J', s') := by
  obtain ⟨J1, h1⟩ := r102a_0 (callee := callee) (cx := cx) (lf := lf) (fun _ => undefA) s.boxes s.toks s.maps (C.map strRow) q
  obtain ⟨J2, h2⟩ := r102b_0 (callee := callee) (cx := cx) (lf := lf) J1 s.boxes s.toks s.maps (C.map strRow) q
  obtain ⟨J3, s3, h3⟩ := find_count (callee := callee) (cx := cx) (lf := lf) (Q := cO (cB (cR (cL (cR pf102.body))))) (id := 0) (N := 18) (m := (C.map strRow).length) (I := TT) [(0, .d (.sl (C.map strRow))), (1, .d (.str q))] 5 (fun k => .d (.int .i64 ((k : Nat) : Int))) (fun k => [(4, .d (.bool true))]) (fun k => !(rowIs q ((C.map strRow).getD k []))) hlf
    (fun k J s2 hk hI => by
      obtain ⟨x, hx1, hx2⟩ := getS C hk
      cases e0 : beqN x q with
      | true =>
        obtain ⟨J', h⟩ := r102c_1 (callee := callee) (cx := cx) (lf := lf) J s2.boxes s2.toks s2.maps (C.map strRow) q k x hx1 (lt_dec hk) e0
        exact ⟨J', s2, .inl ⟨by simp only [hx2, rowIs, e0, Bool.not_true], h⟩⟩
      | false =>
        obtain ⟨J', h⟩ := r102c_2 (callee := callee) (cx := cx) (lf := lf) J s2.boxes s2.toks s2.maps (C.map strRow) q k x hx1 (lt_dec hk) e0
        rw [wrapN (by omega)] at h
        exact ⟨J', s2, .inr ⟨by simp only [hx2, rowIs, e0, Bool.not_false], h, hI⟩⟩)
    (fun J s2 hI => by
      obtain ⟨J', h⟩ := r102c_0 (callee := callee) (cx := cx) (lf := lf) J s2.boxes s2.toks s2.maps (C.map strRow) q (C.map strRow).length [] (not_lt_dec (by omega))
      exact ⟨J', s2, h, hI⟩) J2 s trivial
  rw [show pf102.body = .seq (cL pf102.body) (.seq (.seq (cL (cL (cR pf102.body))) (.block 0 (.loop (cO (cB (cR (cL (cR pf102.body)))))))) (cR (cR pf102.body))) from rfl]
  rcases h3 with ⟨k, hk, hg, hj, h3⟩ | ⟨hg, h3, I3⟩
  · rw [rHas_at hk (by simpa using hg)]
    exact ⟨J3, s3, run_seq h1 (run_stop (run_seq h2 h3) (by simp))⟩
  · rw [rHas_none (fun j hj2 => by simpa using hg j hj2)]
    obtain ⟨J4, h4⟩ := r102d_0 (callee := callee) (cx := cx) (lf := lf) J3 s3.boxes s3.toks s3.maps (C.map strRow) q
    exact ⟨J4, s3, run_seq h1 (run_seq (run_seq h2 h3) h4)⟩
/-- Sorted. -/
theorem e104 (C : List (List Nat)) (s : St) (hs : (C.map strRow).length < 1000000) (hlf : (C.map strRow).length < lf) : ∃ J' s', runC callee lf cx pf104.body (envOf 20 [(0, .d (.sl (C.map strRow)))] (fun _ => undefA)) s = some (.ret, envOf 20 [(2, .d (.bool (upR (C.map strRow) && true)))] J', s') := by
  obtain ⟨J1, h1⟩ := r104a_0 (callee := callee) (cx := cx) (lf := lf) (fun _ => undefA) s.boxes s.toks s.maps (C.map strRow)
  have L : Scan callee cx lf (.block 0 (.loop (cO (cB (cR (cL (cR pf104.body))))))) 20 [(0, .d (.sl (C.map strRow))), (3, .d (.int .i64 1))] 2 [(0, .d (.sl (C.map strRow)))] TT (upR (C.map strRow)) := by
    refine Scan.rounds [(0, .d (.sl (C.map strRow)))] 3 (fun k => .d (.int .i64 ((k + 1 : Nat) : Int))) (rowUp (C.map strRow)) (by omega) ?_ ?_
    · intro k J s hk hI
      obtain ⟨x, hx1, hx2⟩ := getS C (k := k) (by omega)
      obtain ⟨y, hy1, hy2⟩ := getS C (k := k + 1) (by omega)
      cases e0 : bless x y with
      | true =>
        obtain ⟨J', h⟩ := r104c_2 (callee := callee) (cx := cx) (lf := lf) J s.boxes s.toks s.maps (C.map strRow) k y x (sub_w (by omega)) hy1 hx1 (lt_dec (by omega)) (by rw [e0]; rfl)
        rw [wrapN (by omega)] at h
        exact ⟨J', s, .inr ⟨by simp only [rowUp, hx2, hy2, e0], h, hI⟩⟩
      | false =>
        obtain ⟨J', h⟩ := r104c_1 (callee := callee) (cx := cx) (lf := lf) J s.boxes s.toks s.maps (C.map strRow) k y x (sub_w (by omega)) hy1 hx1 (lt_dec (by omega)) (by rw [e0]; rfl)
        exact ⟨J', s, .inl ⟨by simp only [rowUp, hx2, hy2, e0], h⟩⟩
    · intro J s hI
      obtain ⟨J', h⟩ := r104c_0 (callee := callee) (cx := cx) (lf := lf) J s.boxes s.toks s.maps (C.map strRow) ((C.map strRow).length - 1) [] [] (not_lt_dec (by omega))
      exact ⟨J', s, h, hI⟩
  obtain ⟨J2, s2, h2⟩ := Scan.ends (Plain.scan (plain_of fun J D T M => r104b_0 J D T M (C.map strRow)) L) (ends_of fun J D T M => r104d_0 J D T M (C.map strRow)) J1 s trivial
  exact ⟨J2, s2, by rw [show pf104.body = .seq (cL pf104.body) (.seq (.seq (cL (cL (cR pf104.body))) (.block 0 (.loop (cO (cB (cR (cL (cR pf104.body)))))))) (cR (cR pf104.body))) from rfl]; exact run_seq h1 h2⟩
/-- Same. -/
def sameR (C E : List (List Nat)) : Bool := !(((List.length (C.map strRow) : Nat) : Int) != ((List.length (E.map strRow) : Nat) : Int)) && ((List.range (C.map strRow).length).all fun k => beqN (C.getD k []) (E.getD k []))
theorem e26 (C E : List (List Nat)) (s : St) (hs : (C.map strRow).length < 1000000) (hlf : (C.map strRow).length < lf) : ∃ J' s', runC callee lf cx pf26.body (envOf 26 [(0, .d (.sl (C.map strRow))), (1, .d (.sl (E.map strRow)))] (fun _ => undefA)) s = some (.ret, envOf 26 [(4, .d (.bool (sameR C E)))] J', s') := by
  obtain ⟨J1, h1⟩ := r26a_0 (callee := callee) (cx := cx) (lf := lf) (fun _ => undefA) s.boxes s.toks s.maps (C.map strRow) (E.map strRow)
  rw [show pf26.body = .seq (cL pf26.body) (.seq (cL (cR pf26.body)) (.seq (.seq (cL (cL (cR (cR pf26.body)))) (.block 0 (.loop (cO (cB (cR (cL (cR (cR pf26.body))))))))) (cR (cR (cR pf26.body))))) from rfl]
  cases e : (((List.length (C.map strRow) : Nat) : Int) != ((List.length (E.map strRow) : Nat) : Int)) with
  | true =>
    obtain ⟨J2, h2⟩ := r26b_0 (callee := callee) (cx := cx) (lf := lf) J1 s.boxes s.toks s.maps (C.map strRow) (E.map strRow) e
    rw [show sameR C E = false from by simp only [sameR, e, Bool.not_true, Bool.false_and]]
    exact ⟨J2, s, run_seq h1 (run_stop h2 (by simp))⟩
  | false =>
    have hl : (C.map strRow).length = (E.map strRow).length := by simp at e; simp; omega
    obtain ⟨J2, h2⟩ := r26b_1 (callee := callee) (cx := cx) (lf := lf) J1 s.boxes s.toks s.maps (C.map strRow) (E.map strRow) e
    have L : Scan callee cx lf (.block 0 (.loop (cO (cB (cR (cL (cR (cR pf26.body)))))))) 26 [(0, .d (.sl (C.map strRow))), (1, .d (.sl (E.map strRow))), (5, .d (.int .i64 0))] 4 [(0, .d (.sl (C.map strRow))), (1, .d (.sl (E.map strRow)))] TT ((List.range (C.map strRow).length).all fun k => beqN (C.getD k []) (E.getD k [])) := by
      refine Scan.rounds [(0, .d (.sl (C.map strRow))), (1, .d (.sl (E.map strRow)))] 5 (fun k => .d (.int .i64 ((k : Nat) : Int))) (fun k => beqN (C.getD k []) (E.getD k [])) hlf ?_ ?_
      · intro k J s hk hI
        obtain ⟨x, hx0, hx1, hx2⟩ := row_get strRow C hk
        obtain ⟨y, hy0, hy1, hy2⟩ := row_get strRow E (k := k) (by omega)
        have hx3 : C.getD k [] = x := by rw [List.getD_eq_getElem?_getD, hx0]; rfl
        have hy3 : E.getD k [] = y := by rw [List.getD_eq_getElem?_getD, hy0]; rfl
        cases e0 : beqN x y with
        | true =>
          obtain ⟨J', h⟩ := r26d_2 (callee := callee) (cx := cx) (lf := lf) J s.boxes s.toks s.maps (C.map strRow) (E.map strRow) k x y hx1 hy1 (lt_dec hk) (by rw [e0]; rfl)
          rw [wrapN (by omega)] at h
          exact ⟨J', s, .inr ⟨by simp only [hx3, hy3, e0], h, hI⟩⟩
        | false =>
          obtain ⟨J', h⟩ := r26d_1 (callee := callee) (cx := cx) (lf := lf) J s.boxes s.toks s.maps (C.map strRow) (E.map strRow) k x y hx1 hy1 (lt_dec hk) (by rw [e0]; rfl)
          exact ⟨J', s, .inl ⟨by simp only [hx3, hy3, e0], h⟩⟩
      · intro J s hI
        obtain ⟨J', h⟩ := r26d_0 (callee := callee) (cx := cx) (lf := lf) J s.boxes s.toks s.maps (C.map strRow) (E.map strRow) (C.map strRow).length [] [] (not_lt_dec (by omega))
        exact ⟨J', s, h, hI⟩
    obtain ⟨J3, s3, h3⟩ := Scan.ends (Plain.scan (plain_of fun J D T M => r26c_0 J D T M (C.map strRow) (E.map strRow)) L) (ends_of fun J D T M => r26e_0 J D T M (C.map strRow) (E.map strRow)) J2 s trivial
    rw [show sameR C E = (((List.range (C.map strRow).length).all fun k => beqN (C.getD k []) (E.getD k [])) && true) from by simp only [sameR, e, Bool.not_false, Bool.true_and, Bool.and_true]]
    exact ⟨J3, s3, run_seq h1 (run_seq h2 h3)⟩
theorem e144 (c : Nat) (s : St) (h143 : ∀ (s : St) (x : Nat), callee 143 [.d (.int .u8 ((x : Nat) : Int)), .d (.int .u8 48), .d (.int .u8 57)] cx s = some (.ret (.d (.bool (inR x 48 57))), s)) :
    ∃ J' s', runC callee lf cx pf144.body (envOf 5 [(0, .d (.int .u8 ((c : Nat) : Int)))] (fun _ => undefA)) s = some (.ret, envOf 5 [(2, .d (.bool (digB c)))] J', s') := by
  obtain ⟨J', h⟩ := r144_0 (callee := callee) (cx := cx) (lf := lf) (fun _ => undefA) s.boxes s.toks s.maps c _ (h143 _ c)
  exact ⟨J', s, h⟩
/-- Name. -/
theorem e99 (t : List Nat) (s : St) (hs : t.length < 1000000 ∨ True) (hlf : 16 < lf)
    (h143 : ∀ (s : St) (x : Nat), callee 143 [.d (.int .u8 ((x : Nat) : Int)), .d (.int .u8 97), .d (.int .u8 122)] cx s = some (.ret (.d (.bool (inR x 97 122))), s))
    (h144 : ∀ (s : St) (x : Nat), callee 144 [.d (.int .u8 ((x : Nat) : Int))] cx s = some (.ret (.d (.bool (digB x))), s)) :
    ∃ J' s', runC callee lf cx pf99.body (envOf 42 [(0, .d (.str t))] (fun _ => undefA)) s = some (.ret, envOf 42 [(2, .d (.bool (nameB t)))] J', s') := by
  obtain ⟨J1, h1⟩ := r99a_0 (callee := callee) (cx := cx) (lf := lf) (fun _ => undefA) s.boxes s.toks s.maps t
  rw [show pf99.body = .seq (cL pf99.body) (.seq (cL (cR pf99.body)) (.seq (.seq (cL (cL (cR (cR pf99.body)))) (.block 0 (.loop (cO (cB (cR (cL (cR (cR pf99.body))))))))) (cR (cR (cR pf99.body))))) from rfl]
  cases e0 : decide (((List.length t : Nat) : Int) < 1) with
  | true =>
    obtain ⟨J2, h2⟩ := r99b_0 (callee := callee) (cx := cx) (lf := lf) J1 s.boxes s.toks s.maps t 0 e0
    rw [show nameB t = false from by simp only [nameB, e0, Bool.not_true, Bool.false_and]]
    exact ⟨J2, s, run_seq h1 (run_stop h2 (by simp))⟩
  | false =>
  cases e1 : decide (((List.length t : Nat) : Int) > 16) with
  | true =>
    obtain ⟨J2, h2⟩ := r99b_1 (callee := callee) (cx := cx) (lf := lf) J1 s.boxes s.toks s.maps t 0 e0 e1
    rw [show nameB t = false from by simp only [nameB, e0, e1, Bool.not_true, Bool.not_false, Bool.false_and, Bool.and_false]]
    exact ⟨J2, s, run_seq h1 (run_stop h2 (by simp))⟩
  | false =>
  have l0 : 0 < t.length := by have := of_decide_eq_false e0; omega
  have l1 : t.length ≤ 16 := by have := of_decide_eq_false e1; omega
  cases e2 : inR (byt t 0) 97 122 with
  | false =>
    obtain ⟨J2, h2⟩ := r99b_3 (callee := callee) (cx := cx) (lf := lf) J1 s.boxes s.toks s.maps t (byt t 0) h143 (byt_get l0) e0 e1 e2
    rw [show nameB t = false from by simp only [nameB, e0, e1, e2, Bool.not_true, Bool.not_false, Bool.false_and, Bool.and_false]]
    exact ⟨J2, s, run_seq h1 (run_stop h2 (by simp))⟩
  | true =>
  obtain ⟨J2, h2⟩ := r99b_2 (callee := callee) (cx := cx) (lf := lf) J1 s.boxes s.toks s.maps t (byt t 0) h143 (byt_get l0) e0 e1 e2
  have L : Scan callee cx lf (.block 0 (.loop (cO (cB (cR (cL (cR (cR pf99.body)))))))) 42 [(0, .d (.str t)), (3, .d (.int .i64 0))] 2 [(0, .d (.str t))] TT ((List.range t.length).all fun k => nameC (byt t k)) := by
    refine Scan.rounds [(0, .d (.str t))] 3 (fun k => .d (.int .i64 ((k : Nat) : Int))) (fun k => nameC (byt t k)) (by omega) ?_ ?_
    · intro k J s hk hI
      have hc := byt_get hk
      cases d1 : inR (byt t k) 97 122 with
      | true =>
        obtain ⟨J', h⟩ := r99d_1 (callee := callee) (cx := cx) (lf := lf) J s.boxes s.toks s.maps t k (byt t k) h143 hc (lt_dec hk) d1
        rw [wrapN (by omega)] at h
        exact ⟨J', s, .inr ⟨by simp only [nameC, d1, Bool.true_or], h, hI⟩⟩
      | false =>
      cases d2 : digB (byt t k) with
      | true =>
        obtain ⟨J', h⟩ := r99d_2 (callee := callee) (cx := cx) (lf := lf) J s.boxes s.toks s.maps t k (byt t k) h143 h144 hc (lt_dec hk) d1 d2
        rw [wrapN (by omega)] at h
        exact ⟨J', s, .inr ⟨by simp only [nameC, d1, d2, Bool.true_or, Bool.false_or], h, hI⟩⟩
      | false =>
      cases d3 : (((byt t k : Nat) : Int) != 95) with
      | true =>
        obtain ⟨J', h⟩ := r99d_3 (callee := callee) (cx := cx) (lf := lf) J s.boxes s.toks s.maps t k (byt t k) h143 h144 hc (lt_dec hk) d1 d2 d3
        exact ⟨J', s, .inl ⟨by simp only [nameC, d1, d2, d3, Bool.not_true, Bool.false_or], h⟩⟩
      | false =>
        obtain ⟨J', h⟩ := r99d_4 (callee := callee) (cx := cx) (lf := lf) J s.boxes s.toks s.maps t k (byt t k) h143 h144 hc (lt_dec hk) d1 d2 d3
        rw [wrapN (by omega)] at h
        exact ⟨J', s, .inr ⟨by simp only [nameC, d1, d2, d3, Bool.not_false, Bool.false_or], h, hI⟩⟩
    · intro J s hI
      obtain ⟨J', h⟩ := r99d_0 (callee := callee) (cx := cx) (lf := lf) J s.boxes s.toks s.maps t t.length 0 (not_lt_dec (by omega))
      exact ⟨J', s, h, hI⟩
  obtain ⟨J3, s3, h3⟩ := Scan.ends (Plain.scan (plain_of fun J D T M => r99c_0 J D T M t) L) (ends_of fun J D T M => r99e_0 J D T M t) J2 s trivial
  rw [show nameB t = (((List.range t.length).all fun k => nameC (byt t k)) && true) from by simp only [nameB, e0, e1, e2, Bool.not_false, Bool.true_and, Bool.and_true]]
  exact ⟨J3, s3, run_seq h1 (run_seq h2 h3)⟩
theorem anyL_s (t : List Nat) (k : Nat) : anyL t (k + 1) = (anyL t k || letB (byt t k)) := by
  simp only [anyL, List.range_succ, List.any_append, List.any_cons, List.any_nil, Bool.or_false]
/-- Code. -/
theorem e100 (t : List Nat) (s : St) (hlf : 8 < lf)
    (h143 : ∀ (s : St) (x : Nat), callee 143 [.d (.int .u8 ((x : Nat) : Int)), .d (.int .u8 97), .d (.int .u8 122)] cx s = some (.ret (.d (.bool (inR x 97 122))), s))
    (h143b : ∀ (s : St) (x : Nat), callee 143 [.d (.int .u8 ((x : Nat) : Int)), .d (.int .u8 65), .d (.int .u8 90)] cx s = some (.ret (.d (.bool (inR x 65 90))), s))
    (h144 : ∀ (s : St) (x : Nat), callee 144 [.d (.int .u8 ((x : Nat) : Int))] cx s = some (.ret (.d (.bool (digB x))), s)) :
    ∃ J' s', runC callee lf cx pf100.body (envOf 44 [(0, .d (.str t))] (fun _ => undefA)) s = some (.ret, envOf 44 [(2, .d (.bool (codeB t)))] J', s') := by
  obtain ⟨J1, h1⟩ := r100a_0 (callee := callee) (cx := cx) (lf := lf) (fun _ => undefA) s.boxes s.toks s.maps t
  rw [show pf100.body = .seq (cL pf100.body) (.seq (cL (cR pf100.body)) (.seq (cL (cR (cR pf100.body))) (.seq (.seq (cL (cL (cR (cR (cR pf100.body))))) (.block 0 (.loop (cO (cB (cR (cL (cR (cR (cR pf100.body)))))))))) (cR (cR (cR (cR pf100.body))))))) from rfl]
  cases e0 : decide (((List.length t : Nat) : Int) < 1) with
  | true =>
    obtain ⟨J2, h2⟩ := r100b_0 (callee := callee) (cx := cx) (lf := lf) J1 s.boxes s.toks s.maps t e0
    rw [show codeB t = false from by simp only [codeB, e0, Bool.not_true, Bool.false_and]]
    exact ⟨J2, s, run_seq h1 (run_stop h2 (by simp))⟩
  | false =>
  cases e1 : decide (((List.length t : Nat) : Int) > 8) with
  | true =>
    obtain ⟨J2, h2⟩ := r100b_1 (callee := callee) (cx := cx) (lf := lf) J1 s.boxes s.toks s.maps t e0 e1
    rw [show codeB t = false from by simp only [codeB, e0, e1, Bool.not_true, Bool.not_false, Bool.false_and, Bool.and_false]]
    exact ⟨J2, s, run_seq h1 (run_stop h2 (by simp))⟩
  | false =>
  have l0 : 0 < t.length := by have := of_decide_eq_false e0; omega
  have l1 : t.length ≤ 8 := by have := of_decide_eq_false e1; omega
  obtain ⟨J2, h2⟩ := r100b_2 (callee := callee) (cx := cx) (lf := lf) J1 s.boxes s.toks s.maps t e0 e1
  obtain ⟨J3, h3⟩ := r100c_0 (callee := callee) (cx := cx) (lf := lf) J2 s.boxes s.toks s.maps t
  have L : Scan callee cx lf (.block 0 (.loop (cO (cB (cR (cL (cR (cR (cR pf100.body))))))))) 44 [(0, .d (.str t)), (3, .d (.bool (anyL t 0))), (4, .d (.int .i64 ((0 : Nat) : Int)))] 2 [(0, .d (.str t)), (3, .d (.bool (anyL t t.length)))] TT ((List.range t.length).all fun k => letB (byt t k) || digB (byt t k)) := by
    refine Scan.loop (fun k => [(0, .d (.str t)), (3, .d (.bool (anyL t k))), (4, .d (.int .i64 ((k : Nat) : Int)))]) _ (fun k => letB (byt t k) || digB (byt t k)) (by omega) ?_ ?_ ?_
    · intro k J s hk hg hI
      have hc := byt_get hk
      have hs := anyL_s t k
      rw [hs]
      cases ha : anyL t k with
      | true =>
        cases d1 : inR (byt t k) 65 90 with
        | true =>
          obtain ⟨J', h⟩ := r100et_1 (callee := callee) (cx := cx) (lf := lf) J s.boxes s.toks s.maps t k (byt t k) h143 h143b hc (lt_dec hk) d1
          rw [wrapN (by omega)] at h
          exact ⟨J', s, h, hI⟩
        | false =>
        cases d2 : inR (byt t k) 97 122 with
        | true =>
          obtain ⟨J', h⟩ := r100et_2 (callee := callee) (cx := cx) (lf := lf) J s.boxes s.toks s.maps t k (byt t k) h143 h143b hc (lt_dec hk) d1 d2
          rw [wrapN (by omega)] at h
          exact ⟨J', s, h, hI⟩
        | false =>
          simp only [letB, d1, d2, Bool.false_or] at hg
          obtain ⟨J', h⟩ := r100et_3 (callee := callee) (cx := cx) (lf := lf) J s.boxes s.toks s.maps t k (byt t k) h143 h143b h144 hc (lt_dec hk) d1 d2 hg
          rw [wrapN (by omega)] at h
          exact ⟨J', s, h, hI⟩
      | false =>
        cases d1 : inR (byt t k) 65 90 with
        | true =>
          obtain ⟨J', h⟩ := r100ef_1 (callee := callee) (cx := cx) (lf := lf) J s.boxes s.toks s.maps t k (byt t k) h143 h143b hc (lt_dec hk) d1
          rw [wrapN (by omega)] at h
          simp only [letB, d1, Bool.true_or, Bool.or_true]
          exact ⟨J', s, h, hI⟩
        | false =>
        cases d2 : inR (byt t k) 97 122 with
        | true =>
          obtain ⟨J', h⟩ := r100ef_2 (callee := callee) (cx := cx) (lf := lf) J s.boxes s.toks s.maps t k (byt t k) h143 h143b hc (lt_dec hk) d1 d2
          rw [wrapN (by omega)] at h
          simp only [letB, d2, Bool.or_true]
          exact ⟨J', s, h, hI⟩
        | false =>
          simp only [letB, d1, d2, Bool.false_or] at hg
          obtain ⟨J', h⟩ := r100ef_3 (callee := callee) (cx := cx) (lf := lf) J s.boxes s.toks s.maps t k (byt t k) h143 h143b h144 hc (lt_dec hk) d1 d2 hg
          rw [wrapN (by omega)] at h
          simp only [letB, d1, d2, Bool.or_false]
          exact ⟨J', s, h, hI⟩
    · intro k J s hk hg hI
      have hc := byt_get hk
      simp only [letB, Bool.or_eq_false_iff] at hg
      obtain ⟨⟨d1, d2⟩, d3⟩ := hg
      cases ha : anyL t k with
      | true =>
        obtain ⟨J', h⟩ := r100et_4 (callee := callee) (cx := cx) (lf := lf) J s.boxes s.toks s.maps t k (byt t k) h143 h143b h144 hc (lt_dec hk) d1 d2 d3
        exact ⟨J', s, h⟩
      | false =>
        obtain ⟨J', h⟩ := r100ef_4 (callee := callee) (cx := cx) (lf := lf) J s.boxes s.toks s.maps t k (byt t k) h143 h143b h144 hc (lt_dec hk) d1 d2 d3
        exact ⟨J', s, h⟩
    · intro J s hI
      cases ha : anyL t t.length with
      | true =>
        obtain ⟨J', h⟩ := r100et_0 (callee := callee) (cx := cx) (lf := lf) J s.boxes s.toks s.maps t t.length 0 (not_lt_dec (by omega))
        exact ⟨_, s, by rw [h]; exact congrArg (fun e => some (Ex.exit 0, e, s)) (env_drop 44 [(0, .d (.str t)), (3, .d (.bool true))] 4 _ J'), hI⟩
      | false =>
        obtain ⟨J', h⟩ := r100ef_0 (callee := callee) (cx := cx) (lf := lf) J s.boxes s.toks s.maps t t.length 0 (not_lt_dec (by omega))
        exact ⟨_, s, by rw [h]; exact congrArg (fun e => some (Ex.exit 0, e, s)) (env_drop 44 [(0, .d (.str t)), (3, .d (.bool false))] 4 _ J'), hI⟩
  obtain ⟨J4, s4, h4⟩ := Scan.ends (Plain.scan (plain_of fun J D T M => r100d_0 J D T M t false) L) (ends_of fun J D T M => r100f_0 J D T M t (anyL t t.length)) J3 s trivial
  rw [show codeB t = (((List.range t.length).all fun k => letB (byt t k) || digB (byt t k)) && anyL t t.length) from by simp only [codeB, e0, e1, Bool.not_false, Bool.true_and]]
  exact ⟨J4, s4, run_seq h1 (run_seq h2 (run_seq h3 h4))⟩

end
end Go.Rf

namespace Go.Rf
set_option maxRecDepth 100000
set_option linter.unusedVariables false
set_option linter.unusedSimpArgs false
theorem rIdx_lt {q : List Nat} {G : List (List D)} (h : 0 ≤ rIdx q G) : (rIdx q G).toNat < G.length ∧ rIdx q G = (((rIdx q G).toNat : Nat) : Int) := by
  refine ⟨?_, (Int.toNat_of_nonneg h).symm⟩
  unfold rIdx at *
  cases e : G.findIdx? (rowIs q) with
  | none => rw [e] at h; simp at h
  | some i =>
    simp only [Int.toNat_natCast]
    rw [List.findIdx?_eq_some_iff_getElem] at e
    exact e.1
def dfE : Elm := ⟨[], [], 0, [], []⟩
/-- The element below. -/
def Cat.under (c : Cat) (e : Elm) : Elm := c.es.getD (rIdx e.low c.E).toNat dfE
def fallB (c : Cat) : Nat → Elm → Bool
  | 0, e => !(!(beqN e.low ([])))
  | r + 1, e => !(!(beqN e.low ([]))) || (!(decide ((c.under e).val > e.val)) && fallB c r (c.under e))
def Cat.lowsOk (c : Cat) : Prop := ∀ e ∈ c.es, beqN e.low [] = false → 0 ≤ rIdx e.low c.E
def elmCells (e : Elm) : List AV := [.d (.str e.code), .d (.str e.grp), .d (.int .i64 e.val), .d (.str e.cls), .d (.str e.low)]
theorem under_mem {c : Cat} {e : Elm} (h : 0 ≤ rIdx e.low c.E) : c.under e ∈ c.es ∧ c.E[(rIdx e.low c.E).toNat]? = some (Elm.row (c.under e)) := by
  obtain ⟨h1, h2⟩ := rIdx_lt h
  obtain ⟨x, hx, hx1, hx2⟩ := c.getE h1
  have : c.under e = x := by rw [Cat.under, List.getD_eq_getElem?_getD, hx]; rfl
  rw [this]
  exact ⟨List.mem_of_getElem? hx, hx1⟩
theorem iter_end {body : Env → St → Option (Ex × Env × St)} {l : Nat} {e e1 : Env} {s s1 : St} {ex : Ex} (h : body e s = some (ex, e1, s1)) (hne : ex ≠ .normal) : iter body (l + 1) e s = some (ex, e1, s1) := by
  simp only [iter, h]
  cases ex <;> first | rfl | exact absurd rfl hne
theorem iter_next {body : Env → St → Option (Ex × Env × St)} {l : Nat} {e e1 : Env} {s s1 : St} (h : body e s = some (.normal, e1, s1)) : iter body (l + 1) e s = iter body l e1 s1 := by
  simp only [iter, h]
theorem run_block_ret {callee : Callee} {lf : Nat} {cx : Cx} {id : Nat} {c : PC} {env e1 : Env} {st s1 : St} (h : runC callee lf cx c env st = some (.ret, e1, s1)) : runC callee lf cx (.block id c) env st = some (.ret, e1, s1) := by
  simp only [runC, h]
section
variable {callee : Callee} {cx : Cx} {lf : Nat}
structure FI (c : Cat) (b N Ne : Nat) (e : Elm) (s : St) : Prop where
  cat : CatI c b N s
  el : BoxAt s.boxes Ne (elmCells e)
  own : b ≤ Ne
  lt : N < Ne
theorem fi_next {c : Cat} {b N Ne : Nat} {e : Elm} {s : St} (u : Elm) (z : List AV) (h : FI c b N Ne e s) : FI c b N Ne u ⟨setB (setB (appN s.boxes [z]) (s.boxes.length + 0) (elmCells u)) Ne (elmCells u), s.toks, s.maps⟩ :=
  ⟨⟨bxA_ne (bxA_cp h.cat.1 rfl) h.lt, by rw [len_set, len_cp]; exact Nat.le_succ_of_le h.cat.2⟩, bxA_set (bxA_cp h.el rfl), h.own, h.lt⟩
abbrev Q50 : PC := cO (cB (cR (cR (cB (cL (cR (cO (cB (cR (cL (cR pf50.body)))))))))))
theorem fall_iter (c : Cat) (N Ne j : Nat) (hs : c.E.length < 1000000) (hlow : c.lowsOk) 
    (h20 : ∀ (s : St) (x : List Nat), callee 20 [.agg c.cells, .d (.str x)] cx s = some (.ret (.d (.int .i64 (rIdx x c.E))), s)) :
    ∀ (r l n : Nat) (e : Elm) (J : Nat → AV) (s : St), r < l → n + r = c.E.length + 1 → e ∈ c.es → FI c cx.b N Ne e s →
      ∃ J' s', (fallB c r e = false ∧ iter (fun e s => runC callee lf cx Q50 e s) l (envOf 45 [(1, .ptr N 0), (3, .d (.int .i64 ((j : Nat) : Int))), (4, .ptr Ne 0), (5, .d (.int .i64 ((n : Nat) : Int)))] J) s = some (.ret, envOf 45 [(2, .d (.bool false))] J', s')) ∨
        (fallB c r e = true ∧ iter (fun e s => runC callee lf cx Q50 e s) l (envOf 45 [(1, .ptr N 0), (3, .d (.int .i64 ((j : Nat) : Int))), (4, .ptr Ne 0), (5, .d (.int .i64 ((n : Nat) : Int)))] J) s = some (.exit 2, envOf 45 [(1, .ptr N 0), (3, .d (.int .i64 ((j : Nat) : Int)))] J', s') ∧ CatI c cx.b N s') := by
  intro r
  induction r with
  | zero =>
    intro l n e J s hl hn he hI
    obtain ⟨l, rfl⟩ : ∃ m, l = m + 1 := ⟨l - 1, by omega⟩
    cases e0 : (!(beqN e.low ([]))) with
    | false =>
      obtain ⟨J', h⟩ := r50e_0 (callee := callee) (cx := cx) (lf := lf) J s.boxes s.toks s.maps c.G c.C c.E c.K N j Ne n 0 e.code e.grp e.val e.cls e.low [] [] 0 [] [] hI.cat.1 hI.el e0
      have h' := (iter_end (body := fun e s => runC callee lf cx Q50 e s) (l := l) h (by simp)).trans (congrArg (fun x => some (Ex.exit 2, x, s)) ((env_drop 45 [(1, .ptr N 0), (3, .d (.int .i64 ((j : Nat) : Int))), (4, .ptr Ne 0)] 5 _ J').trans (env_drop 45 [(1, .ptr N 0), (3, .d (.int .i64 ((j : Nat) : Int)))] 4 _ _)))
      exact ⟨_, s, .inr ⟨by simp only [fallB, e0, Bool.not_false, Bool.true_or], h', hI.cat⟩⟩
    | true =>
      have hi := hlow e he (by simpa using e0)
      obtain ⟨u1, u2⟩ := under_mem hi
      have h20' : ∀ s, callee 20 [.agg c.cells, .d (.str e.low)] cx s = some (.ret (.d (.int .i64 (((rIdx e.low c.E).toNat : Nat) : Int))), s) := fun s => by rw [← (rIdx_lt hi).2]; exact h20 s e.low
      cases e1 : decide ((c.under e).val > e.val) with
      | true =>
        obtain ⟨J', h⟩ := r50e_1 (callee := callee) (cx := cx) (lf := lf) J s.boxes s.toks s.maps c.G c.C c.E c.K N j Ne n (rIdx e.low c.E).toNat e.code e.grp e.val e.cls e.low _ _ _ _ _ hI.cat.1 hI.cat.2 hI.el h20' u2 rfl e0 e1
        exact ⟨J', _, .inl ⟨by simp only [fallB, e0, Bool.not_true], iter_end (body := fun e s => runC callee lf cx Q50 e s) (l := l) h (by simp)⟩⟩
      | false =>
        obtain ⟨J', h⟩ := r50e_2 (callee := callee) (cx := cx) (lf := lf) J s.boxes s.toks s.maps c.G c.C c.E c.K N j Ne n (rIdx e.low c.E).toNat e.code e.grp e.val e.cls e.low _ _ _ _ _ hI.cat.1 hI.cat.2 hI.el h20' u2 rfl e0 e1 (decide_eq_true (by omega))
        exact ⟨J', _, .inl ⟨by simp only [fallB, e0, Bool.not_true], iter_end (body := fun e s => runC callee lf cx Q50 e s) (l := l) h (by simp)⟩⟩
  | succ r ih =>
    intro l n e J s hl hn he hI
    obtain ⟨l, rfl⟩ : ∃ m, l = m + 1 := ⟨l - 1, by omega⟩
    cases e0 : (!(beqN e.low ([]))) with
    | false =>
      obtain ⟨J', h⟩ := r50e_0 (callee := callee) (cx := cx) (lf := lf) J s.boxes s.toks s.maps c.G c.C c.E c.K N j Ne n 0 e.code e.grp e.val e.cls e.low [] [] 0 [] [] hI.cat.1 hI.el e0
      have h' := (iter_end (body := fun e s => runC callee lf cx Q50 e s) (l := l) h (by simp)).trans (congrArg (fun x => some (Ex.exit 2, x, s)) ((env_drop 45 [(1, .ptr N 0), (3, .d (.int .i64 ((j : Nat) : Int))), (4, .ptr Ne 0)] 5 _ J').trans (env_drop 45 [(1, .ptr N 0), (3, .d (.int .i64 ((j : Nat) : Int)))] 4 _ _)))
      exact ⟨_, s, .inr ⟨by simp only [fallB, e0, Bool.not_false, Bool.true_or], h', hI.cat⟩⟩
    | true =>
      have hi := hlow e he (by simpa using e0)
      obtain ⟨u1, u2⟩ := under_mem hi
      have h20' : ∀ s, callee 20 [.agg c.cells, .d (.str e.low)] cx s = some (.ret (.d (.int .i64 (((rIdx e.low c.E).toNat : Nat) : Int))), s) := fun s => by rw [← (rIdx_lt hi).2]; exact h20 s e.low
      cases e1 : decide ((c.under e).val > e.val) with
      | true =>
        obtain ⟨J', h⟩ := r50e_1 (callee := callee) (cx := cx) (lf := lf) J s.boxes s.toks s.maps c.G c.C c.E c.K N j Ne n (rIdx e.low c.E).toNat e.code e.grp e.val e.cls e.low _ _ _ _ _ hI.cat.1 hI.cat.2 hI.el h20' u2 rfl e0 e1
        exact ⟨J', _, .inl ⟨by simp only [fallB, e0, e1, Bool.not_true, Bool.false_or, Bool.false_and], iter_end (body := fun e s => runC callee lf cx Q50 e s) (l := l) h (by simp)⟩⟩
      | false =>
        obtain ⟨J', h⟩ := r50e_3 (callee := callee) (cx := cx) (lf := lf) J s.boxes s.toks s.maps c.G c.C c.E c.K N j Ne n (rIdx e.low c.E).toNat e.code e.grp e.val e.cls e.low _ _ _ _ _ hI.cat.1 hI.cat.2 hI.el hI.own h20' u2 rfl e0 e1 (decide_eq_false (by omega))
        rw [wrapN (by omega)] at h
        rw [iter_next (body := fun e s => runC callee lf cx Q50 e s) (l := l) h]
        obtain ⟨J2, s2, h2⟩ := ih l (n + 1) (c.under e) J' _ (by omega) (by omega) u1 (fi_next (c.under e) [.d (.str []), .d (.str []), .d (.int .i64 0), .d (.str []), .d (.str [])] hI)
        refine ⟨J2, s2, ?_⟩
        simp only [fallB, e0, e1, Bool.not_true, Bool.not_false, Bool.false_or, Bool.true_and]
        exact h2
def b50 (c : Cat) : Bool := (List.range c.E.length).all (fun j => fallB c (c.E.length + 1) (c.es.getD j dfE)) && true
theorem e50 (c : Cat) (s : St) (hb : cx.b ≤ s.boxes.length) (hs : c.E.length < 1000000) (hlf : c.E.length + 1 < lf) (hlow : c.lowsOk)
    (h20 : ∀ (s : St) (x : List Nat), callee 20 [.agg c.cells, .d (.str x)] cx s = some (.ret (.d (.int .i64 (rIdx x c.E))), s)) :
    ∃ J' s', runC callee lf cx pf50.body (envOf 45 [(0, .agg c.cells)] (fun _ => undefA)) s = some (.ret, envOf 45 [(2, .d (.bool (b50 c)))] J', s') := by
  obtain ⟨J1, h1⟩ := r50a_0 (callee := callee) (cx := cx) (lf := lf) (fun _ => undefA) s.boxes s.toks s.maps c.G c.C c.E c.K rfl
  have I1 : CatI c cx.b s.boxes.length ⟨pushB s.boxes c.cells, s.toks, s.maps⟩ := catI_new hb
  have sh : cO (cB (cR (cL (cR pf50.body)))) = .seq (cL (cO (cB (cR (cL (cR pf50.body)))))) (.seq (.block 1 (.seq (cL (cB (cL (cR (cO (cB (cR (cL (cR pf50.body))))))))) (.seq (cL (cR (cB (cL (cR (cO (cB (cR (cL (cR pf50.body)))))))))) (.block 2 (.loop Q50))))) (cR (cR (cO (cB (cR (cL (cR pf50.body)))))))) := rfl
  have L : Scan callee cx lf (.block 0 (.loop (cO (cB (cR (cL (cR pf50.body))))))) 45 [(1, .ptr s.boxes.length 0), (3, .d (.int .i64 0))] 2 [(1, .ptr s.boxes.length 0)] (CatI c cx.b s.boxes.length) ((List.range c.E.length).all (fun j => fallB c (c.E.length + 1) (c.es.getD j dfE))) := by
    refine Scan.rounds [(1, .ptr s.boxes.length 0)] 3 (fun k => .d (.int .i64 ((k : Nat) : Int))) (fun j => fallB c (c.E.length + 1) (c.es.getD j dfE)) (by omega) ?_ ?_
    · intro k J s2 hk hI
      obtain ⟨x, hx, hx1, hx2⟩ := c.getE hk
      have hx3 : c.es.getD k dfE = x := by rw [List.getD_eq_getElem?_getD, hx]; rfl
      rw [sh]
      obtain ⟨J2, h2⟩ := r50t_0 (callee := callee) (cx := cx) (lf := lf) J s2.boxes s2.toks s2.maps c.G c.C c.E c.K s.boxes.length k hI.1 (lt_dec hk)
      obtain ⟨J3, h3⟩ := r50c_0 (callee := callee) (cx := cx) (lf := lf) J2 s2.boxes s2.toks s2.maps c.G c.C c.E c.K s.boxes.length k x.code x.grp x.val x.cls x.low hI.1 hI.2 hx1 rfl
      obtain ⟨J4, h4⟩ := r50d_0 (callee := callee) (cx := cx) (lf := lf) J3 (setB (appN s2.boxes [[.d (.str []), .d (.str []), .d (.int .i64 0), .d (.str []), .d (.str [])]]) (s2.boxes.length + 0) (elmCells x)) s2.toks s2.maps c.G c.C c.E c.K s.boxes.length k (s2.boxes.length + 0)
      have hF : FI c cx.b s.boxes.length (s2.boxes.length + 0) x ⟨setB (appN s2.boxes [[.d (.str []), .d (.str []), .d (.int .i64 0), .d (.str []), .d (.str [])]]) (s2.boxes.length + 0) (elmCells x), s2.toks, s2.maps⟩ :=
        ⟨catI_cp hI, bxA_set (bxA_app0 rfl), by have := hI.2; omega, by have := bxA_lt hI.1; omega⟩
      obtain ⟨J5, s5, h5⟩ := fall_iter (lf := lf) c s.boxes.length (s2.boxes.length + 0) k hs hlow h20 (c.E.length + 1) lf 0 x J4 _ hlf (by omega) (List.mem_of_getElem? hx) hF
      rcases h5 with ⟨hb5, h5⟩ | ⟨hb5, h5, I5⟩
      · refine ⟨J5, s5, .inl ⟨by rw [hx3]; exact hb5, run_seq h2 (run_stop (run_block_ret (run_seq h3 (run_seq h4 (run_block_ret ?_)))) (by simp))⟩⟩
        simp only [runC]; exact h5
      · obtain ⟨J6, h6⟩ := r50f_0 (callee := callee) (cx := cx) (lf := lf) J5 s5.boxes s5.toks s5.maps c.G c.C c.E c.K s.boxes.length k
        rw [wrapN (by omega)] at h6
        have hblk : runC callee lf cx (.block 2 (.loop Q50)) (envOf 45 [(1, .ptr s.boxes.length 0), (3, .d (.int .i64 ((k : Nat) : Int))), (4, .ptr (s2.boxes.length + 0) 0), (5, .d (.int .i64 0))] J4) ⟨setB (appN s2.boxes [[.d (.str []), .d (.str []), .d (.int .i64 0), .d (.str []), .d (.str [])]]) (s2.boxes.length + 0) (elmCells x), s2.toks, s2.maps⟩ = some (.normal, envOf 45 [(1, .ptr s.boxes.length 0), (3, .d (.int .i64 ((k : Nat) : Int)))] J5, s5) := by
          have h5' : runC callee lf cx (.loop Q50) (envOf 45 [(1, .ptr s.boxes.length 0), (3, .d (.int .i64 ((k : Nat) : Int))), (4, .ptr (s2.boxes.length + 0) 0), (5, .d (.int .i64 0))] J4) ⟨setB (appN s2.boxes [[.d (.str []), .d (.str []), .d (.int .i64 0), .d (.str []), .d (.str [])]]) (s2.boxes.length + 0) (elmCells x), s2.toks, s2.maps⟩ = some (.exit 2, envOf 45 [(1, .ptr s.boxes.length 0), (3, .d (.int .i64 ((k : Nat) : Int)))] J5, s5) := h5
          rw [runC, h5']; rfl
        exact ⟨J6, s5, .inr ⟨by rw [hx3]; exact hb5, run_seq h2 (run_seq (run_block (run_seq h3 (run_seq h4 hblk))) h6), I5⟩⟩
    · intro J s2 hI
      obtain ⟨J2, h2⟩ := r50t_1 (callee := callee) (cx := cx) (lf := lf) J s2.boxes s2.toks s2.maps c.G c.C c.E c.K s.boxes.length c.E.length hI.1 (not_lt_dec (by omega))
      rw [sh]
      exact ⟨J2, s2, run_stop h2 (by simp), hI⟩
  obtain ⟨J3, s3, h3⟩ := Scan.ends (Plain.scan (plain_of fun J D T M => r50bi_0 J D T M c.G c.C c.E c.K _) L) (ends_of fun J D T M => r50g_0 J D T M c.G c.C c.E c.K s.boxes.length) J1 _ I1
  exact ⟨J3, s3, by rw [show pf50.body = .seq (cL pf50.body) (.seq (.seq (cL (cL (cR pf50.body))) (.block 0 (.loop (cO (cB (cR (cL (cR pf50.body)))))))) (cR (cR pf50.body))) from rfl]; exact run_seq h1 h3⟩
end
end Go.Rf

namespace Go.Rf
set_option maxRecDepth 100000
set_option linter.unusedVariables false
set_option linter.unusedSimpArgs false
noncomputable abbrev KK (n : Nat) : Callee := run giv5 tbl3 n
theorem k143 (n : Nat) (cx : Cx) (s : St) (c a b : Nat) : KK (n + 1) 143 [.d (.int .u8 ((c : Nat) : Int)), .d (.int .u8 ((a : Nat) : Int)), .d (.int .u8 ((b : Nat) : Int))] cx s = some (.ret (.d (.bool (inR c a b))), s) :=
  quiet_run (pf := pf143) (N := 15) (r := 6) rfl rfl rfl (Nat.le_of_ble_eq_true rfl) rfl rfl (by decide) fun t m => e143 c a b s
theorem k144 (n : Nat) (cx : Cx) (s : St) (c : Nat) : KK (n + 2) 144 [.d (.int .u8 ((c : Nat) : Int))] cx s = some (.ret (.d (.bool (digB c))), s) :=
  quiet_run (pf := pf144) (N := 5) (r := 2) rfl rfl rfl (Nat.le_of_ble_eq_true rfl) rfl rfl (by decide) fun t m => e144 c s fun s x => k143 n _ s x 48 57
theorem k99 (n : Nat) (hn : 50 ≤ n) (cx : Cx) (s : St) (x : List Nat) : KK (n + 3) 99 [.d (.str x)] cx s = some (.ret (.d (.bool (nameB x))), s) :=
  quiet_run (pf := pf99) (N := 42) (r := 2) rfl rfl rfl (Nat.le_of_ble_eq_true rfl) rfl rfl (by decide) fun t m => e99 x s (.inr trivial) (by omega) (fun s x => k143 (n + 1) _ s x 97 122) (fun s x => k144 n _ s x)
theorem k100 (n : Nat) (hn : 50 ≤ n) (cx : Cx) (s : St) (x : List Nat) : KK (n + 3) 100 [.d (.str x)] cx s = some (.ret (.d (.bool (codeB x))), s) :=
  quiet_run (pf := pf100) (N := 44) (r := 2) rfl rfl rfl (Nat.le_of_ble_eq_true rfl) rfl rfl (by decide) fun t m => e100 x s (by omega) (fun s x => k143 (n + 1) _ s x 97 122) (fun s x => k143 (n + 1) _ s x 65 90) (fun s x => k144 n _ s x)
structure Sm (c : Cat) : Prop where
  g : c.G.length ≤ 12
  k : c.C.length ≤ 16
  e : c.E.length ≤ 40
  n : c.K.length ≤ 40
theorem k20 (n : Nat) (hn : 50 ≤ n) (c : Cat) (hc : c.E.length ≤ 40) (cx : Cx) (s : St) (x : List Nat) : KK (n + 1) 20 [.agg c.cells, .d (.str x)] cx s = some (.ret (.d (.int .i64 (rIdx x c.E))), s) :=
  quiet_run (pf := pf20) (N := 22) (r := 4) rfl rfl rfl (Nat.le_of_ble_eq_true rfl) rfl rfl (by decide) fun t m => e20 c x s (Nat.le_refl _) (by omega) (by omega)
theorem k101 (n : Nat) (hn : 50 ≤ n) (c : Cat) (hc : c.G.length ≤ 12) (cx : Cx) (s : St) (x : List Nat) : KK (n + 1) 101 [.agg c.cells, .d (.str x)] cx s = some (.ret (.d (.int .i64 (rIdx x c.G))), s) :=
  quiet_run (pf := pf101) (N := 22) (r := 4) rfl rfl rfl (Nat.le_of_ble_eq_true rfl) rfl rfl (by decide) fun t m => e101 c x s (Nat.le_refl _) (by omega) (by omega)
theorem k102 (n : Nat) (hn : 50 ≤ n) (C : List (List Nat)) (hc : (C.map strRow).length ≤ 40) (cx : Cx) (s : St) (x : List Nat) : KK (n + 1) 102 [.d (.sl (C.map strRow)), .d (.str x)] cx s = some (.ret (.d (.bool (rHas x (C.map strRow)))), s) :=
  quiet_run (pf := pf102) (N := 18) (r := 4) rfl rfl rfl (Nat.le_of_ble_eq_true rfl) rfl rfl (by decide) fun t m => e102 C x s (by omega) (by omega)
theorem k104 (n : Nat) (hn : 50 ≤ n) (C : List (List Nat)) (hc : (C.map strRow).length ≤ 40) (cx : Cx) (s : St) : KK (n + 1) 104 [.d (.sl (C.map strRow))] cx s = some (.ret (.d (.bool (upR (C.map strRow) && true))), s) :=
  quiet_run (pf := pf104) (N := 20) (r := 2) rfl rfl rfl (Nat.le_of_ble_eq_true rfl) rfl rfl (by decide) fun t m => e104 C s (by omega) (by omega)
theorem k26 (n : Nat) (hn : 50 ≤ n) (C E : List (List Nat)) (hc : (C.map strRow).length ≤ 40) (cx : Cx) (s : St) : KK (n + 1) 26 [.d (.sl (C.map strRow)), .d (.sl (E.map strRow))] cx s = some (.ret (.d (.bool (sameR C E))), s) :=
  quiet_run (pf := pf26) (N := 26) (r := 4) rfl rfl rfl (Nat.le_of_ble_eq_true rfl) rfl rfl (by decide) fun t m => e26 C E s (by omega) (by omega)
theorem k103 (n : Nat) (cx : Cx) (s : St) (f0 s0 : List Nat) (v0 : Int) (f1 s1 : List Nat) (v1 : Int) : KK (n + 1) 103 [.agg [.d (.str f0), .d (.str s0), .d (.int .i64 v0)], .agg [.d (.str f1), .d (.str s1), .d (.int .i64 v1)]] cx s = some (.ret (.d (.bool (befB f0 s0 f1 s1))), s) :=
  quiet_run (pf := pf103) (N := 24) (r := 4) rfl rfl rfl (Nat.le_of_ble_eq_true rfl) rfl rfl (by decide) fun t m => e103 f0 s0 v0 f1 s1 v1 s
theorem k13 (n : Nat) (c : Cat) (cx : Cx) (s : St) : KK (n + 1) 13 [.agg c.cells] cx s = some (.ret (.d (.bool (smallB c))), s) :=
  quiet_run (pf := pf13) (N := 25) (r := 2) rfl rfl rfl (Nat.le_of_ble_eq_true rfl) rfl rfl (by decide) fun t m => e13 c s
theorem k47 (n : Nat) (hn : 50 ≤ n) (c : Cat) (hc : Sm c) (cx : Cx) (s : St) : KK (n + 4) 47 [.agg c.cells] cx s = some (.ret (.d (.bool (b47 c))), s) :=
  quiet_run (pf := pf47) (N := 114) (r := 2) rfl rfl rfl (Nat.le_of_ble_eq_true rfl) rfl rfl (by decide) fun t m => e47 c s (Nat.le_refl _) (by have := hc.k; omega) (by have := hc.k; omega) (by have := hc.e; omega) (by have := hc.e; omega) (by have := hc.g; omega) (by have := hc.g; omega) (by have := hc.n; omega) (by have := hc.n; omega)
    (fun s x => k99 n hn _ s x) (fun s x => k100 n hn _ s x) (fun s x => k101 (n + 2) (by omega) c hc.g _ s x) (fun s x => k20 (n + 2) (by omega) c hc.e _ s x) (fun s x => k102 (n + 2) (by omega) c.cs (by have := hc.k; exact Nat.le_trans this (by decide)) _ s x)
def b48 (c : Cat) : Bool := upR c.G && (upR c.E && (upK c.K && (upR c.C && true)))
theorem k48 (n : Nat) (hn : 50 ≤ n) (c : Cat) (hc : Sm c) (cx : Cx) (s : St) : KK (n + 2) 48 [.agg c.cells] cx s = some (.ret (.d (.bool (b48 c))), s) :=
  quiet_run (pf := pf48) (N := 71) (r := 2) rfl rfl rfl (Nat.le_of_ble_eq_true rfl) rfl rfl (by decide) fun t m => e48 c s _ rfl (by have := hc.g; omega) (by have := hc.e; omega) (by have := hc.n; omega) (by have := hc.g; omega) (by have := hc.e; omega) (by have := hc.n; omega)
    (fun s a b v x y w => k103 n _ s a b v x y w) (fun s => k104 n hn c.cs (by have := hc.k; exact Nat.le_trans this (by decide)) _ s)
theorem k49 (n : Nat) (hn : 50 ≤ n) (c : Cat) (hc : Sm c) (cx : Cx) (s : St) : KK (n + 1) 49 [.agg c.cells] cx s = some (.ret (.d (.bool (b49 c))), s) :=
  quiet_run (pf := pf49) (N := 83) (r := 2) rfl rfl rfl (Nat.le_of_ble_eq_true rfl) rfl rfl (by decide) fun t m => e49 c s (Nat.le_refl _) (by have := hc.e; omega) (by have := hc.e; omega) (by have := hc.g; omega) (by have := hc.g; omega) (by have := hc.n; omega) (by have := hc.n; omega)
theorem k50 (n : Nat) (hn : 50 ≤ n) (c : Cat) (hc : Sm c) (hl : c.lowsOk) (cx : Cx) (s : St) : KK (n + 2) 50 [.agg c.cells] cx s = some (.ret (.d (.bool (b50 c))), s) :=
  quiet_run (pf := pf50) (N := 45) (r := 2) rfl rfl rfl (Nat.le_of_ble_eq_true rfl) rfl rfl (by decide) fun t m => e50 c s (Nat.le_refl _) (by have := hc.e; omega) (by have := hc.e; omega) hl (fun s x => k20 n hn c hc.e _ s x)
theorem lows_of {c : Cat} (h : b47 c = true) : c.lowsOk := by
  intro e he hlow
  simp only [b47, Bool.and_eq_true] at h
  obtain ⟨k, hk, rfl⟩ := List.getElem_of_mem he
  have := all_range.1 h.2.2.1 k (by simpa using hk)
  obtain ⟨x, hx, hx1, hx2⟩ := c.getE (k := k) (by simpa using hk)
  have hx3 : c.es[k] = x := by rw [List.getElem?_eq_getElem hk] at hx; exact Option.some.inj hx
  rw [hx3] at hlow ⊢
  rw [hx2] at this
  simp only [refOk, Elm.row, hlow, Bool.not_false, Bool.not_true, Bool.false_or, Bool.and_eq_true, Bool.not_eq_true'] at this
  have := of_decide_eq_false this.2
  omega
def chkR (c : Cat) : Int := chkI c (b47 c) (b48 c) (b49 c) (b50 c)
theorem k15 (n : Nat) (hn : 50 ≤ n) (c : Cat) (hc : Sm c) (cx : Cx) (s : St) : KK (n + 5) 15 [.agg c.cells] cx s = some (.ret (.d (.int .i64 (chkR c))), s) :=
  quiet_run (pf := pf15) (N := 37) (r := 2) rfl rfl rfl (Nat.le_of_ble_eq_true rfl) rfl rfl (by decide) fun t m => e15 c _ _ _ _ (fun s => k47 n hn c hc _ s) (fun s => k48 (n + 2) (by omega) c hc _ s) (fun s => k49 (n + 3) (by omega) c hc _ s) (fun h s => k50 (n + 2) (by omega) c hc (lows_of h) _ s) s
end Go.Rf
