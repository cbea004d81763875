/- Runs over symbolic states; environments by their known places; loops. -/
import Derived.Test.YtojhechepdlnhaaGreatDoorMc
import Derived.Laws.BitsLemmas
namespace Go.Rf
set_option linter.unusedVariables false
set_option linter.unusedSimpArgs false

inductive Hint where
  | b (x : Bool)
  | r (x : List D)
  | c (x : List AV)
  | v (x : AV)
  | n (x : Nat)
  | l (x : AV)
  | w (x : List AV)
  | i (x : Nat)
  | u (x y : List AV)

abbrev PLog := List Prop
def POk (l : PLog) : Prop := ∀ p, p ∈ l → p
theorem POk.tail {p : Prop} {l : PLog} (h : POk (p :: l)) : POk l := fun q hq => h q (List.mem_cons_of_mem _ hq)
theorem POk.head {p : Prop} {l : PLog} (h : POk (p :: l)) : p := h p (List.mem_cons_self ..)
theorem POk.nil : POk [] := fun p h => by simp at h
theorem POk.cons {p : Prop} {l : PLog} (h : p) (t : POk l) : POk (p :: l) := fun q hq => by
  rcases List.mem_cons.1 hq with rfl | hq
  · exact h
  · exact t q hq

abbrev KR := Option (Out × St × List Hint × PLog)
def kVal (v : AV) (st : St) (hs : List Hint) (log : PLog) : KR := match v with
  | .d (.bool e) => (match hs with
    | .b b :: hs => some (.ret (.d (.bool b)), st, hs, (e = b) :: log)
    | _ => none)
  | v => some (.ret v, st, hs, log)
def kQuo (rem : Bool) (x y : AV) (st : St) (hs : List Hint) (log : PLog) : KR := match x, y with
  | .d (.int k a), .d (.int k' b) => if k = k' then some (.ret (.d (.int k (if rem then a.tmod b else k.wrap (a.tdiv b)))), st, hs, (b ≠ 0) :: log) else none
  | _, _ => none
def kLoad (ag : Bool) (n b o : Nat) (st : St) (hs : List Hint) (log : PLog) : KR := match hs with
  | .c cs :: hs => if ag then (if o + n ≤ cs.length then some (.ret (.agg ((cs.drop o).take n)), st, hs, (st.boxes[b]? = some cs) :: log) else none)
      else (match cs[o]? with
        | some v => some (.ret v, st, hs, (st.boxes[b]? = some cs) :: log)
        | none => none)
  | _ => none
def kStore (cx : Cx) (n b o : Nat) (v : AV) (st : St) (hs : List Hint) (log : PLog) : KR := match hs with
  | .c cs :: hs => if v.cells.length = n ∧ o + n ≤ cs.length ∧ v.cells.all AV.isOne = true then
      some (.ret undefA, { st with boxes := st.boxes.set b (cs.take o ++ v.cells ++ cs.drop (o + n)) }, hs, (st.boxes[b]? = some cs ∧ cx.b ≤ b ∧ underL b v.cells = true) :: log) else none
  | _ => none
def kIdx (esz : Nat) (rows : List (List D)) (n : Int) (st : St) (hs : List Hint) (log : PLog) : KR := match hs with
  | .r r :: hs => if r.length = esz then some (.ret (.cptr r), st, hs, (0 ≤ n ∧ rows[n.toNat]? = some r) :: log) else none
  | _ => none
def kApp (cx : Cx) (tb j esz bytes : Nat) (s : AV) (news : List (List D)) (st : St) (hs : List Hint) (log : PLog) : KR := match s with
  | .nilS => some (.ret (.own (tb + j) news), { st with toks := st.toks.set (tb + j) (news.length, esz) }, hs, ((news.all fun r => r.length = esz) = true ∧ news.length * bytes ≤ maxBytes ∧ news.isEmpty = false) :: log)
  | .own t rows => some (.ret (.own t (rows ++ news)), { st with toks := st.toks.set t (rows.length + news.length, esz) }, hs, ((news.all fun r => r.length = esz) = true ∧ st.toks[t]? = some (rows.length, esz) ∧ cx.t ≤ t ∧ (rows.length + news.length) * bytes ≤ maxBytes) :: log)
  | _ => none
def kBound (env : Env) (top : Nat) : Option PO → Nat → Option (Nat × Prop)
  | none, d => some (d, True)
  | some x, _ => match x.ev env with
    | .d (.int _ n) => some (n.toNat, 0 ≤ n ∧ n ≤ top)
    | _ => none
def kSl (esz : Nat) (env : Env) (rows : List (List D)) (lo hi : Option PO) (st : St) (hs : List Hint) (log : PLog) : KR := match kBound env rows.length hi rows.length with
  | some (h, p) => (match kBound env h lo 0 with
    | some (l, q) => some (.ret (.d (.sl ((rows.take h).drop l))), st, hs, (headLen esz rows = true ∧ p ∧ q) :: log)
    | none => none)
  | none => none

def kStep (callee : Callee) (cx : Cx) (bb tb : Nat) (env : Env) (st : St) (hs : List Hint) (log : PLog) (pi : PI) : KR := match pi with
  | .bin op x y => (match op with
    | .quo => kQuo false (x.ev env) (y.ev env) st hs log
    | .rem => kQuo true (x.ev env) (y.ev env) st hs log
    | op => (match exec cx bb tb env st (.bin op x y) with
      | some (.val v st') => kVal v st' hs log
      | _ => none))
  | .eqS ks neg x y => (match exec cx bb tb env st (.eqS ks neg x y) with
      | some (.val v st') => kVal v st' hs log
      | _ => none)
  | .call f args => (match hs with
    | .v v :: hs => some (.ret v, st, hs, (callee f (args.map (·.ev env)) cx st = some (.ret v, st)) :: log)
    | _ => none)
  | .load ag n x => (match x.ev env with
    | .ptr b o => kLoad ag n b o st hs log
    | _ => (match exec cx bb tb env st (.load ag n x) with
      | some (.val v st') => some (.ret v, st', hs, log)
      | _ => none))
  | .store n a v => (match a.ev env with
    | .ptr b o => kStore cx n b o (v.ev env) st hs log
    | _ => none)
  | .idxA esz x i => (match i.ev env with
    | .d (.int _ n) => (match x.ev env with
      | .bsl _ _ _ => none
      | v => (match v.rows with
        | some rows => kIdx esz rows n st hs log
        | none => none))
    | _ => none)
  | .app j esz bytes s x => (match (x.ev env).rows with
    | some news => kApp cx tb j esz bytes (s.ev env) news st hs log
    | none => none)
  | .slSl esz x lo hi => (match (x.ev env).rows with
    | some rows => kSl esz env rows lo hi st hs log
    | none => none)
  | pi => (match exec cx bb tb env st pi with
    | some (.val v st') => some (.ret v, st', hs, log)
    | _ => none)

variable {callee : Callee} {cx : Cx} {bb tb : Nat} {env : Env} {st st' : St} {hs hs' : List Hint} {log log' : PLog} {o : Out}

theorem kVal_ok {v : AV} (h : kVal v st hs log = some (o, st', hs', log')) : POk log' → POk log ∧ o = .ret v ∧ st' = st := by
  unfold kVal at h
  split at h
  · split at h
    · simp only [Option.some.injEq, Prod.mk.injEq] at h
      obtain ⟨rfl, rfl, rfl, rfl⟩ := h
      exact fun hl => ⟨hl.tail, by rw [hl.head], rfl⟩
    · exact absurd h (by simp)
  · simp only [Option.some.injEq, Prod.mk.injEq] at h
    obtain ⟨rfl, rfl, rfl, rfl⟩ := h
    exact fun hl => ⟨hl, rfl, rfl⟩
theorem kQuo_ok {rem : Bool} {x y : PO} (h : kQuo rem (x.ev env) (y.ev env) st hs log = some (o, st', hs', log')) :
    POk log' → POk log ∧ stepOp callee cx bb tb env st (.bin (if rem then .rem else .quo) x y) = some (o, st') := by
  unfold kQuo at h
  split at h
  · rename_i k a k' b hx hy
    split at h
    · rename_i hk
      simp only [Option.some.injEq, Prod.mk.injEq] at h
      obtain ⟨rfl, rfl, rfl, rfl⟩ := h
      refine fun hl => ⟨hl.tail, ?_⟩
      have hb : b ≠ 0 := hl.head
      cases rem with
      | true => simp only [if_true, stepOp, exec, x_bin, hx, hy, binD, if_pos hk, if_neg hb, Option.map_some]
      | false => simp only [Bool.false_eq_true, if_false, stepOp, exec, x_bin, hx, hy, binD, if_pos hk, if_neg hb, Option.map_some]
    · exact absurd h (by simp)
  · exact absurd h (by simp)
theorem kLoad_ok {ag : Bool} {n b off : Nat} {x : PO} (hx : x.ev env = .ptr b off) (h : kLoad ag n b off st hs log = some (o, st', hs', log')) :
    POk log' → POk log ∧ stepOp callee cx bb tb env st (.load ag n x) = some (o, st') := by
  unfold kLoad at h
  split at h
  · rename_i cs hs1
    split at h
    · rename_i hag
      split at h
      · rename_i hle
        simp only [Option.some.injEq, Prod.mk.injEq] at h
        obtain ⟨rfl, rfl, rfl, rfl⟩ := h
        refine fun hl => ⟨hl.tail, ?_⟩
        simp only [stepOp, exec, x_load, hx, hl.head, hag, if_true, if_pos hle]
      · exact absurd h (by simp)
    · rename_i hag
      split at h
      · rename_i v hv
        simp only [Option.some.injEq, Prod.mk.injEq] at h
        obtain ⟨rfl, rfl, rfl, rfl⟩ := h
        refine fun hl => ⟨hl.tail, ?_⟩
        simp only [stepOp, exec, x_load, hx, hl.head, if_neg hag, hv, Option.map_some]
      · exact absurd h (by simp)
  · exact absurd h (by simp)
theorem kStore_ok {n b off : Nat} {a v : PO} (ha : a.ev env = .ptr b off) (h : kStore cx n b off (v.ev env) st hs log = some (o, st', hs', log')) :
    POk log' → POk log ∧ stepOp callee cx bb tb env st (.store n a v) = some (o, st') := by
  unfold kStore at h
  split at h
  · rename_i cs hs1
    split at h
    · rename_i hc
      simp only [Option.some.injEq, Prod.mk.injEq] at h
      obtain ⟨rfl, rfl, rfl, rfl⟩ := h
      refine fun hl => ⟨hl.tail, ?_⟩
      obtain ⟨q1, q2, q3⟩ := hl.head
      simp only [stepOp, exec, x_store, ha, q1]
      rw [if_pos ⟨hc.1, hc.2.1, q2, hc.2.2, q3⟩]
    · exact absurd h (by simp)
  · exact absurd h (by simp)
theorem kIdx_ok {esz : Nat} {x i : PO} {k : IntKind} {n : Int} {rows : List (List D)} (hi : i.ev env = .d (.int k n)) (hb : ∀ b m f, x.ev env ≠ .bsl b m f) (hr : (x.ev env).rows = some rows) (h : kIdx esz rows n st hs log = some (o, st', hs', log')) :
    POk log' → POk log ∧ stepOp callee cx bb tb env st (.idxA esz x i) = some (o, st') := by
  unfold kIdx at h
  split at h
  · rename_i r hs1
    split at h
    · rename_i hc
      simp only [Option.some.injEq, Prod.mk.injEq] at h
      obtain ⟨rfl, rfl, rfl, rfl⟩ := h
      refine fun hl => ⟨hl.tail, ?_⟩
      obtain ⟨q1, q2⟩ := hl.head
      have : exec cx bb tb env st (.idxA esz x i) = some (.val (.cptr r) st) := by
        simp only [exec, x_idxA, hi, if_pos q1]
        generalize hx : x.ev env = v at *
        cases v with
        | bsl b m f => exact absurd rfl (hb b m f)
        | _ => simp only [hr, q2, if_pos hc]
      simp only [stepOp, this]
    · exact absurd h (by simp)
  · exact absurd h (by simp)
theorem kApp_ok {j esz bytes : Nat} {s x : PO} {news : List (List D)} (hx : (x.ev env).rows = some news) (h : kApp cx tb j esz bytes (s.ev env) news st hs log = some (o, st', hs', log')) :
    POk log' → POk log ∧ stepOp callee cx bb tb env st (.app j esz bytes s x) = some (o, st') := by
  unfold kApp at h
  split at h
  · rename_i hs1
    simp only [Option.some.injEq, Prod.mk.injEq] at h
    obtain ⟨rfl, rfl, rfl, rfl⟩ := h
    refine fun hl => ⟨hl.tail, ?_⟩
    obtain ⟨q1, q2, q3⟩ := hl.head
    simp only [stepOp, exec, x_app, hx, q1, not_true_eq_false, if_false, hs1, if_pos q2, q3, Bool.false_eq_true]
  · rename_i t rows hs1
    simp only [Option.some.injEq, Prod.mk.injEq] at h
    obtain ⟨rfl, rfl, rfl, rfl⟩ := h
    refine fun hl => ⟨hl.tail, ?_⟩
    obtain ⟨q1, q2, q3, q4⟩ := hl.head
    simp only [stepOp, exec, x_app, hx, q1, not_true_eq_false, if_false, hs1, q2, true_and]
    rw [if_pos ⟨q3, q4⟩]
  · exact absurd h (by simp)
theorem kBound_ok {top d l : Nat} {x : Option PO} {p : Prop} (h : kBound env top x d = some (l, p)) (hp : p) : bound env top x d = some l := by
  unfold kBound at h
  split at h
  · simp only [Option.some.injEq, Prod.mk.injEq] at h
    obtain ⟨rfl, rfl⟩ := h
    rfl
  · split at h
    · rename_i x k n hx
      simp only [Option.some.injEq, Prod.mk.injEq] at h
      obtain ⟨rfl, rfl⟩ := h
      simp only [bound, hx, if_pos hp]
    · exact absurd h (by simp)
theorem kSl_ok {esz : Nat} {x : PO} {rows : List (List D)} {lo hi : Option PO} (hx : (x.ev env).rows = some rows) (h : kSl esz env rows lo hi st hs log = some (o, st', hs', log')) :
    POk log' → POk log ∧ stepOp callee cx bb tb env st (.slSl esz x lo hi) = some (o, st') := by
  unfold kSl at h
  split at h
  · rename_i hh p h1
    split at h
    · rename_i l q h2
      simp only [Option.some.injEq, Prod.mk.injEq] at h
      obtain ⟨rfl, rfl, rfl, rfl⟩ := h
      refine fun hl => ⟨hl.tail, ?_⟩
      obtain ⟨q1, q2, q3⟩ := hl.head
      simp only [stepOp, exec, x_slSl, hx, q1, if_true, kBound_ok h1 q2, kBound_ok h2 q3]
    · exact absurd h (by simp)
  · exact absurd h (by simp)
theorem kStep_ok {pi : PI} (h : kStep callee cx bb tb env st hs log pi = some (o, st', hs', log')) :
    POk log' → POk log ∧ stepOp callee cx bb tb env st pi = some (o, st') := by
  have gen : ∀ {pi : PI}, (match exec cx bb tb env st pi with | some (.val v st1) => kVal v st1 hs log | _ => none) = some (o, st', hs', log') → POk log' → POk log ∧ stepOp callee cx bb tb env st pi = some (o, st') := by
    intro pi h
    split at h
    · rename_i v st1 he
      have := kVal_ok h
      exact fun hl => by obtain ⟨q, rfl, rfl⟩ := this hl; exact ⟨q, by simp only [stepOp, he]⟩
    · exact absurd h (by simp)
  have gen2 : ∀ {pi : PI}, (match exec cx bb tb env st pi with | some (.val v st1) => some (Out.ret v, st1, hs, log) | _ => none) = some (o, st', hs', log') → POk log' → POk log ∧ stepOp callee cx bb tb env st pi = some (o, st') := by
    intro pi h
    split at h
    · rename_i v st1 he
      simp only [Option.some.injEq, Prod.mk.injEq] at h
      obtain ⟨rfl, rfl, rfl, rfl⟩ := h
      exact fun hl => ⟨hl, by simp only [stepOp, he]⟩
    · exact absurd h (by simp)
  cases pi with
  | bin op x y =>
    cases op with
    | quo => exact kQuo_ok (rem := false) h
    | rem => exact kQuo_ok (rem := true) h
    | _ => exact gen h
  | eqS ks neg x y => exact gen h
  | call f args =>
    simp only [kStep] at h
    split at h
    · rename_i v hs1
      simp only [Option.some.injEq, Prod.mk.injEq] at h
      obtain ⟨rfl, rfl, rfl, rfl⟩ := h
      exact fun hl => ⟨hl.tail, by simp only [stepOp, exec, x_call, hl.head]⟩
    · exact absurd h (by simp)
  | load ag n x =>
    simp only [kStep] at h
    split at h
    · rename_i b off hx; exact kLoad_ok hx h
    · exact gen2 h
  | store n a v =>
    simp only [kStep] at h
    split at h
    · rename_i b off hx; exact kStore_ok hx h
    · exact absurd h (by simp)
  | idxA esz x i =>
    simp only [kStep] at h
    split at h
    · rename_i k n hi
      split at h
      · exact absurd h (by simp)
      · rename_i hb
        split at h
        · rename_i rows hr; exact kIdx_ok hi hb hr h
        · exact absurd h (by simp)
    · exact absurd h (by simp)
  | app j esz bytes s x =>
    simp only [kStep] at h
    split at h
    · rename_i news hx; exact kApp_ok hx h
    · exact absurd h (by simp)
  | slSl esz x lo hi =>
    simp only [kStep] at h
    split at h
    · rename_i rows hx; exact kSl_ok hx h
    · exact absurd h (by simp)
  | _ => exact gen2 h

def kOps (callee : Callee) (cx : Cx) (bb tb : Nat) : List POp → Env → St → List Hint → PLog → Option (Env × St × List Hint × PLog)
  | [], env, st, hs, log => some (env, st, hs, log)
  | o :: rest, env, st, hs, log =>
    if wanted env o.guard then
      match kStep callee cx bb tb env st hs log o.pi with
      | some (.ret v, st', hs', log') => kOps callee cx bb tb rest (putE env o.dst v) st' hs' log'
      | _ => none
    else kOps callee cx bb tb rest (putE env o.dst undefA) st hs log
theorem kOps_ok {callee : Callee} {cx : Cx} {bb tb : Nat} : ∀ (ps : List POp) {env : Env} {st : St} {hs : List Hint} {log : PLog} {env' : Env} {st' : St} {hs' : List Hint} {log' : PLog},
    kOps callee cx bb tb ps env st hs log = some (env', st', hs', log') → POk log' → POk log ∧ runOps callee cx bb tb ps env st = some (.normal, env', st')
  | [], env, st, hs, log, env', st', hs', log', h => by
    simp only [kOps, Option.some.injEq, Prod.mk.injEq] at h
    obtain ⟨rfl, rfl, rfl, rfl⟩ := h
    exact fun hl => ⟨hl, rfl⟩
  | o :: rest, env, st, hs, log, env', st', hs', log', h => by
    simp only [kOps] at h
    simp only [runOps]
    split at h
    · rename_i hw
      rw [if_pos hw]
      split at h
      · rename_i v st1 hs1 log1 hst
        intro hl
        obtain ⟨h1, h2⟩ := kOps_ok rest h hl
        obtain ⟨h3, h4⟩ := kStep_ok hst h1
        exact ⟨h3, by rw [h4]; exact h2⟩
      · exact absurd h (by simp)
    · rename_i hw
      rw [if_neg hw]
      exact kOps_ok rest h
def appN {α : Type} (l : List α) : List α → List α
  | [] => l
  | m => l ++ m
theorem appN_eq {α : Type} (l m : List α) : appN l m = l ++ m := by cases m <;> simp [appN]
def kC (callee : Callee) (cx : Cx) : PC → Env → St → List Hint → PLog → Option (Ex × Env × St × List Hint × PLog)
  | .skip, env, st, hs, log => some (.normal, env, st, hs, log)
  | .region rz rt ops draw, env, st, hs, log =>
    (match kOps callee cx st.boxes.length st.toks.length ops env { boxes := appN st.boxes rz, toks := appN st.toks rt, maps := st.maps } hs log with
      | some (env', st', hs', log') => if draw && !(ops.all fun p => p.re.isNone) then
          some (.normal, env', st', hs', (recheck cx st.boxes.length st.toks.length (traceOps callee cx st.boxes.length st.toks.length ops env { boxes := appN st.boxes rz, toks := appN st.toks rt, maps := st.maps }) ops 0 = true) :: log')
        else some (.normal, env', st', hs', log')
      | none => none)
  | .seq a b, env, st, hs, log => (match kC callee cx a env st hs log with
    | some (.normal, env', st', hs', log') => kC callee cx b env' st' hs' log'
    | r => r)
  | .cond c x y, env, st, hs, log => (match c.ev env with
    | .d (.bool true) => kC callee cx x env st hs log
    | .d (.bool false) => kC callee cx y env st hs log
    | _ => none)
  | .block id c, env, st, hs, log => (match kC callee cx c env st hs log with
    | some (.exit id', env', st', hs', log') => if Nat.beq id' id then some (.normal, env', st', hs', log') else some (.exit id', env', st', hs', log')
    | r => r)
  | .exit id, env, st, hs, log => some (.exit id, env, st, hs, log)
  | .ret, env, st, hs, log => some (.ret, env, st, hs, log)
  | _, _, _, _, _ => none
theorem kC_ok {callee : Callee} {cx : Cx} {lf : Nat} (c : PC) : ∀ {env : Env} {st : St} {hs : List Hint} {log : PLog} {ex : Ex} {env' : Env} {st' : St} {hs' : List Hint} {log' : PLog},
    kC callee cx c env st hs log = some (ex, env', st', hs', log') → POk log' → POk log ∧ runC callee lf cx c env st = some (ex, env', st') := by
  induction c with
  | skip =>
    intro env st hs log ex env' st' hs' log' h
    simp only [kC, Option.some.injEq, Prod.mk.injEq] at h
    obtain ⟨rfl, rfl, rfl, rfl, rfl⟩ := h
    exact fun hl => ⟨hl, rfl⟩
  | region rz rt ops draw =>
    intro env st hs log ex env' st' hs' log' h hl
    simp only [kC] at h
    split at h
    · rename_i env1 st1 hs1 log1 h1
      split at h
      · rename_i hd
        simp only [Option.some.injEq, Prod.mk.injEq] at h
        obtain ⟨rfl, rfl, rfl, rfl, rfl⟩ := h
        obtain ⟨k1, k2⟩ := kOps_ok ops h1 hl.tail
        refine ⟨k1, ?_⟩
        have hr := hl.head
        simp only [appN_eq] at k2 hr
        simp only [Bool.and_eq_true] at hd
        simp only [runC, hd.1, if_true, runDraw, k2, hr, Bool.or_true]
      · rename_i hd
        simp only [Option.some.injEq, Prod.mk.injEq] at h
        obtain ⟨rfl, rfl, rfl, rfl, rfl⟩ := h
        simp only [appN_eq] at h1
        obtain ⟨k1, k2⟩ := kOps_ok ops h1 hl
        refine ⟨k1, ?_⟩
        simp only [runC]
        cases draw with
        | false => exact k2
        | true =>
          have : (ops.all fun p => p.re.isNone) = true := by simpa using hd
          simp only [if_true, runDraw, k2, this, Bool.true_or]
    · exact absurd h (by simp)
  | seq a b iha ihb =>
    intro env st hs log ex env' st' hs' log' h hl
    simp only [kC] at h
    split at h
    · rename_i env1 st1 hs1 log1 h1
      obtain ⟨k3, k4⟩ := ihb h hl
      obtain ⟨k1, k2⟩ := iha h1 k3
      exact ⟨k1, by simp only [runC, k2]; exact k4⟩
    · rename_i hn
      obtain ⟨k1, k2⟩ := iha h hl
      refine ⟨k1, ?_⟩
      simp only [runC, k2]
      split
      · rename_i he
        simp only [Option.some.injEq, Prod.mk.injEq] at he
        obtain ⟨rfl, rfl, rfl⟩ := he
        exact absurd h (hn _ _ _ _)
      · rfl
  | cond c x y ihx ihy =>
    intro env st hs log ex env' st' hs' log' h hl
    simp only [kC] at h
    split at h
    · rename_i hc
      obtain ⟨k1, k2⟩ := ihx h hl
      exact ⟨k1, by simp only [runC, hc]; exact k2⟩
    · rename_i hc
      obtain ⟨k1, k2⟩ := ihy h hl
      exact ⟨k1, by simp only [runC, hc]; exact k2⟩
    · exact absurd h (by simp)
  | block id c ih =>
    intro env st hs log ex env' st' hs' log' h hl
    simp only [kC] at h
    split at h
    · rename_i id' env1 st1 hs1 log1 h1
      split at h
      · rename_i hid
        simp only [Option.some.injEq, Prod.mk.injEq] at h
        obtain ⟨rfl, rfl, rfl, rfl, rfl⟩ := h
        obtain ⟨k1, k2⟩ := ih h1 hl
        exact ⟨k1, by simp only [runC, k2, if_pos (Nat.eq_of_beq_eq_true hid)]⟩
      · rename_i hid
        simp only [Option.some.injEq, Prod.mk.injEq] at h
        obtain ⟨rfl, rfl, rfl, rfl, rfl⟩ := h
        obtain ⟨k1, k2⟩ := ih h1 hl
        exact ⟨k1, by simp only [runC, k2]; rw [if_neg (fun e => hid (by rw [e]; exact Nat.beq_refl _))]⟩
    · rename_i hn
      obtain ⟨k1, k2⟩ := ih h hl
      refine ⟨k1, ?_⟩
      simp only [runC, k2]
      split
      · rename_i he
        simp only [Option.some.injEq, Prod.mk.injEq] at he
        obtain ⟨rfl, rfl, rfl⟩ := he
        exact absurd h (hn _ _ _ _ _)
      · rfl
  | exit id =>
    intro env st hs log ex env' st' hs' log' h
    simp only [kC, Option.some.injEq, Prod.mk.injEq] at h
    obtain ⟨rfl, rfl, rfl, rfl, rfl⟩ := h
    exact fun hl => ⟨hl, rfl⟩
  | ret =>
    intro env st hs log ex env' st' hs' log' h
    simp only [kC, Option.some.injEq, Prod.mk.injEq] at h
    obtain ⟨rfl, rfl, rfl, rfl, rfl⟩ := h
    exact fun hl => ⟨hl, rfl⟩
  | _ => intro env st hs log ex env' st' hs' log' h; exact absurd h (by simp [kC])
theorem kC_run {callee : Callee} {cx : Cx} {lf : Nat} {c : PC} {env : Env} {st : St} {hs hs' : List Hint} {ex : Ex} {env' : Env} {st' : St} {log' : PLog}
    (h : kC callee cx c env st hs [] = some (ex, env', st', hs', log')) (hl : POk log') : runC callee lf cx c env st = some (ex, env', st') := (kC_ok c h hl).2

/-- A loop that is left by its test after m rounds. -/
theorem iter_rounds {body : Env → St → Option (Ex × Env × St)} (E : Nat → Env × St → Prop) {m lf : Nat} (hlf : m < lf)
    (round : ∀ k q, k < m → E k q → ∃ q', body q.1 q.2 = some (.normal, q'.1, q'.2) ∧ E (k + 1) q') {e0 : Env} {s0 : St} (h0 : E 0 (e0, s0)) :
    ∃ q, E m q ∧ iter body lf e0 s0 = iter body (lf - m) q.1 q.2 := by
  have key : ∀ k, k ≤ m → ∃ q, E k q ∧ iter body lf e0 s0 = iter body (lf - k) q.1 q.2 := by
    intro k
    induction k with
    | zero => exact fun _ => ⟨(e0, s0), h0, rfl⟩
    | succ k ih =>
      intro hk
      obtain ⟨q, hq, he⟩ := ih (by omega)
      obtain ⟨q', hb, hq'⟩ := round k q (by omega) hq
      refine ⟨q', hq', he.trans ?_⟩
      have : lf - k = (lf - (k + 1)) + 1 := by omega
      rw [this]
      simp only [iter, hb]
  exact key m (Nat.le_refl _)
end Go.Rf

namespace Go.Rf
set_option linter.unusedVariables false
set_option linter.unusedSimpArgs false
theorem env_set (e : Env) (d i : Nat) (v u : AV) : (List.set e d v).getD i u = if i = d then (if d < e.length then v else u) else e.getD i u := by
  simp only [List.getD_eq_getElem?_getD, List.getElem?_set]
  by_cases h : d = i
  · subst h
    by_cases h2 : d < e.length
    · simp [h2]
    · simp [h2]
  · rw [if_neg h, if_neg (fun e => h e.symm)]
end Go.Rf

namespace Go.Rf
set_option linter.unusedVariables false
set_option linter.unusedSimpArgs false

/-- A box's cells. -/
structure BoxAt (B : List (List AV)) (b : Nat) (cs : List AV) : Prop where
  at_ : B[b]? = some cs
def pushB (B : List (List AV)) (x : List AV) : List (List AV) := B ++ [x]
def setB (B : List (List AV)) (b : Nat) (x : List AV) : List (List AV) := B.set b x
theorem bxA_new {B : List (List AV)} {n : Nat} {x : List AV} (h : B.length = n) : BoxAt (pushB B x) n x := ⟨by subst h; simp [pushB]⟩
theorem bxA_lt {B : List (List AV)} {n : Nat} {x : List AV} (h : BoxAt B n x) : n < B.length := (List.getElem?_eq_some_iff.1 h.at_).1
theorem bxA_old {B : List (List AV)} {n : Nat} {x c : List AV} (h : BoxAt B n c) : BoxAt (pushB B x) n c := ⟨by unfold pushB; rw [List.getElem?_append_left (bxA_lt h)]; exact h.at_⟩
theorem bxA_app {B m : List (List AV)} {n : Nat} {c : List AV} (h : BoxAt B n c) : BoxAt (appN B m) n c := ⟨by rw [appN_eq, List.getElem?_append_left (bxA_lt h)]; exact h.at_⟩
theorem bxA_app0 {B : List (List AV)} {n : Nat} {x : List AV} {m : List (List AV)} (h : B.length + 0 = n) : BoxAt (appN B (x :: m)) n x := ⟨by subst h; rw [appN_eq]; simp⟩
theorem bxA_set {B : List (List AV)} {n : Nat} {x c : List AV} (h : BoxAt B n c) : BoxAt (setB B n x) n x := ⟨by unfold setB; rw [List.getElem?_set_self (bxA_lt h)]⟩
theorem bxA_ne {B : List (List AV)} {n m : Nat} {x c : List AV} (h : BoxAt B n c) (hne : n < m) : BoxAt (setB B m x) n c := ⟨by unfold setB; rw [List.getElem?_set_ne (by omega)]; exact h.at_⟩
def hStep (callee : Callee) (cx : Cx) (bb tb : Nat) (env : Env) (st : St) (hs : List Hint) (log : PLog) (pi : PI) : KR := match pi with
  | .idxA esz x i => (match x.ev env, i.ev env with
    | .bsl b n f, .d (.int _ m) => some (.ret (.ptr b (m.toNat * esz)), st, hs, (0 ≤ m ∧ m < n) :: log)
    | _, _ => kStep callee cx bb tb env st hs log (.idxA esz x i))
  | .idxS x i => (match x.ev env, i.ev env, hs with
    | .d (.str s), .d (.int _ m), .n c :: hs => some (.ret (.d (.int .u8 (c : Int))), st, hs, (0 ≤ m ∧ s[m.toNat]? = some c) :: log)
    | _, _, _ => none)
  | .load ag n x => (match x.ev env, hs with
    | .ptr b o, .l v :: hs => if ag then none else some (.ret v, st, hs, (∃ cs, st.boxes[b]? = some cs ∧ cs[o]? = some v) :: log)
    | .ptr b o, .c cs :: hs => if ag then (if o + n ≤ cs.length then some (.ret (.agg ((cs.drop o).take n)), st, hs, (BoxAt st.boxes b cs) :: log) else none)
      else (match cs[o]? with
        | some v => some (.ret v, st, hs, (BoxAt st.boxes b cs) :: log)
        | none => none)
    | _, hs => kStep callee cx bb tb env st hs log (.load ag n x))
  | .store n a v => (match a.ev env, hs with
    | .ptr b o, .w cs :: hs => if Nat.beq n 1 && (v.ev env).isOne then some (.ret undefA, { st with boxes := st.boxes.set b (cs.set o (v.ev env)) }, hs, (st.boxes[b]? = some cs ∧ o < cs.length ∧ cx.b ≤ b ∧ underL b [v.ev env] = true) :: log) else none
    | .ptr b o, .u cs cs' :: hs => if (v.ev env).cells.length = n ∧ o + n ≤ cs.length ∧ (v.ev env).cells.all AV.isOne = true then
        some (.ret undefA, { st with boxes := setB st.boxes b cs' }, hs, (BoxAt st.boxes b cs ∧ cx.b ≤ b ∧ underL b (v.ev env).cells = true ∧ cs.take o ++ (v.ev env).cells ++ cs.drop (o + n) = cs') :: log) else none
    | _, hs => kStep callee cx bb tb env st hs log (.store n a v))
  | .mkB esz bytes zero n => (match n.ev env with
    | .d (.int .i64 m) => some (.ret (.bsl st.boxes.length m.toNat true), { st with boxes := st.boxes ++ [(List.replicate m.toNat zero).flatten] }, hs, (0 ≤ m ∧ m.toNat * bytes ≤ maxBytes) :: log)
    | _ => none)
  | .box x => (match hs with
    | .i n :: .c cs :: hs => if cs.all AV.isOne then some (.ret (.ptr n 0), { st with boxes := pushB st.boxes cs }, hs, (st.boxes.length = n ∧ (x.ev env).cells = cs ∧ underL st.boxes.length cs = true) :: log) else none
    | hs => kStep callee cx bb tb env st hs log (.box x))
  | .alloc j => (match hs with
    | .i n :: hs => some (.ret (.ptr n 0), st, hs, (bb + j = n) :: log)
    | hs => kStep callee cx bb tb env st hs log (.alloc j))
  | pi => kStep callee cx bb tb env st hs log pi

variable {callee : Callee} {cx : Cx} {bb tb : Nat} {env : Env} {st st' : St} {hs hs' : List Hint} {log log' : PLog} {o : Out}
theorem one_cells {v : AV} (h : v.isOne = true) : v.cells = [v] := by cases v <;> first | rfl | simp [AV.isOne] at h
theorem hStep_ok {pi : PI} (h : hStep callee cx bb tb env st hs log pi = some (o, st', hs', log')) :
    POk log' → POk log ∧ stepOp callee cx bb tb env st pi = some (o, st') := by
  cases pi with
  | idxA esz x i =>
    simp only [hStep] at h
    split at h
    · rename_i b n f k m e1 e2
      simp only [Option.some.injEq, Prod.mk.injEq] at h
      obtain ⟨rfl, rfl, rfl, rfl⟩ := h
      refine fun hl => ⟨hl.tail, ?_⟩
      obtain ⟨q1, q2⟩ := hl.head
      simp only [stepOp, exec, x_idxA, e1, e2, if_pos q1, if_pos q2]
    · exact kStep_ok h
  | idxS x i =>
    simp only [hStep] at h
    split at h
    · rename_i s k m c hs1 e1 e2
      simp only [Option.some.injEq, Prod.mk.injEq] at h
      obtain ⟨rfl, rfl, rfl, rfl⟩ := h
      refine fun hl => ⟨hl.tail, ?_⟩
      obtain ⟨q1, q2⟩ := hl.head
      simp only [stepOp, exec, x_idxS, e1, e2, if_pos q1, q2, Option.map_some]
    · exact absurd h (by simp)
  | load ag n x =>
    simp only [hStep] at h
    split at h
    · rename_i b off v hs1 e1
      split at h
      · exact absurd h (by simp)
      · rename_i hag
        simp only [Option.some.injEq, Prod.mk.injEq] at h
        obtain ⟨rfl, rfl, rfl, rfl⟩ := h
        refine fun hl => ⟨hl.tail, ?_⟩
        obtain ⟨cs, q1, q2⟩ := hl.head
        simp only [stepOp, exec, x_load, e1, q1, if_neg hag, q2, Option.map_some]
    · rename_i b off cs hs1 e1
      split at h
      · rename_i hag
        split at h
        · rename_i hle
          simp only [Option.some.injEq, Prod.mk.injEq] at h
          obtain ⟨rfl, rfl, rfl, rfl⟩ := h
          refine fun hl => ⟨hl.tail, ?_⟩
          simp only [stepOp, exec, x_load, e1, hl.head.at_, hag, if_true, if_pos hle]
        · exact absurd h (by simp)
      · rename_i hag
        split at h
        · rename_i v hv
          simp only [Option.some.injEq, Prod.mk.injEq] at h
          obtain ⟨rfl, rfl, rfl, rfl⟩ := h
          refine fun hl => ⟨hl.tail, ?_⟩
          simp only [stepOp, exec, x_load, e1, hl.head.at_, if_neg hag, hv, Option.map_some]
        · exact absurd h (by simp)
    · exact kStep_ok h
  | store n a v =>
    simp only [hStep] at h
    split at h
    · rename_i b off cs hs1 e1
      split at h
      · rename_i hc
        simp only [Bool.and_eq_true] at hc
        obtain ⟨h1, h2⟩ := hc
        have h1 := Nat.eq_of_beq_eq_true h1
        subst h1
        simp only [Option.some.injEq, Prod.mk.injEq] at h
        obtain ⟨rfl, rfl, rfl, rfl⟩ := h
        refine fun hl => ⟨hl.tail, ?_⟩
        obtain ⟨q1, q2, q3, q4⟩ := hl.head
        have hset : cs.take off ++ [v.ev env] ++ cs.drop (off + 1) = cs.set off (v.ev env) := by
          rw [List.set_eq_take_append_cons_drop, if_pos q2]; simp
        simp only [stepOp, exec, x_store, e1, q1, one_cells h2]
        rw [if_pos ⟨rfl, q2, q3, by simp [h2], q4⟩, hset]
      · exact absurd h (by simp)
    · rename_i b off cs cs' hs1 e1
      split at h
      · rename_i hc
        simp only [Option.some.injEq, Prod.mk.injEq] at h
        obtain ⟨rfl, rfl, rfl, rfl⟩ := h
        refine fun hl => ⟨hl.tail, ?_⟩
        obtain ⟨q1, q2, q3, q4⟩ := hl.head
        subst q4
        simp only [stepOp, exec, x_store, e1, q1.at_]
        rw [if_pos ⟨hc.1, hc.2.1, q2, hc.2.2, q3⟩]; rfl
      · exact absurd h (by simp)
    · exact kStep_ok h
  | mkB esz bytes zero n =>
    simp only [hStep] at h
    split at h
    · rename_i m e1
      simp only [Option.some.injEq, Prod.mk.injEq] at h
      obtain ⟨rfl, rfl, rfl, rfl⟩ := h
      refine fun hl => ⟨hl.tail, ?_⟩
      simp only [stepOp, exec, x_mkB, e1, if_pos hl.head]
    · exact absurd h (by simp)
  | box x =>
    simp only [hStep] at h
    split at h
    · rename_i n cs hs1
      split at h
      · rename_i hc
        simp only [Option.some.injEq, Prod.mk.injEq] at h
        obtain ⟨rfl, rfl, rfl, rfl⟩ := h
        refine fun hl => ⟨hl.tail, ?_⟩
        obtain ⟨q1, q2, q3⟩ := hl.head
        subst q1; subst q2
        simp only [stepOp, exec, x_box, hc, q3, Bool.and_self, if_true, pushB]
      · exact absurd h (by simp)
    · exact kStep_ok h
  | alloc j =>
    simp only [hStep] at h
    split at h
    · rename_i n hs1
      simp only [Option.some.injEq, Prod.mk.injEq] at h
      obtain ⟨rfl, rfl, rfl, rfl⟩ := h
      refine fun hl => ⟨hl.tail, ?_⟩
      simp only [stepOp, exec, x_alloc, hl.head]
    · exact kStep_ok h
  | _ => exact kStep_ok h

def hOps (callee : Callee) (cx : Cx) (bb tb : Nat) : List POp → Env → St → List Hint → PLog → Option (Env × St × List Hint × PLog)
  | [], env, st, hs, log => some (env, st, hs, log)
  | o :: rest, env, st, hs, log =>
    if wanted env o.guard then
      match hStep callee cx bb tb env st hs log o.pi with
      | some (.ret v, st', hs', log') => hOps callee cx bb tb rest (putE env o.dst v) st' hs' log'
      | _ => none
    else hOps callee cx bb tb rest (putE env o.dst undefA) st hs log
theorem hOps_ok {callee : Callee} {cx : Cx} {bb tb : Nat} : ∀ (ps : List POp) {env : Env} {st : St} {hs : List Hint} {log : PLog} {env' : Env} {st' : St} {hs' : List Hint} {log' : PLog},
    hOps callee cx bb tb ps env st hs log = some (env', st', hs', log') → POk log' → POk log ∧ runOps callee cx bb tb ps env st = some (.normal, env', st')
  | [], env, st, hs, log, env', st', hs', log', h => by
    simp only [hOps, Option.some.injEq, Prod.mk.injEq] at h
    obtain ⟨rfl, rfl, rfl, rfl⟩ := h
    exact fun hl => ⟨hl, rfl⟩
  | o :: rest, env, st, hs, log, env', st', hs', log', h => by
    simp only [hOps] at h
    simp only [runOps]
    split at h
    · rename_i hw
      rw [if_pos hw]
      split at h
      · rename_i v st1 hs1 log1 hst
        intro hl
        obtain ⟨h1, h2⟩ := hOps_ok rest h hl
        obtain ⟨h3, h4⟩ := hStep_ok hst h1
        exact ⟨h3, by rw [h4]; exact h2⟩
      · exact absurd h (by simp)
    · rename_i hw
      rw [if_neg hw]
      exact hOps_ok rest h
def hR (callee : Callee) (cx : Cx) (bb tb : Nat) (ops : List POp) (draw : Bool) (env : Env) (st : St) (hs : List Hint) (log : PLog) : Option (Ex × Env × St × List Hint × PLog) :=
  match hOps callee cx bb tb ops env st hs log with
  | some (env', st', hs', log') => if draw && !(ops.all fun p => p.re.isNone) then
      some (.normal, env', st', hs', (recheck cx bb tb (traceOps callee cx bb tb ops env st) ops 0 = true) :: log')
    else some (.normal, env', st', hs', log')
  | none => none
def hC (callee : Callee) (cx : Cx) : PC → Env → St → List Hint → PLog → Option (Ex × Env × St × List Hint × PLog)
  | .skip, env, st, hs, log => some (.normal, env, st, hs, log)
  | .region rz rt ops draw, env, st, hs, log => (match rz, rt with
    | [], [] => hR callee cx st.boxes.length st.toks.length ops draw env st hs log
    | rz, rt => hR callee cx st.boxes.length st.toks.length ops draw env { boxes := appN st.boxes rz, toks := appN st.toks rt, maps := st.maps } hs log)
  | .seq a b, env, st, hs, log => (match hC callee cx a env st hs log with
    | some (.normal, env', st', hs', log') => hC callee cx b env' st' hs' log'
    | r => r)
  | .cond c x y, env, st, hs, log => (match c.ev env with
    | .d (.bool true) => hC callee cx x env st hs log
    | .d (.bool false) => hC callee cx y env st hs log
    | _ => none)
  | .block id c, env, st, hs, log => (match hC callee cx c env st hs log with
    | some (.exit id', env', st', hs', log') => if Nat.beq id' id then some (.normal, env', st', hs', log') else some (.exit id', env', st', hs', log')
    | r => r)
  | .exit id, env, st, hs, log => some (.exit id, env, st, hs, log)
  | .ret, env, st, hs, log => some (.ret, env, st, hs, log)
  | _, _, _, _, _ => none
theorem hC_ok {callee : Callee} {cx : Cx} {lf : Nat} (c : PC) : ∀ {env : Env} {st : St} {hs : List Hint} {log : PLog} {ex : Ex} {env' : Env} {st' : St} {hs' : List Hint} {log' : PLog},
    hC callee cx c env st hs log = some (ex, env', st', hs', log') → POk log' → POk log ∧ runC callee lf cx c env st = some (ex, env', st') := by
  induction c with
  | skip =>
    intro env st hs log ex env' st' hs' log' h
    simp only [hC, Option.some.injEq, Prod.mk.injEq] at h
    obtain ⟨rfl, rfl, rfl, rfl, rfl⟩ := h
    exact fun hl => ⟨hl, rfl⟩
  | region rz rt ops draw =>
    intro env st hs log ex env' st' hs' log' h hl
    have h : hR callee cx st.boxes.length st.toks.length ops draw env { boxes := st.boxes ++ rz, toks := st.toks ++ rt, maps := st.maps } hs log = some (ex, env', st', hs', log') := by
      simp only [hC] at h
      split at h
      · simpa using h
      · simpa only [appN_eq] using h
    unfold hR at h
    split at h
    · rename_i env1 st1 hs1 log1 h1
      split at h
      · rename_i hd
        simp only [Option.some.injEq, Prod.mk.injEq] at h
        obtain ⟨rfl, rfl, rfl, rfl, rfl⟩ := h
        obtain ⟨k1, k2⟩ := hOps_ok ops h1 hl.tail
        refine ⟨k1, ?_⟩
        have hr := hl.head
        simp only [Bool.and_eq_true] at hd
        simp only [runC, hd.1, if_true, runDraw, k2, hr, Bool.or_true]
      · rename_i hd
        simp only [Option.some.injEq, Prod.mk.injEq] at h
        obtain ⟨rfl, rfl, rfl, rfl, rfl⟩ := h
        obtain ⟨k1, k2⟩ := hOps_ok ops h1 hl
        refine ⟨k1, ?_⟩
        simp only [runC]
        cases draw with
        | false => exact k2
        | true =>
          have : (ops.all fun p => p.re.isNone) = true := by simpa using hd
          simp only [if_true, runDraw, k2, this, Bool.true_or]
    · exact absurd h (by simp)
  | seq a b iha ihb =>
    intro env st hs log ex env' st' hs' log' h hl
    simp only [hC] at h
    split at h
    · rename_i env1 st1 hs1 log1 h1
      obtain ⟨k3, k4⟩ := ihb h hl
      obtain ⟨k1, k2⟩ := iha h1 k3
      exact ⟨k1, by simp only [runC, k2]; exact k4⟩
    · rename_i hn
      obtain ⟨k1, k2⟩ := iha h hl
      refine ⟨k1, ?_⟩
      simp only [runC, k2]
      split
      · rename_i he
        simp only [Option.some.injEq, Prod.mk.injEq] at he
        obtain ⟨rfl, rfl, rfl⟩ := he
        exact absurd h (hn _ _ _ _)
      · rfl
  | cond c x y ihx ihy =>
    intro env st hs log ex env' st' hs' log' h hl
    simp only [hC] at h
    split at h
    · rename_i hc
      obtain ⟨k1, k2⟩ := ihx h hl
      exact ⟨k1, by simp only [runC, hc]; exact k2⟩
    · rename_i hc
      obtain ⟨k1, k2⟩ := ihy h hl
      exact ⟨k1, by simp only [runC, hc]; exact k2⟩
    · exact absurd h (by simp)
  | block id c ih =>
    intro env st hs log ex env' st' hs' log' h hl
    simp only [hC] at h
    split at h
    · rename_i id' env1 st1 hs1 log1 h1
      split at h
      · rename_i hid
        simp only [Option.some.injEq, Prod.mk.injEq] at h
        obtain ⟨rfl, rfl, rfl, rfl, rfl⟩ := h
        obtain ⟨k1, k2⟩ := ih h1 hl
        exact ⟨k1, by simp only [runC, k2, if_pos (Nat.eq_of_beq_eq_true hid)]⟩
      · rename_i hid
        simp only [Option.some.injEq, Prod.mk.injEq] at h
        obtain ⟨rfl, rfl, rfl, rfl, rfl⟩ := h
        obtain ⟨k1, k2⟩ := ih h1 hl
        exact ⟨k1, by simp only [runC, k2]; rw [if_neg (fun e => hid (by rw [e]; exact Nat.beq_refl _))]⟩
    · rename_i hn
      obtain ⟨k1, k2⟩ := ih h hl
      refine ⟨k1, ?_⟩
      simp only [runC, k2]
      split
      · rename_i he
        simp only [Option.some.injEq, Prod.mk.injEq] at he
        obtain ⟨rfl, rfl, rfl⟩ := he
        exact absurd h (hn _ _ _ _ _)
      · rfl
  | exit id =>
    intro env st hs log ex env' st' hs' log' h
    simp only [hC, Option.some.injEq, Prod.mk.injEq] at h
    obtain ⟨rfl, rfl, rfl, rfl, rfl⟩ := h
    exact fun hl => ⟨hl, rfl⟩
  | ret =>
    intro env st hs log ex env' st' hs' log' h
    simp only [hC, Option.some.injEq, Prod.mk.injEq] at h
    obtain ⟨rfl, rfl, rfl, rfl, rfl⟩ := h
    exact fun hl => ⟨hl, rfl⟩
  | _ => intro env st hs log ex env' st' hs' log' h; exact absurd h (by simp [hC])

/-! ### environments by their known places -/
abbrev Kn := List (Nat × AV)
def look (v : AV) (i : Nat) : Kn → AV
  | [] => v
  | (j, u) :: r => if Nat.beq j i then u else look v i r
def envFrom (kn : Kn) (J : Nat → AV) : Nat → Nat → Env
  | 0, _ => []
  | n + 1, i => look (J i) i kn :: envFrom kn J n (i + 1)
def envOf (n : Nat) (kn : Kn) (J : Nat → AV) : Env := envFrom kn J n 0
theorem envFrom_len (kn : Kn) (J : Nat → AV) : ∀ n i, (envFrom kn J n i).length = n
  | 0, _ => rfl
  | n + 1, i => by simp [envFrom, envFrom_len kn J n (i + 1)]
theorem envFrom_get (kn : Kn) (J : Nat → AV) : ∀ n i k, k < n → (envFrom kn J n i)[k]? = some (look (J (i + k)) (i + k) kn)
  | 0, _, _, h => by omega
  | n + 1, i, 0, _ => rfl
  | n + 1, i, k + 1, h => by
    have := envFrom_get kn J n (i + 1) k (by omega)
    simp only [envFrom, List.getElem?_cons_succ, this]
    rw [show i + 1 + k = i + (k + 1) by omega]
/-- What a place holds. -/
def gets (e : Env) : Kn → Kn
  | [] => []
  | (i, _) :: r => (i, e.getD i undefA) :: gets e r
theorem look_gets {e : Env} : ∀ {kn : Kn}, gets e kn = kn → ∀ i, look (e.getD i undefA) i kn = e.getD i undefA
  | [], _, _ => rfl
  | (j, u) :: r, h, i => by
    simp only [gets, List.cons.injEq, Prod.mk.injEq, true_and] at h
    simp only [look]
    split
    · rename_i hj
      obtain rfl := Nat.eq_of_beq_eq_true hj
      exact h.1.symm
    · exact look_gets h.2 i
theorem env_eq {e : Env} {n : Nat} {kn : Kn} (hl : e.length = n) (hg : gets e kn = kn) : e = envOf n kn (fun i => e.getD i undefA) := by
  refine List.ext_getElem? fun k => ?_
  by_cases hk : k < n
  · rw [envOf, envFrom_get _ _ _ _ _ hk, Nat.zero_add, look_gets hg]
    rw [List.getD_eq_getElem?_getD, List.getElem?_eq_getElem (by omega)]
    rfl
  · rw [List.getElem?_eq_none (by omega), List.getElem?_eq_none (by rw [envOf, envFrom_len]; omega)]

/-- The outcome, as far as it matters. -/
def sum1 (kn : Kn) : Option (Ex × Env × St × List Hint × PLog) → Option (Ex × Nat × Kn × St × List Hint × PLog)
  | some (ex, e, s, hs, l) => some (ex, e.length, gets e kn, s, hs, l)
  | none => none
theorem h_run {callee : Callee} {cx : Cx} {lf : Nat} {c : PC} {env : Env} {st st' : St} {hs : List Hint} {ex : Ex} {n : Nat} {kn : Kn} {log : PLog}
    (h : sum1 kn (hC callee cx c env st hs []) = some (ex, n, kn, st', [], log)) (hl : POk log) : ∃ J, runC callee lf cx c env st = some (ex, envOf n kn J, st') := by
  unfold sum1 at h
  split at h
  · rename_i ex1 e s hs1 l h1
    simp only [Option.some.injEq, Prod.mk.injEq] at h
    obtain ⟨rfl, h2, h3, rfl, rfl, rfl⟩ := h
    have := (hC_ok (lf := lf) c h1 hl).2
    rw [env_eq h2 h3] at this
    exact ⟨_, this⟩
  · exact absurd h (by simp)

/-- A loop with an invariant, left by its test. -/
theorem loop_inv {callee : Callee} {lf : Nat} {cx : Cx} {Q : PC} {id m : Nat} (E : Nat → Env × St → Prop) (F : Env × St → Prop) (hlf : m < lf)
    (round : ∀ k q, k < m → E k q → ∃ q', runC callee lf cx Q q.1 q.2 = some (.normal, q'.1, q'.2) ∧ E (k + 1) q')
    (out : ∀ q, E m q → ∃ q', runC callee lf cx Q q.1 q.2 = some (.exit id, q'.1, q'.2) ∧ F q') {e0 : Env} {s0 : St} (h0 : E 0 (e0, s0)) :
    ∃ q', runC callee lf cx (.block id (.loop Q)) e0 s0 = some (.normal, q'.1, q'.2) ∧ F q' := by
  obtain ⟨q, hq, hi⟩ := iter_rounds (body := fun e s => runC callee lf cx Q e s) E hlf (fun k q hk he => round k q hk he) h0
  obtain ⟨q', h1, h2⟩ := out q hq
  refine ⟨q', ?_, h2⟩
  obtain ⟨j, hj⟩ : ∃ j, lf - m = j + 1 := ⟨lf - m - 1, by omega⟩
  have : iter (fun e s => runC callee lf cx Q e s) lf e0 s0 = some (.exit id, q'.1, q'.2) := by
    rw [hi, hj]; simp only [iter, h1]
  simp only [runC, this, if_true]
theorem run_seq {callee : Callee} {lf : Nat} {cx : Cx} {a b : PC} {env e1 : Env} {st s1 : St} {r : Option (Ex × Env × St)} (h : runC callee lf cx a env st = some (.normal, e1, s1)) (k : runC callee lf cx b e1 s1 = r) : runC callee lf cx (.seq a b) env st = r := by
  simp only [runC, h, k]
theorem run_block {callee : Callee} {lf : Nat} {cx : Cx} {id : Nat} {c : PC} {env e1 : Env} {st s1 : St} (h : runC callee lf cx c env st = some (.normal, e1, s1)) : runC callee lf cx (.block id c) env st = some (.normal, e1, s1) := by
  simp only [runC, h]

/-! ### pieces of code by their place -/
def cL : PC → PC
  | .seq a _ => a
  | c => c
def cR : PC → PC
  | .seq _ b => b
  | c => c
def cB : PC → PC
  | .block _ c => c
  | c => c
def cO : PC → PC
  | .loop c => c
  | c => c
def cT : PC → PC
  | .cond _ a _ => a
  | c => c
def cE : PC → PC
  | .cond _ _ b => b
  | c => c
theorem wrap_s {x : Int} (h0 : -9223372036854775808 ≤ x) (h1 : x ≤ 9223372036854775807) : IntKind.wrap .i64 x = x := by rw [IntKind.wrap_i64]; omega

/-- Rows of whole numbers. -/
def rowF (m : Nat) (f : Nat → Int) : List AV := (List.range m).map fun i => .d (.int .i64 (f i))
theorem rowF_len (m : Nat) (f : Nat → Int) : (rowF m f).length = m := by simp [rowF]
theorem rowF_get {m : Nat} {f : Nat → Int} {i : Nat} (h : i < m) : (rowF m f)[i]? = some (.d (.int .i64 (f i))) := by simp [rowF, h]
theorem rowF_set (m : Nat) (f : Nat → Int) (i : Nat) (v : Int) : (rowF m f).set i (.d (.int .i64 v)) = rowF m (fun k => if k = i then v else f k) := by
  refine List.ext_getElem? fun k => ?_
  rw [List.getElem?_set]
  by_cases hk : k < m
  · by_cases h : i = k
    · subst h; simp [rowF, hk]
    · rw [if_neg h, rowF_get hk, rowF_get hk, if_neg (fun e => h e.symm)]
  · rw [List.getElem?_eq_none (by rw [rowF_len]; omega)]
    by_cases h : i = k
    · rw [if_pos h, if_neg (by rw [rowF_len]; omega), List.getElem?_eq_none (by rw [rowF_len]; omega)]
    · rw [if_neg h, List.getElem?_eq_none (by rw [rowF_len]; omega)]
theorem rowF_congr {m : Nat} {f g : Nat → Int} (h : ∀ i, i < m → f i = g i) : rowF m f = rowF m g := by
  unfold rowF
  exact List.map_congr_left fun i hi => by rw [h i (by simpa using hi)]
theorem rowF_zero (m : Nat) : (List.replicate m [AV.d (.int .i64 0)]).flatten = rowF m (fun _ => 0) := by
  induction m with
  | zero => rfl
  | succ m ih =>
    rw [List.replicate_succ', List.flatten_append, ih]
    simp [rowF, List.range_succ]
end Go.Rf
