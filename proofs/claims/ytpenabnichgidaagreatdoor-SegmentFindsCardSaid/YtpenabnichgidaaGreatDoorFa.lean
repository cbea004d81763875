/- Runs over any state, with hints; the three searches by name; the comparison of lists. -/
import Derived.Test.YtpenabnichgidaaGreatDoorMc
import Derived.Test.YtpenabnichgidaaGreatDoorTc
import Derived.Laws.BitsLemmas
namespace Go.Rf
set_option linter.unusedVariables false
set_option linter.unusedSimpArgs false

inductive Hint where
  | b (x : Bool)
  | r (x : List D)
  | c (x : List AV)
  | v (x : AV)

abbrev PLog := List Prop
def POk (l : PLog) : Prop := ∀ p, p ∈ l → p
theorem POk.tail {p : Prop} {l : PLog} (h : POk (p :: l)) : POk l := fun q hq => h q (List.mem_cons_of_mem _ hq)
theorem POk.head {p : Prop} {l : PLog} (h : POk (p :: l)) : p := h p (List.mem_cons_self ..)
theorem POk.nil : POk [] := fun p h => by simp at h
theorem POk.cons {p : Prop} {l : PLog} (h : p) (t : POk l) : POk (p :: l) := fun q hq => by
  rcases List.mem_cons.1 hq with rfl | hq
  · exact h
  · exact t q hq

abbrev KR := Option (Out × St × List Hint × PLog)
def kVal (v : AV) (st : St) (hs : List Hint) (log : PLog) : KR := match v with
  | .d (.bool e) => (match hs with
    | .b b :: hs => some (.ret (.d (.bool b)), st, hs, (e = b) :: log)
    | _ => none)
  | v => some (.ret v, st, hs, log)
def kQuo (rem : Bool) (x y : AV) (st : St) (hs : List Hint) (log : PLog) : KR := match x, y with
  | .d (.int k a), .d (.int k' b) => if k = k' then some (.ret (.d (.int k (if rem then a.tmod b else k.wrap (a.tdiv b)))), st, hs, (b ≠ 0) :: log) else none
  | _, _ => none
def kLoad (ag : Bool) (n b o : Nat) (st : St) (hs : List Hint) (log : PLog) : KR := match hs with
  | .c cs :: hs => if ag then (if o + n ≤ cs.length then some (.ret (.agg ((cs.drop o).take n)), st, hs, (st.boxes[b]? = some cs) :: log) else none)
      else (match cs[o]? with
        | some v => some (.ret v, st, hs, (st.boxes[b]? = some cs) :: log)
        | none => none)
  | _ => none
def kStore (cx : Cx) (n b o : Nat) (v : AV) (st : St) (hs : List Hint) (log : PLog) : KR := match hs with
  | .c cs :: hs => if v.cells.length = n ∧ o + n ≤ cs.length ∧ v.cells.all AV.isOne = true then
      some (.ret undefA, { st with boxes := st.boxes.set b (cs.take o ++ v.cells ++ cs.drop (o + n)) }, hs, (st.boxes[b]? = some cs ∧ cx.b ≤ b ∧ underL b v.cells = true) :: log) else none
  | _ => none
def kIdx (esz : Nat) (rows : List (List D)) (n : Int) (st : St) (hs : List Hint) (log : PLog) : KR := match hs with
  | .r r :: hs => if r.length = esz then some (.ret (.cptr r), st, hs, (0 ≤ n ∧ rows[n.toNat]? = some r) :: log) else none
  | _ => none
def kApp (cx : Cx) (tb j esz bytes : Nat) (s : AV) (news : List (List D)) (st : St) (hs : List Hint) (log : PLog) : KR := match s with
  | .nilS => some (.ret (.own (tb + j) news), { st with toks := st.toks.set (tb + j) (news.length, esz) }, hs, ((news.all fun r => r.length = esz) = true ∧ news.length * bytes ≤ maxBytes ∧ news.isEmpty = false) :: log)
  | .own t rows => some (.ret (.own t (rows ++ news)), { st with toks := st.toks.set t (rows.length + news.length, esz) }, hs, ((news.all fun r => r.length = esz) = true ∧ st.toks[t]? = some (rows.length, esz) ∧ cx.t ≤ t ∧ (rows.length + news.length) * bytes ≤ maxBytes) :: log)
  | _ => none
def kBound (env : Env) (top : Nat) : Option PO → Nat → Option (Nat × Prop)
  | none, d => some (d, True)
  | some x, _ => match x.ev env with
    | .d (.int _ n) => some (n.toNat, 0 ≤ n ∧ n ≤ top)
    | _ => none
def kSl (esz : Nat) (env : Env) (rows : List (List D)) (lo hi : Option PO) (st : St) (hs : List Hint) (log : PLog) : KR := match kBound env rows.length hi rows.length with
  | some (h, p) => (match kBound env h lo 0 with
    | some (l, q) => some (.ret (.d (.sl ((rows.take h).drop l))), st, hs, (headLen esz rows = true ∧ p ∧ q) :: log)
    | none => none)
  | none => none

def kStep (callee : Callee) (cx : Cx) (bb tb : Nat) (env : Env) (st : St) (hs : List Hint) (log : PLog) (pi : PI) : KR := match pi with
  | .bin op x y => (match op with
    | .quo => kQuo false (x.ev env) (y.ev env) st hs log
    | .rem => kQuo true (x.ev env) (y.ev env) st hs log
    | op => (match exec cx bb tb env st (.bin op x y) with
      | some (.val v st') => kVal v st' hs log
      | _ => none))
  | .eqS ks neg x y => (match exec cx bb tb env st (.eqS ks neg x y) with
      | some (.val v st') => kVal v st' hs log
      | _ => none)
  | .call f args => (match hs with
    | .v v :: hs => some (.ret v, st, hs, (callee f (args.map (·.ev env)) cx st = some (.ret v, st)) :: log)
    | _ => none)
  | .load ag n x => (match x.ev env with
    | .ptr b o => kLoad ag n b o st hs log
    | _ => (match exec cx bb tb env st (.load ag n x) with
      | some (.val v st') => some (.ret v, st', hs, log)
      | _ => none))
  | .store n a v => (match a.ev env with
    | .ptr b o => kStore cx n b o (v.ev env) st hs log
    | _ => none)
  | .idxA esz x i => (match i.ev env with
    | .d (.int _ n) => (match x.ev env with
      | .bsl _ _ _ => none
      | v => (match v.rows with
        | some rows => kIdx esz rows n st hs log
        | none => none))
    | _ => none)
  | .app j esz bytes s x => (match (x.ev env).rows with
    | some news => kApp cx tb j esz bytes (s.ev env) news st hs log
    | none => none)
  | .slSl esz x lo hi => (match (x.ev env).rows with
    | some rows => kSl esz env rows lo hi st hs log
    | none => none)
  | pi => (match exec cx bb tb env st pi with
    | some (.val v st') => some (.ret v, st', hs, log)
    | _ => none)

variable {callee : Callee} {cx : Cx} {bb tb : Nat} {env : Env} {st st' : St} {hs hs' : List Hint} {log log' : PLog} {o : Out}

theorem kVal_ok {v : AV} (h : kVal v st hs log = some (o, st', hs', log')) : POk log' → POk log ∧ o = .ret v ∧ st' = st := by
  unfold kVal at h
  split at h
  · split at h
    · simp only [Option.some.injEq, Prod.mk.injEq] at h
      obtain ⟨rfl, rfl, rfl, rfl⟩ := h
      exact fun hl => ⟨hl.tail, by rw [hl.head], rfl⟩
    · exact absurd h (by simp)
  · simp only [Option.some.injEq, Prod.mk.injEq] at h
    obtain ⟨rfl, rfl, rfl, rfl⟩ := h
    exact fun hl => ⟨hl, rfl, rfl⟩
theorem kQuo_ok {rem : Bool} {x y : PO} (h : kQuo rem (x.ev env) (y.ev env) st hs log = some (o, st', hs', log')) :
    POk log' → POk log ∧ stepOp callee cx bb tb env st (.bin (if rem then .rem else .quo) x y) = some (o, st') := by
  unfold kQuo at h
  split at h
  · rename_i k a k' b hx hy
    split at h
    · rename_i hk
      simp only [Option.some.injEq, Prod.mk.injEq] at h
      obtain ⟨rfl, rfl, rfl, rfl⟩ := h
      refine fun hl => ⟨hl.tail, ?_⟩
      have hb : b ≠ 0 := hl.head
      cases rem with
      | true => simp only [if_true, stepOp, exec, x_bin, hx, hy, binD, if_pos hk, if_neg hb, Option.map_some]
      | false => simp only [Bool.false_eq_true, if_false, stepOp, exec, x_bin, hx, hy, binD, if_pos hk, if_neg hb, Option.map_some]
    · exact absurd h (by simp)
  · exact absurd h (by simp)
theorem kLoad_ok {ag : Bool} {n b off : Nat} {x : PO} (hx : x.ev env = .ptr b off) (h : kLoad ag n b off st hs log = some (o, st', hs', log')) :
    POk log' → POk log ∧ stepOp callee cx bb tb env st (.load ag n x) = some (o, st') := by
  unfold kLoad at h
  split at h
  · rename_i cs hs1
    split at h
    · rename_i hag
      split at h
      · rename_i hle
        simp only [Option.some.injEq, Prod.mk.injEq] at h
        obtain ⟨rfl, rfl, rfl, rfl⟩ := h
        refine fun hl => ⟨hl.tail, ?_⟩
        simp only [stepOp, exec, x_load, hx, hl.head, hag, if_true, if_pos hle]
      · exact absurd h (by simp)
    · rename_i hag
      split at h
      · rename_i v hv
        simp only [Option.some.injEq, Prod.mk.injEq] at h
        obtain ⟨rfl, rfl, rfl, rfl⟩ := h
        refine fun hl => ⟨hl.tail, ?_⟩
        simp only [stepOp, exec, x_load, hx, hl.head, if_neg hag, hv, Option.map_some]
      · exact absurd h (by simp)
  · exact absurd h (by simp)
theorem kStore_ok {n b off : Nat} {a v : PO} (ha : a.ev env = .ptr b off) (h : kStore cx n b off (v.ev env) st hs log = some (o, st', hs', log')) :
    POk log' → POk log ∧ stepOp callee cx bb tb env st (.store n a v) = some (o, st') := by
  unfold kStore at h
  split at h
  · rename_i cs hs1
    split at h
    · rename_i hc
      simp only [Option.some.injEq, Prod.mk.injEq] at h
      obtain ⟨rfl, rfl, rfl, rfl⟩ := h
      refine fun hl => ⟨hl.tail, ?_⟩
      obtain ⟨q1, q2, q3⟩ := hl.head
      simp only [stepOp, exec, x_store, ha, q1]
      rw [if_pos ⟨hc.1, hc.2.1, q2, hc.2.2, q3⟩]
    · exact absurd h (by simp)
  · exact absurd h (by simp)
theorem kIdx_ok {esz : Nat} {x i : PO} {k : IntKind} {n : Int} {rows : List (List D)} (hi : i.ev env = .d (.int k n)) (hb : ∀ b m f, x.ev env ≠ .bsl b m f) (hr : (x.ev env).rows = some rows) (h : kIdx esz rows n st hs log = some (o, st', hs', log')) :
    POk log' → POk log ∧ stepOp callee cx bb tb env st (.idxA esz x i) = some (o, st') := by
  unfold kIdx at h
  split at h
  · rename_i r hs1
    split at h
    · rename_i hc
      simp only [Option.some.injEq, Prod.mk.injEq] at h
      obtain ⟨rfl, rfl, rfl, rfl⟩ := h
      refine fun hl => ⟨hl.tail, ?_⟩
      obtain ⟨q1, q2⟩ := hl.head
      have : exec cx bb tb env st (.idxA esz x i) = some (.val (.cptr r) st) := by
        simp only [exec, x_idxA, hi, if_pos q1]
        generalize hx : x.ev env = v at *
        cases v with
        | bsl b m f => exact absurd rfl (hb b m f)
        | _ => simp only [hr, q2, if_pos hc]
      simp only [stepOp, this]
    · exact absurd h (by simp)
  · exact absurd h (by simp)
theorem kApp_ok {j esz bytes : Nat} {s x : PO} {news : List (List D)} (hx : (x.ev env).rows = some news) (h : kApp cx tb j esz bytes (s.ev env) news st hs log = some (o, st', hs', log')) :
    POk log' → POk log ∧ stepOp callee cx bb tb env st (.app j esz bytes s x) = some (o, st') := by
  unfold kApp at h
  split at h
  · rename_i hs1
    simp only [Option.some.injEq, Prod.mk.injEq] at h
    obtain ⟨rfl, rfl, rfl, rfl⟩ := h
    refine fun hl => ⟨hl.tail, ?_⟩
    obtain ⟨q1, q2, q3⟩ := hl.head
    simp only [stepOp, exec, x_app, hx, q1, not_true_eq_false, if_false, hs1, if_pos q2, q3, Bool.false_eq_true]
  · rename_i t rows hs1
    simp only [Option.some.injEq, Prod.mk.injEq] at h
    obtain ⟨rfl, rfl, rfl, rfl⟩ := h
    refine fun hl => ⟨hl.tail, ?_⟩
    obtain ⟨q1, q2, q3, q4⟩ := hl.head
    simp only [stepOp, exec, x_app, hx, q1, not_true_eq_false, if_false, hs1, q2, true_and]
    rw [if_pos ⟨q3, q4⟩]
  · exact absurd h (by simp)
theorem kBound_ok {top d l : Nat} {x : Option PO} {p : Prop} (h : kBound env top x d = some (l, p)) (hp : p) : bound env top x d = some l := by
  unfold kBound at h
  split at h
  · simp only [Option.some.injEq, Prod.mk.injEq] at h
    obtain ⟨rfl, rfl⟩ := h
    rfl
  · split at h
    · rename_i x k n hx
      simp only [Option.some.injEq, Prod.mk.injEq] at h
      obtain ⟨rfl, rfl⟩ := h
      simp only [bound, hx, if_pos hp]
    · exact absurd h (by simp)
theorem kSl_ok {esz : Nat} {x : PO} {rows : List (List D)} {lo hi : Option PO} (hx : (x.ev env).rows = some rows) (h : kSl esz env rows lo hi st hs log = some (o, st', hs', log')) :
    POk log' → POk log ∧ stepOp callee cx bb tb env st (.slSl esz x lo hi) = some (o, st') := by
  unfold kSl at h
  split at h
  · rename_i hh p h1
    split at h
    · rename_i l q h2
      simp only [Option.some.injEq, Prod.mk.injEq] at h
      obtain ⟨rfl, rfl, rfl, rfl⟩ := h
      refine fun hl => ⟨hl.tail, ?_⟩
      obtain ⟨q1, q2, q3⟩ := hl.head
      simp only [stepOp, exec, x_slSl, hx, q1, if_true, kBound_ok h1 q2, kBound_ok h2 q3]
    · exact absurd h (by simp)
  · exact absurd h (by simp)
theorem kStep_ok {pi : PI} (h : kStep callee cx bb tb env st hs log pi = some (o, st', hs', log')) :
    POk log' → POk log ∧ stepOp callee cx bb tb env st pi = some (o, st') := by
  have gen : ∀ {pi : PI}, (match exec cx bb tb env st pi with | some (.val v st1) => kVal v st1 hs log | _ => none) = some (o, st', hs', log') → POk log' → POk log ∧ stepOp callee cx bb tb env st pi = some (o, st') := by
    intro pi h
    split at h
    · rename_i v st1 he
      have := kVal_ok h
      exact fun hl => by obtain ⟨q, rfl, rfl⟩ := this hl; exact ⟨q, by simp only [stepOp, he]⟩
    · exact absurd h (by simp)
  have gen2 : ∀ {pi : PI}, (match exec cx bb tb env st pi with | some (.val v st1) => some (Out.ret v, st1, hs, log) | _ => none) = some (o, st', hs', log') → POk log' → POk log ∧ stepOp callee cx bb tb env st pi = some (o, st') := by
    intro pi h
    split at h
    · rename_i v st1 he
      simp only [Option.some.injEq, Prod.mk.injEq] at h
      obtain ⟨rfl, rfl, rfl, rfl⟩ := h
      exact fun hl => ⟨hl, by simp only [stepOp, he]⟩
    · exact absurd h (by simp)
  cases pi with
  | bin op x y =>
    cases op with
    | quo => exact kQuo_ok (rem := false) h
    | rem => exact kQuo_ok (rem := true) h
    | _ => exact gen h
  | eqS ks neg x y => exact gen h
  | call f args =>
    simp only [kStep] at h
    split at h
    · rename_i v hs1
      simp only [Option.some.injEq, Prod.mk.injEq] at h
      obtain ⟨rfl, rfl, rfl, rfl⟩ := h
      exact fun hl => ⟨hl.tail, by simp only [stepOp, exec, x_call, hl.head]⟩
    · exact absurd h (by simp)
  | load ag n x =>
    simp only [kStep] at h
    split at h
    · rename_i b off hx; exact kLoad_ok hx h
    · exact gen2 h
  | store n a v =>
    simp only [kStep] at h
    split at h
    · rename_i b off hx; exact kStore_ok hx h
    · exact absurd h (by simp)
  | idxA esz x i =>
    simp only [kStep] at h
    split at h
    · rename_i k n hi
      split at h
      · exact absurd h (by simp)
      · rename_i hb
        split at h
        · rename_i rows hr; exact kIdx_ok hi hb hr h
        · exact absurd h (by simp)
    · exact absurd h (by simp)
  | app j esz bytes s x =>
    simp only [kStep] at h
    split at h
    · rename_i news hx; exact kApp_ok hx h
    · exact absurd h (by simp)
  | slSl esz x lo hi =>
    simp only [kStep] at h
    split at h
    · rename_i rows hx; exact kSl_ok hx h
    · exact absurd h (by simp)
  | _ => exact gen2 h

def kOps (callee : Callee) (cx : Cx) (bb tb : Nat) : List POp → Env → St → List Hint → PLog → Option (Env × St × List Hint × PLog)
  | [], env, st, hs, log => some (env, st, hs, log)
  | o :: rest, env, st, hs, log =>
    if wanted env o.guard then
      match kStep callee cx bb tb env st hs log o.pi with
      | some (.ret v, st', hs', log') => kOps callee cx bb tb rest (putE env o.dst v) st' hs' log'
      | _ => none
    else kOps callee cx bb tb rest (putE env o.dst undefA) st hs log
theorem kOps_ok {callee : Callee} {cx : Cx} {bb tb : Nat} : ∀ (ps : List POp) {env : Env} {st : St} {hs : List Hint} {log : PLog} {env' : Env} {st' : St} {hs' : List Hint} {log' : PLog},
    kOps callee cx bb tb ps env st hs log = some (env', st', hs', log') → POk log' → POk log ∧ runOps callee cx bb tb ps env st = some (.normal, env', st')
  | [], env, st, hs, log, env', st', hs', log', h => by
    simp only [kOps, Option.some.injEq, Prod.mk.injEq] at h
    obtain ⟨rfl, rfl, rfl, rfl⟩ := h
    exact fun hl => ⟨hl, rfl⟩
  | o :: rest, env, st, hs, log, env', st', hs', log', h => by
    simp only [kOps] at h
    simp only [runOps]
    split at h
    · rename_i hw
      rw [if_pos hw]
      split at h
      · rename_i v st1 hs1 log1 hst
        intro hl
        obtain ⟨h1, h2⟩ := kOps_ok rest h hl
        obtain ⟨h3, h4⟩ := kStep_ok hst h1
        exact ⟨h3, by rw [h4]; exact h2⟩
      · exact absurd h (by simp)
    · rename_i hw
      rw [if_neg hw]
      exact kOps_ok rest h
def appN {α : Type} (l : List α) : List α → List α
  | [] => l
  | m => l ++ m
theorem appN_eq {α : Type} (l m : List α) : appN l m = l ++ m := by cases m <;> simp [appN]
def kC (callee : Callee) (cx : Cx) : PC → Env → St → List Hint → PLog → Option (Ex × Env × St × List Hint × PLog)
  | .skip, env, st, hs, log => some (.normal, env, st, hs, log)
  | .region rz rt ops draw, env, st, hs, log =>
    (match kOps callee cx st.boxes.length st.toks.length ops env { boxes := appN st.boxes rz, toks := appN st.toks rt, maps := st.maps } hs log with
      | some (env', st', hs', log') => if draw && !(ops.all fun p => p.re.isNone) then
          some (.normal, env', st', hs', (recheck cx st.boxes.length st.toks.length (traceOps callee cx st.boxes.length st.toks.length ops env { boxes := appN st.boxes rz, toks := appN st.toks rt, maps := st.maps }) ops 0 = true) :: log')
        else some (.normal, env', st', hs', log')
      | none => none)
  | .seq a b, env, st, hs, log => (match kC callee cx a env st hs log with
    | some (.normal, env', st', hs', log') => kC callee cx b env' st' hs' log'
    | r => r)
  | .cond c x y, env, st, hs, log => (match c.ev env with
    | .d (.bool true) => kC callee cx x env st hs log
    | .d (.bool false) => kC callee cx y env st hs log
    | _ => none)
  | .block id c, env, st, hs, log => (match kC callee cx c env st hs log with
    | some (.exit id', env', st', hs', log') => if Nat.beq id' id then some (.normal, env', st', hs', log') else some (.exit id', env', st', hs', log')
    | r => r)
  | .exit id, env, st, hs, log => some (.exit id, env, st, hs, log)
  | .ret, env, st, hs, log => some (.ret, env, st, hs, log)
  | _, _, _, _, _ => none
theorem kC_ok {callee : Callee} {cx : Cx} {lf : Nat} (c : PC) : ∀ {env : Env} {st : St} {hs : List Hint} {log : PLog} {ex : Ex} {env' : Env} {st' : St} {hs' : List Hint} {log' : PLog},
    kC callee cx c env st hs log = some (ex, env', st', hs', log') → POk log' → POk log ∧ runC callee lf cx c env st = some (ex, env', st') := by
  induction c with
  | skip =>
    intro env st hs log ex env' st' hs' log' h
    simp only [kC, Option.some.injEq, Prod.mk.injEq] at h
    obtain ⟨rfl, rfl, rfl, rfl, rfl⟩ := h
    exact fun hl => ⟨hl, rfl⟩
  | region rz rt ops draw =>
    intro env st hs log ex env' st' hs' log' h hl
    simp only [kC] at h
    split at h
    · rename_i env1 st1 hs1 log1 h1
      split at h
      · rename_i hd
        simp only [Option.some.injEq, Prod.mk.injEq] at h
        obtain ⟨rfl, rfl, rfl, rfl, rfl⟩ := h
        obtain ⟨k1, k2⟩ := kOps_ok ops h1 hl.tail
        refine ⟨k1, ?_⟩
        have hr := hl.head
        simp only [appN_eq] at k2 hr
        simp only [Bool.and_eq_true] at hd
        simp only [runC, hd.1, if_true, runDraw, k2, hr, Bool.or_true]
      · rename_i hd
        simp only [Option.some.injEq, Prod.mk.injEq] at h
        obtain ⟨rfl, rfl, rfl, rfl, rfl⟩ := h
        simp only [appN_eq] at h1
        obtain ⟨k1, k2⟩ := kOps_ok ops h1 hl
        refine ⟨k1, ?_⟩
        simp only [runC]
        cases draw with
        | false => exact k2
        | true =>
          have : (ops.all fun p => p.re.isNone) = true := by simpa using hd
          simp only [if_true, runDraw, k2, this, Bool.true_or]
    · exact absurd h (by simp)
  | seq a b iha ihb =>
    intro env st hs log ex env' st' hs' log' h hl
    simp only [kC] at h
    split at h
    · rename_i env1 st1 hs1 log1 h1
      obtain ⟨k3, k4⟩ := ihb h hl
      obtain ⟨k1, k2⟩ := iha h1 k3
      exact ⟨k1, by simp only [runC, k2]; exact k4⟩
    · rename_i hn
      obtain ⟨k1, k2⟩ := iha h hl
      refine ⟨k1, ?_⟩
      simp only [runC, k2]
      split
      · rename_i he
        simp only [Option.some.injEq, Prod.mk.injEq] at he
        obtain ⟨rfl, rfl, rfl⟩ := he
        exact absurd h (hn _ _ _ _)
      · rfl
  | cond c x y ihx ihy =>
    intro env st hs log ex env' st' hs' log' h hl
    simp only [kC] at h
    split at h
    · rename_i hc
      obtain ⟨k1, k2⟩ := ihx h hl
      exact ⟨k1, by simp only [runC, hc]; exact k2⟩
    · rename_i hc
      obtain ⟨k1, k2⟩ := ihy h hl
      exact ⟨k1, by simp only [runC, hc]; exact k2⟩
    · exact absurd h (by simp)
  | block id c ih =>
    intro env st hs log ex env' st' hs' log' h hl
    simp only [kC] at h
    split at h
    · rename_i id' env1 st1 hs1 log1 h1
      split at h
      · rename_i hid
        simp only [Option.some.injEq, Prod.mk.injEq] at h
        obtain ⟨rfl, rfl, rfl, rfl, rfl⟩ := h
        obtain ⟨k1, k2⟩ := ih h1 hl
        exact ⟨k1, by simp only [runC, k2, if_pos (Nat.eq_of_beq_eq_true hid)]⟩
      · rename_i hid
        simp only [Option.some.injEq, Prod.mk.injEq] at h
        obtain ⟨rfl, rfl, rfl, rfl, rfl⟩ := h
        obtain ⟨k1, k2⟩ := ih h1 hl
        exact ⟨k1, by simp only [runC, k2]; rw [if_neg (fun e => hid (by rw [e]; exact Nat.beq_refl _))]⟩
    · rename_i hn
      obtain ⟨k1, k2⟩ := ih h hl
      refine ⟨k1, ?_⟩
      simp only [runC, k2]
      split
      · rename_i he
        simp only [Option.some.injEq, Prod.mk.injEq] at he
        obtain ⟨rfl, rfl, rfl⟩ := he
        exact absurd h (hn _ _ _ _ _)
      · rfl
  | exit id =>
    intro env st hs log ex env' st' hs' log' h
    simp only [kC, Option.some.injEq, Prod.mk.injEq] at h
    obtain ⟨rfl, rfl, rfl, rfl, rfl⟩ := h
    exact fun hl => ⟨hl, rfl⟩
  | ret =>
    intro env st hs log ex env' st' hs' log' h
    simp only [kC, Option.some.injEq, Prod.mk.injEq] at h
    obtain ⟨rfl, rfl, rfl, rfl, rfl⟩ := h
    exact fun hl => ⟨hl, rfl⟩
  | _ => intro env st hs log ex env' st' hs' log' h; exact absurd h (by simp [kC])
theorem kC_run {callee : Callee} {cx : Cx} {lf : Nat} {c : PC} {env : Env} {st : St} {hs hs' : List Hint} {ex : Ex} {env' : Env} {st' : St} {log' : PLog}
    (h : kC callee cx c env st hs [] = some (ex, env', st', hs', log')) (hl : POk log') : runC callee lf cx c env st = some (ex, env', st') := (kC_ok c h hl).2

/-- A loop that is left by its test after m rounds. -/
theorem iter_rounds {body : Env → St → Option (Ex × Env × St)} (E : Nat → Env × St → Prop) {m lf : Nat} (hlf : m < lf)
    (round : ∀ k q, k < m → E k q → ∃ q', body q.1 q.2 = some (.normal, q'.1, q'.2) ∧ E (k + 1) q') {e0 : Env} {s0 : St} (h0 : E 0 (e0, s0)) :
    ∃ q, E m q ∧ iter body lf e0 s0 = iter body (lf - m) q.1 q.2 := by
  have key : ∀ k, k ≤ m → ∃ q, E k q ∧ iter body lf e0 s0 = iter body (lf - k) q.1 q.2 := by
    intro k
    induction k with
    | zero => exact fun _ => ⟨(e0, s0), h0, rfl⟩
    | succ k ih =>
      intro hk
      obtain ⟨q, hq, he⟩ := ih (by omega)
      obtain ⟨q', hb, hq'⟩ := round k q (by omega) hq
      refine ⟨q', hq', he.trans ?_⟩
      have : lf - k = (lf - (k + 1)) + 1 := by omega
      rw [this]
      simp only [iter, hb]
  exact key m (Nat.le_refl _)
end Go.Rf

namespace Go.Rf
set_option linter.unusedVariables false
set_option linter.unusedSimpArgs false
def pcL : PC → PC
  | .seq a _ => a
  | c => c
def pcR : PC → PC
  | .seq _ b => b
  | c => c
def pcB : PC → PC
  | .block _ c => c
  | c => c
def pcO : PC → PC
  | .loop c => c
  | c => c
theorem set_last {α : Type} (l : List α) (z r : α) : (l ++ [z]).set (l.length + 0) r = l ++ [r] := by
  rw [List.set_append_right _ _ (by omega)]
  simp
theorem get_last {α : Type} (l : List α) (z : α) : (l ++ [z])[l.length + 0]? = some z := by simp
theorem get_old {α : Type} (l m : List α) {i : Nat} (h : i < l.length) : (l ++ m)[i]? = l[i]? := List.getElem?_append_left h
theorem loop_exit {callee : Callee} {lf : Nat} {cx : Cx} {id : Nat} {Q : PC} {env env' : Env} {st st' : St} (h : iter (fun e s => runC callee lf cx Q e s) lf env st = some (.exit id, env', st')) : runC callee lf cx (.block id (.loop Q)) env st = some (.normal, env', st') := by
  simp only [runC, h, if_true]
theorem loop_ret {callee : Callee} {lf : Nat} {cx : Cx} {id : Nat} {Q : PC} {env env' : Env} {st st' : St} (h : iter (fun e s => runC callee lf cx Q e s) lf env st = some (.ret, env', st')) : runC callee lf cx (.block id (.loop Q)) env st = some (.ret, env', st') := by
  simp only [runC, h]
theorem seq_normal {callee : Callee} {lf : Nat} {cx : Cx} {a b : PC} {env e1 : Env} {st s1 : St} {r : Option (Ex × Env × St)} (h : runC callee lf cx a env st = some (.normal, e1, s1)) (k : runC callee lf cx b e1 s1 = r) : runC callee lf cx (.seq a b) env st = r := by
  simp only [runC, h, k]
theorem seq_ret {callee : Callee} {lf : Nat} {cx : Cx} {a b : PC} {env e1 : Env} {st s1 : St} (h : runC callee lf cx a env st = some (.ret, e1, s1)) : runC callee lf cx (.seq a b) env st = some (.ret, e1, s1) := by
  simp only [runC, h]

/-- The first row with a name. -/
def nameIs (q : List Nat) : List D → Bool
  | .str a :: _ => beqN a q
  | _ => false
def findR (q : List Nat) : List (List D) → Option (List D)
  | [] => none
  | r :: rs => if nameIs q r then some r else findR q rs
theorem findR_cases (q : List Nat) : ∀ rows : List (List D), (findR q rows = none ∧ ∀ r, r ∈ rows → nameIs q r = false) ∨ ∃ l1 r l2, rows = l1 ++ r :: l2 ∧ findR q rows = some r ∧ nameIs q r = true ∧ ∀ r, r ∈ l1 → nameIs q r = false
  | [] => .inl ⟨rfl, fun r h => by simp at h⟩
  | a :: rs => by
    cases h : nameIs q a with
    | true => exact .inr ⟨[], a, rs, rfl, by simp [findR, h], h, fun r hr => by simp at hr⟩
    | false =>
      rcases findR_cases q rs with ⟨h1, h2⟩ | ⟨l1, r, l2, h1, h2, h3, h4⟩
      · refine .inl ⟨by simp [findR, h, h1], fun r hr => ?_⟩
        rcases List.mem_cons.1 hr with rfl | hr
        · exact h
        · exact h2 r hr
      · refine .inr ⟨a :: l1, r, l2, by rw [h1]; rfl, by simp [findR, h, h2], h3, fun r hr => ?_⟩
        rcases List.mem_cons.1 hr with rfl | hr
        · exact h
        · exact h4 r hr
theorem wrap_small {x : Int} (h0 : -9223372036854775808 ≤ x) (h1 : x ≤ 9223372036854775807) : IntKind.wrap .i64 x = x := by rw [IntKind.wrap_i64]; omega
theorem iter_stop {body : Env → St → Option (Ex × Env × St)} {j : Nat} {env e' : Env} {st s' : St} {ex : Ex} (h : body env st = some (ex, e', s')) (hne : ex ≠ .normal) : iter body (j + 1) env st = some (ex, e', s') := by
  simp only [iter, h]
  cases ex <;> first | rfl | exact absurd rfl hne
theorem leave_find {pf : PFn} {st st' : St} {env : Env} {w N0 : Nat} {v5 out : AV} {cs : List AV} (hq : pf.quiet = true) (hr : pf.res = [.cell true w 4, .t 5]) (h4 : env.getD 4 undefA = .ptr N0 0) (h5 : env.getD 5 undefA = v5)
    (hb : st'.boxes[N0]? = some cs) (hw : 0 + w ≤ cs.length) (hf : freeze ⟨st.boxes.length, st.toks.length, st.maps.length⟩ (.tup [.agg ((cs.drop 0).take w), v5]) = some out) : leave pf st (some (.ret, env, st')) = some (.ret out, st) := by
  simp only [leave, hr, readAll, readRes, h4, h5, hb, if_true, if_pos hw, hq, packRes, hf]
end Go.Rf

namespace Go.Rf
set_option maxRecDepth 100000
set_option linter.unusedVariables false
set_option linter.unusedSimpArgs false
def segA (nm en : List Nat) (ct rp cn eo ev ea : Int) (rq pn pl ek : List (List D)) : AV := .agg [.d (.str nm), .d (.int .i64 ct), .d (.int .i64 rp), .d (.int .i64 cn), .d (.sl rq), .d (.sl pn), .d (.sl pl), .d (.int .i64 eo), .d (.str en), .d (.int .i64 ev), .d (.sl ek), .d (.int .i64 ea)]
theorem s24_a {callee : Callee} {cx : Cx} (B : List (List AV)) (T : List (Nat × Nat)) (M : List (List (D × D))) (nm q en : List Nat) (ct rp cn eo ev ea : Int) (rq pn pl ek : List (List D)) : kC callee cx (pcL pf24.body) [.agg [.d (.str nm), .d (.int .i64 ct), .d (.int .i64 rp), .d (.int .i64 cn), .d (.sl rq), .d (.sl pn), .d (.sl pl), .d (.int .i64 eo), .d (.str en), .d (.int .i64 ev), .d (.sl ek), .d (.int .i64 ea)], .d (.str q), undefA, undefA, undefA, undefA, undefA, undefA, undefA, undefA, undefA, undefA, undefA, undefA, undefA, undefA, undefA, undefA, undefA, undefA, undefA, undefA] ⟨B, T, M⟩ [] [] = some (.normal, [.agg [.d (.str nm), .d (.int .i64 ct), .d (.int .i64 rp), .d (.int .i64 cn), .d (.sl rq), .d (.sl pn), .d (.sl pl), .d (.int .i64 eo), .d (.str en), .d (.int .i64 ev), .d (.sl ek), .d (.int .i64 ea)], .d (.str q), .ptr (List.length ((B ++ [[.d (.str []), .d (.int .i64 0), .d (.int .i64 0), .d (.int .i64 0), .d (.int .i64 0), .d (.int .i64 0), .d (.int .i64 0), .d (.int .i64 0), .d (.int .i64 0), .d (.int .i64 0)]]))) 0, undefA, .ptr (List.length B + 0) 0, .d (.int .i64 0), undefA, undefA, undefA, undefA, undefA, undefA, undefA, undefA, undefA, undefA, undefA, undefA, undefA, undefA, undefA, undefA], ⟨((B ++ [[.d (.str []), .d (.int .i64 0), .d (.int .i64 0), .d (.int .i64 0), .d (.int .i64 0), .d (.int .i64 0), .d (.int .i64 0), .d (.int .i64 0), .d (.int .i64 0), .d (.int .i64 0)]]) ++ [[.d (.str nm), .d (.int .i64 ct), .d (.int .i64 rp), .d (.int .i64 cn), .d (.sl rq), .d (.sl pn), .d (.sl pl), .d (.int .i64 eo), .d (.str en), .d (.int .i64 ev), .d (.sl ek), .d (.int .i64 ea)]]), T, M⟩, [], []) := by kernel_rfl
theorem s24_i {callee : Callee} {cx : Cx} (B : List (List AV)) (T : List (Nat × Nat)) (M : List (List (D × D))) (nm q en : List Nat) (ct rp cn eo ev ea : Int) (rq pn pl ek : List (List D)) (N0 N1 : Nat) : kC callee cx (pcL (pcL (pcR pf24.body))) [.agg [.d (.str nm), .d (.int .i64 ct), .d (.int .i64 rp), .d (.int .i64 cn), .d (.sl rq), .d (.sl pn), .d (.sl pl), .d (.int .i64 eo), .d (.str en), .d (.int .i64 ev), .d (.sl ek), .d (.int .i64 ea)], .d (.str q), .ptr N1 0, undefA, .ptr N0 0, .d (.int .i64 0), undefA, undefA, undefA, undefA, undefA, undefA, undefA, undefA, undefA, undefA, undefA, undefA, undefA, undefA, undefA, undefA] ⟨B, T, M⟩ [.c [.d (.str nm), .d (.int .i64 ct), .d (.int .i64 rp), .d (.int .i64 cn), .d (.sl rq), .d (.sl pn), .d (.sl pl), .d (.int .i64 eo), .d (.str en), .d (.int .i64 ev), .d (.sl ek), .d (.int .i64 ea)]] [] = some (.normal, [.agg [.d (.str nm), .d (.int .i64 ct), .d (.int .i64 rp), .d (.int .i64 cn), .d (.sl rq), .d (.sl pn), .d (.sl pl), .d (.int .i64 eo), .d (.str en), .d (.int .i64 ev), .d (.sl ek), .d (.int .i64 ea)], .d (.str q), .ptr N1 0, undefA, .ptr N0 0, .d (.int .i64 0), undefA, undefA, .ptr N1 6, .d (.sl pl), .d (.int .i64 ((List.length pl : Nat) : Int)), .d (.int .i64 0), undefA, undefA, undefA, undefA, undefA, undefA, undefA, undefA, undefA, undefA], ⟨B, T, M⟩, [], [B[N1]? = some [.d (.str nm), .d (.int .i64 ct), .d (.int .i64 rp), .d (.int .i64 cn), .d (.sl rq), .d (.sl pn), .d (.sl pl), .d (.int .i64 eo), .d (.str en), .d (.int .i64 ev), .d (.sl ek), .d (.int .i64 ea)]]) := by kernel_rfl
def E24 (nm q en : List Nat) (ct rp cn eo ev ea : Int) (rq pn pl ek : List (List D)) (N0 N1 : Nat) (k : Int) (x7 x12 x13 x14 x15 x16 x17 x18 x19 x20 : AV) : Env := [.agg [.d (.str nm), .d (.int .i64 ct), .d (.int .i64 rp), .d (.int .i64 cn), .d (.sl rq), .d (.sl pn), .d (.sl pl), .d (.int .i64 eo), .d (.str en), .d (.int .i64 ev), .d (.sl ek), .d (.int .i64 ea)], .d (.str q), .ptr N1 0, undefA, .ptr N0 0, .d (.int .i64 0), undefA, x7, .ptr N1 6, .d (.sl pl), .d (.int .i64 ((List.length pl : Nat) : Int)), .d (.int .i64 k), x12, x13, x14, x15, x16, x17, x18, x19, x20, undefA]
theorem s24_miss {callee : Callee} {cx : Cx} (B : List (List AV)) (T : List (Nat × Nat)) (M : List (List (D × D))) (nm q en : List Nat) (ct rp cn eo ev ea : Int) (rq pn pl ek : List (List D)) (N0 N1 : Nat) (k : Int) (x7 x12 x13 x14 x15 x16 x17 x18 x19 x20 : AV) (a : List Nat) (k1 k2 k3 k4 k5 k6 k7 k8 k9 : Int) : kC callee cx (pcO (pcB (pcR (pcL (pcR pf24.body))))) [.agg [.d (.str nm), .d (.int .i64 ct), .d (.int .i64 rp), .d (.int .i64 cn), .d (.sl rq), .d (.sl pn), .d (.sl pl), .d (.int .i64 eo), .d (.str en), .d (.int .i64 ev), .d (.sl ek), .d (.int .i64 ea)], .d (.str q), .ptr N1 0, undefA, .ptr N0 0, .d (.int .i64 0), undefA, x7, .ptr N1 6, .d (.sl pl), .d (.int .i64 ((List.length pl : Nat) : Int)), .d (.int .i64 k), x12, x13, x14, x15, x16, x17, x18, x19, x20, undefA] ⟨B, T, M⟩ [.b true, .r [.str a, .int .i64 k1, .int .i64 k2, .int .i64 k3, .int .i64 k4, .int .i64 k5, .int .i64 k6, .int .i64 k7, .int .i64 k8, .int .i64 k9], .c [.d (.str []), .d (.int .i64 0), .d (.int .i64 0), .d (.int .i64 0), .d (.int .i64 0), .d (.int .i64 0), .d (.int .i64 0), .d (.int .i64 0), .d (.int .i64 0), .d (.int .i64 0)], .c [.d (.str a), .d (.int .i64 k1), .d (.int .i64 k2), .d (.int .i64 k3), .d (.int .i64 k4), .d (.int .i64 k5), .d (.int .i64 k6), .d (.int .i64 k7), .d (.int .i64 k8), .d (.int .i64 k9)], .b false] [] = some (.normal, [.agg [.d (.str nm), .d (.int .i64 ct), .d (.int .i64 rp), .d (.int .i64 cn), .d (.sl rq), .d (.sl pn), .d (.sl pl), .d (.int .i64 eo), .d (.str en), .d (.int .i64 ev), .d (.sl ek), .d (.int .i64 ea)], .d (.str q), .ptr N1 0, undefA, .ptr N0 0, .d (.int .i64 0), undefA, .ptr (List.length B + 0) 0, .ptr N1 6, .d (.sl pl), .d (.int .i64 ((List.length pl : Nat) : Int)), .d (.int .i64 (IntKind.wrap .i64 (k + 1))), .d (.bool true), .cptr [.str a, .int .i64 k1, .int .i64 k2, .int .i64 k3, .int .i64 k4, .int .i64 k5, .int .i64 k6, .int .i64 k7, .int .i64 k8, .int .i64 k9], .agg [.d (.str a), .d (.int .i64 k1), .d (.int .i64 k2), .d (.int .i64 k3), .d (.int .i64 k4), .d (.int .i64 k5), .d (.int .i64 k6), .d (.int .i64 k7), .d (.int .i64 k8), .d (.int .i64 k9)], .ptr (List.length B + 0) 0, .d (.str a), .d (.str q), .d (.bool false), x19, .d (.int .i64 (IntKind.wrap .i64 (k + 1))), undefA], ⟨(List.set ((B ++ [[.d (.str []), .d (.int .i64 0), .d (.int .i64 0), .d (.int .i64 0), .d (.int .i64 0), .d (.int .i64 0), .d (.int .i64 0), .d (.int .i64 0), .d (.int .i64 0), .d (.int .i64 0)]])) ((List.length B + 0)) [.d (.str a), .d (.int .i64 k1), .d (.int .i64 k2), .d (.int .i64 k3), .d (.int .i64 k4), .d (.int .i64 k5), .d (.int .i64 k6), .d (.int .i64 k7), .d (.int .i64 k8), .d (.int .i64 k9)]), T, M⟩, [], [(beqN a q) = false, ((List.set ((B ++ [[.d (.str []), .d (.int .i64 0), .d (.int .i64 0), .d (.int .i64 0), .d (.int .i64 0), .d (.int .i64 0), .d (.int .i64 0), .d (.int .i64 0), .d (.int .i64 0), .d (.int .i64 0)]])) ((List.length B + 0)) [.d (.str a), .d (.int .i64 k1), .d (.int .i64 k2), .d (.int .i64 k3), .d (.int .i64 k4), .d (.int .i64 k5), .d (.int .i64 k6), .d (.int .i64 k7), .d (.int .i64 k8), .d (.int .i64 k9)]))[(List.length B + 0)]? = some [.d (.str a), .d (.int .i64 k1), .d (.int .i64 k2), .d (.int .i64 k3), .d (.int .i64 k4), .d (.int .i64 k5), .d (.int .i64 k6), .d (.int .i64 k7), .d (.int .i64 k8), .d (.int .i64 k9)], ((B ++ [[.d (.str []), .d (.int .i64 0), .d (.int .i64 0), .d (.int .i64 0), .d (.int .i64 0), .d (.int .i64 0), .d (.int .i64 0), .d (.int .i64 0), .d (.int .i64 0), .d (.int .i64 0)]]))[(List.length B + 0)]? = some [.d (.str []), .d (.int .i64 0), .d (.int .i64 0), .d (.int .i64 0), .d (.int .i64 0), .d (.int .i64 0), .d (.int .i64 0), .d (.int .i64 0), .d (.int .i64 0), .d (.int .i64 0)] ∧ cx.b ≤ (List.length B + 0) ∧ underL ((List.length B + 0)) [.d (.str a), .d (.int .i64 k1), .d (.int .i64 k2), .d (.int .i64 k3), .d (.int .i64 k4), .d (.int .i64 k5), .d (.int .i64 k6), .d (.int .i64 k7), .d (.int .i64 k8), .d (.int .i64 k9)] = true, 0 ≤ k ∧ pl[Int.toNat k]? = some [.str a, .int .i64 k1, .int .i64 k2, .int .i64 k3, .int .i64 k4, .int .i64 k5, .int .i64 k6, .int .i64 k7, .int .i64 k8, .int .i64 k9], (decide (k < ((List.length pl : Nat) : Int))) = true]) := by kernel_rfl
theorem s24_hit {callee : Callee} {cx : Cx} (B : List (List AV)) (T : List (Nat × Nat)) (M : List (List (D × D))) (nm q en : List Nat) (ct rp cn eo ev ea : Int) (rq pn pl ek : List (List D)) (N0 N1 : Nat) (k : Int) (x7 x12 x13 x14 x15 x16 x17 x18 x19 x20 : AV) (a : List Nat) (k1 k2 k3 k4 k5 k6 k7 k8 k9 : Int) : kC callee cx (pcO (pcB (pcR (pcL (pcR pf24.body))))) [.agg [.d (.str nm), .d (.int .i64 ct), .d (.int .i64 rp), .d (.int .i64 cn), .d (.sl rq), .d (.sl pn), .d (.sl pl), .d (.int .i64 eo), .d (.str en), .d (.int .i64 ev), .d (.sl ek), .d (.int .i64 ea)], .d (.str q), .ptr N1 0, undefA, .ptr N0 0, .d (.int .i64 0), undefA, x7, .ptr N1 6, .d (.sl pl), .d (.int .i64 ((List.length pl : Nat) : Int)), .d (.int .i64 k), x12, x13, x14, x15, x16, x17, x18, x19, x20, undefA] ⟨B, T, M⟩ [.b true, .r [.str a, .int .i64 k1, .int .i64 k2, .int .i64 k3, .int .i64 k4, .int .i64 k5, .int .i64 k6, .int .i64 k7, .int .i64 k8, .int .i64 k9], .c [.d (.str []), .d (.int .i64 0), .d (.int .i64 0), .d (.int .i64 0), .d (.int .i64 0), .d (.int .i64 0), .d (.int .i64 0), .d (.int .i64 0), .d (.int .i64 0), .d (.int .i64 0)], .c [.d (.str a), .d (.int .i64 k1), .d (.int .i64 k2), .d (.int .i64 k3), .d (.int .i64 k4), .d (.int .i64 k5), .d (.int .i64 k6), .d (.int .i64 k7), .d (.int .i64 k8), .d (.int .i64 k9)], .b true, .c [.d (.str a), .d (.int .i64 k1), .d (.int .i64 k2), .d (.int .i64 k3), .d (.int .i64 k4), .d (.int .i64 k5), .d (.int .i64 k6), .d (.int .i64 k7), .d (.int .i64 k8), .d (.int .i64 k9)], .c [.d (.str []), .d (.int .i64 0), .d (.int .i64 0), .d (.int .i64 0), .d (.int .i64 0), .d (.int .i64 0), .d (.int .i64 0), .d (.int .i64 0), .d (.int .i64 0), .d (.int .i64 0)]] [] = some (.ret, [.agg [.d (.str nm), .d (.int .i64 ct), .d (.int .i64 rp), .d (.int .i64 cn), .d (.sl rq), .d (.sl pn), .d (.sl pl), .d (.int .i64 eo), .d (.str en), .d (.int .i64 ev), .d (.sl ek), .d (.int .i64 ea)], .d (.str q), .ptr N1 0, undefA, .ptr N0 0, .d (.int .i64 0), undefA, .ptr (List.length B + 0) 0, .ptr N1 6, .d (.sl pl), .d (.int .i64 ((List.length pl : Nat) : Int)), .d (.int .i64 k), .d (.bool true), .cptr [.str a, .int .i64 k1, .int .i64 k2, .int .i64 k3, .int .i64 k4, .int .i64 k5, .int .i64 k6, .int .i64 k7, .int .i64 k8, .int .i64 k9], .agg [.d (.str a), .d (.int .i64 k1), .d (.int .i64 k2), .d (.int .i64 k3), .d (.int .i64 k4), .d (.int .i64 k5), .d (.int .i64 k6), .d (.int .i64 k7), .d (.int .i64 k8), .d (.int .i64 k9)], .ptr (List.length B + 0) 0, .d (.str a), .d (.str q), .d (.bool true), .agg [.d (.str a), .d (.int .i64 k1), .d (.int .i64 k2), .d (.int .i64 k3), .d (.int .i64 k4), .d (.int .i64 k5), .d (.int .i64 k6), .d (.int .i64 k7), .d (.int .i64 k8), .d (.int .i64 k9)], x20, undefA], ⟨(List.set ((List.set ((B ++ [[.d (.str []), .d (.int .i64 0), .d (.int .i64 0), .d (.int .i64 0), .d (.int .i64 0), .d (.int .i64 0), .d (.int .i64 0), .d (.int .i64 0), .d (.int .i64 0), .d (.int .i64 0)]])) ((List.length B + 0)) [.d (.str a), .d (.int .i64 k1), .d (.int .i64 k2), .d (.int .i64 k3), .d (.int .i64 k4), .d (.int .i64 k5), .d (.int .i64 k6), .d (.int .i64 k7), .d (.int .i64 k8), .d (.int .i64 k9)])) N0 [.d (.str a), .d (.int .i64 k1), .d (.int .i64 k2), .d (.int .i64 k3), .d (.int .i64 k4), .d (.int .i64 k5), .d (.int .i64 k6), .d (.int .i64 k7), .d (.int .i64 k8), .d (.int .i64 k9)]), T, M⟩, [], [((List.set ((B ++ [[.d (.str []), .d (.int .i64 0), .d (.int .i64 0), .d (.int .i64 0), .d (.int .i64 0), .d (.int .i64 0), .d (.int .i64 0), .d (.int .i64 0), .d (.int .i64 0), .d (.int .i64 0)]])) ((List.length B + 0)) [.d (.str a), .d (.int .i64 k1), .d (.int .i64 k2), .d (.int .i64 k3), .d (.int .i64 k4), .d (.int .i64 k5), .d (.int .i64 k6), .d (.int .i64 k7), .d (.int .i64 k8), .d (.int .i64 k9)]))[N0]? = some [.d (.str []), .d (.int .i64 0), .d (.int .i64 0), .d (.int .i64 0), .d (.int .i64 0), .d (.int .i64 0), .d (.int .i64 0), .d (.int .i64 0), .d (.int .i64 0), .d (.int .i64 0)] ∧ cx.b ≤ N0 ∧ underL N0 [.d (.str a), .d (.int .i64 k1), .d (.int .i64 k2), .d (.int .i64 k3), .d (.int .i64 k4), .d (.int .i64 k5), .d (.int .i64 k6), .d (.int .i64 k7), .d (.int .i64 k8), .d (.int .i64 k9)] = true, ((List.set ((B ++ [[.d (.str []), .d (.int .i64 0), .d (.int .i64 0), .d (.int .i64 0), .d (.int .i64 0), .d (.int .i64 0), .d (.int .i64 0), .d (.int .i64 0), .d (.int .i64 0), .d (.int .i64 0)]])) ((List.length B + 0)) [.d (.str a), .d (.int .i64 k1), .d (.int .i64 k2), .d (.int .i64 k3), .d (.int .i64 k4), .d (.int .i64 k5), .d (.int .i64 k6), .d (.int .i64 k7), .d (.int .i64 k8), .d (.int .i64 k9)]))[(List.length B + 0)]? = some [.d (.str a), .d (.int .i64 k1), .d (.int .i64 k2), .d (.int .i64 k3), .d (.int .i64 k4), .d (.int .i64 k5), .d (.int .i64 k6), .d (.int .i64 k7), .d (.int .i64 k8), .d (.int .i64 k9)], (beqN a q) = true, ((List.set ((B ++ [[.d (.str []), .d (.int .i64 0), .d (.int .i64 0), .d (.int .i64 0), .d (.int .i64 0), .d (.int .i64 0), .d (.int .i64 0), .d (.int .i64 0), .d (.int .i64 0), .d (.int .i64 0)]])) ((List.length B + 0)) [.d (.str a), .d (.int .i64 k1), .d (.int .i64 k2), .d (.int .i64 k3), .d (.int .i64 k4), .d (.int .i64 k5), .d (.int .i64 k6), .d (.int .i64 k7), .d (.int .i64 k8), .d (.int .i64 k9)]))[(List.length B + 0)]? = some [.d (.str a), .d (.int .i64 k1), .d (.int .i64 k2), .d (.int .i64 k3), .d (.int .i64 k4), .d (.int .i64 k5), .d (.int .i64 k6), .d (.int .i64 k7), .d (.int .i64 k8), .d (.int .i64 k9)], ((B ++ [[.d (.str []), .d (.int .i64 0), .d (.int .i64 0), .d (.int .i64 0), .d (.int .i64 0), .d (.int .i64 0), .d (.int .i64 0), .d (.int .i64 0), .d (.int .i64 0), .d (.int .i64 0)]]))[(List.length B + 0)]? = some [.d (.str []), .d (.int .i64 0), .d (.int .i64 0), .d (.int .i64 0), .d (.int .i64 0), .d (.int .i64 0), .d (.int .i64 0), .d (.int .i64 0), .d (.int .i64 0), .d (.int .i64 0)] ∧ cx.b ≤ (List.length B + 0) ∧ underL ((List.length B + 0)) [.d (.str a), .d (.int .i64 k1), .d (.int .i64 k2), .d (.int .i64 k3), .d (.int .i64 k4), .d (.int .i64 k5), .d (.int .i64 k6), .d (.int .i64 k7), .d (.int .i64 k8), .d (.int .i64 k9)] = true, 0 ≤ k ∧ pl[Int.toNat k]? = some [.str a, .int .i64 k1, .int .i64 k2, .int .i64 k3, .int .i64 k4, .int .i64 k5, .int .i64 k6, .int .i64 k7, .int .i64 k8, .int .i64 k9], (decide (k < ((List.length pl : Nat) : Int))) = true]) := by kernel_rfl
theorem s24_out {callee : Callee} {cx : Cx} (B : List (List AV)) (T : List (Nat × Nat)) (M : List (List (D × D))) (nm q en : List Nat) (ct rp cn eo ev ea : Int) (rq pn pl ek : List (List D)) (N0 N1 : Nat) (k : Int) (x7 x12 x13 x14 x15 x16 x17 x18 x19 x20 : AV) : kC callee cx (pcO (pcB (pcR (pcL (pcR pf24.body))))) [.agg [.d (.str nm), .d (.int .i64 ct), .d (.int .i64 rp), .d (.int .i64 cn), .d (.sl rq), .d (.sl pn), .d (.sl pl), .d (.int .i64 eo), .d (.str en), .d (.int .i64 ev), .d (.sl ek), .d (.int .i64 ea)], .d (.str q), .ptr N1 0, undefA, .ptr N0 0, .d (.int .i64 0), undefA, x7, .ptr N1 6, .d (.sl pl), .d (.int .i64 ((List.length pl : Nat) : Int)), .d (.int .i64 k), x12, x13, x14, x15, x16, x17, x18, x19, x20, undefA] ⟨B, T, M⟩ [.b false] [] = some (.exit 0, [.agg [.d (.str nm), .d (.int .i64 ct), .d (.int .i64 rp), .d (.int .i64 cn), .d (.sl rq), .d (.sl pn), .d (.sl pl), .d (.int .i64 eo), .d (.str en), .d (.int .i64 ev), .d (.sl ek), .d (.int .i64 ea)], .d (.str q), .ptr N1 0, undefA, .ptr N0 0, .d (.int .i64 0), undefA, x7, .ptr N1 6, .d (.sl pl), .d (.int .i64 ((List.length pl : Nat) : Int)), .d (.int .i64 k), .d (.bool false), x13, x14, x15, x16, x17, x18, x19, x20, undefA], ⟨B, T, M⟩, [], [(decide (k < ((List.length pl : Nat) : Int))) = false]) := by kernel_rfl
theorem s24_z {callee : Callee} {cx : Cx} (B : List (List AV)) (T : List (Nat × Nat)) (M : List (List (D × D))) (nm q en : List Nat) (ct rp cn eo ev ea : Int) (rq pn pl ek : List (List D)) (N0 N1 : Nat) (k : Int) (x7 x12 x13 x14 x15 x16 x17 x18 x19 x20 : AV) : kC callee cx (pcR (pcR pf24.body)) [.agg [.d (.str nm), .d (.int .i64 ct), .d (.int .i64 rp), .d (.int .i64 cn), .d (.sl rq), .d (.sl pn), .d (.sl pl), .d (.int .i64 eo), .d (.str en), .d (.int .i64 ev), .d (.sl ek), .d (.int .i64 ea)], .d (.str q), .ptr N1 0, undefA, .ptr N0 0, .d (.int .i64 0), undefA, x7, .ptr N1 6, .d (.sl pl), .d (.int .i64 ((List.length pl : Nat) : Int)), .d (.int .i64 k), .d (.bool false), x13, x14, x15, x16, x17, x18, x19, x20, undefA] ⟨B, T, M⟩ [.c [.d (.str []), .d (.int .i64 0), .d (.int .i64 0), .d (.int .i64 0), .d (.int .i64 0), .d (.int .i64 0), .d (.int .i64 0), .d (.int .i64 0), .d (.int .i64 0), .d (.int .i64 0)]] [] = some (.ret, [.agg [.d (.str nm), .d (.int .i64 ct), .d (.int .i64 rp), .d (.int .i64 cn), .d (.sl rq), .d (.sl pn), .d (.sl pl), .d (.int .i64 eo), .d (.str en), .d (.int .i64 ev), .d (.sl ek), .d (.int .i64 ea)], .d (.str q), .ptr N1 0, undefA, .ptr N0 0, .d (.int .i64 3), undefA, x7, .ptr N1 6, .d (.sl pl), .d (.int .i64 ((List.length pl : Nat) : Int)), .d (.int .i64 k), .d (.bool false), x13, x14, x15, x16, x17, x18, x19, x20, .agg [.d (.str []), .d (.int .i64 0), .d (.int .i64 0), .d (.int .i64 0), .d (.int .i64 0), .d (.int .i64 0), .d (.int .i64 0), .d (.int .i64 0), .d (.int .i64 0), .d (.int .i64 0)]], ⟨(List.set B N0 [.d (.str []), .d (.int .i64 0), .d (.int .i64 0), .d (.int .i64 0), .d (.int .i64 0), .d (.int .i64 0), .d (.int .i64 0), .d (.int .i64 0), .d (.int .i64 0), .d (.int .i64 0)]), T, M⟩, [], [B[N0]? = some [.d (.str []), .d (.int .i64 0), .d (.int .i64 0), .d (.int .i64 0), .d (.int .i64 0), .d (.int .i64 0), .d (.int .i64 0), .d (.int .i64 0), .d (.int .i64 0), .d (.int .i64 0)] ∧ cx.b ≤ N0 ∧ underL N0 [.d (.str []), .d (.int .i64 0), .d (.int .i64 0), .d (.int .i64 0), .d (.int .i64 0), .d (.int .i64 0), .d (.int .i64 0), .d (.int .i64 0), .d (.int .i64 0), .d (.int .i64 0)] = true]) := by kernel_rfl
def Row24 (r : List D) : Prop := ∃ a k1 k2 k3 k4 k5 k6 k7 k8 k9, r = [.str a, .int .i64 k1, .int .i64 k2, .int .i64 k3, .int .i64 k4, .int .i64 k5, .int .i64 k6, .int .i64 k7, .int .i64 k8, .int .i64 k9]
theorem round24 {callee : Callee} {cx : Cx} {lf : Nat} {B : List (List AV)} {T : List (Nat × Nat)} {M : List (List (D × D))} {nm q en : List Nat} {ct rp cn eo ev ea : Int} {rq pn pl ek : List (List D)} {N0 N1 : Nat} (hcx : cx.b ≤ B.length) (hlen : (pl).length < 9223372036854775808)
    (hrow : ∀ r, r ∈ pl → Row24 r) (k : Nat) (hk : k < (pl).length) (hmiss : ∀ r, pl[k]? = some r → nameIs q r = false) (x : Env × St) (hx : ∃ X : List (List AV), ∃ x7 x12 x13 x14 x15 x16 x17 x18 x19 x20 : AV, x = (E24 nm q en ct rp cn eo ev ea rq pn pl ek N0 N1 (k : Int) x7 x12 x13 x14 x15 x16 x17 x18 x19 x20, ⟨B ++ X, T, M⟩)) :
    ∃ y : Env × St, runC callee lf cx (pcO (pcB (pcR (pcL (pcR pf24.body))))) x.1 x.2 = some (.normal, y.1, y.2) ∧ ∃ X : List (List AV), ∃ x7 x12 x13 x14 x15 x16 x17 x18 x19 x20 : AV, y = (E24 nm q en ct rp cn eo ev ea rq pn pl ek N0 N1 ((k + 1 : Nat) : Int) x7 x12 x13 x14 x15 x16 x17 x18 x19 x20, ⟨B ++ X, T, M⟩) := by
  obtain ⟨X, x7, x12, x13, x14, x15, x16, x17, x18, x19, x20, rfl⟩ := hx
  obtain ⟨r, hr⟩ : ∃ r, pl[k]? = some r := ⟨_, List.getElem?_eq_getElem hk⟩
  obtain ⟨a, k1, k2, k3, k4, k5, k6, k7, k8, k9, rfl⟩ := hrow r (List.mem_of_getElem? hr)
  have hm := hmiss _ hr
  have h := kC_run (lf := lf) (s24_miss (callee := callee) (cx := cx) (B ++ X) T M nm q en ct rp cn eo ev ea rq pn pl ek N0 N1 (k : Int) x7 x12 x13 x14 x15 x16 x17 x18 x19 x20 a k1 k2 k3 k4 k5 k6 k7 k8 k9)
    (POk.cons hm (POk.cons (by rw [set_last]; simp) (POk.cons ⟨get_last _ _, by simp; omega, rfl⟩ (POk.cons ⟨by omega, by simpa using hr⟩ (POk.cons (by simp; omega) POk.nil)))))
  rw [set_last] at h
  have hw : IntKind.wrap .i64 ((k : Int) + 1) = ((k + 1 : Nat) : Int) := by rw [wrap_small (by omega) (by omega)]; simp
  rw [hw] at h
  rw [List.append_assoc] at h
  exact ⟨(_, _), h, X ++ [[.d (.str a), .d (.int .i64 k1), .d (.int .i64 k2), .d (.int .i64 k3), .d (.int .i64 k4), .d (.int .i64 k5), .d (.int .i64 k6), .d (.int .i64 k7), .d (.int .i64 k8), .d (.int .i64 k9)]], _, _, _, _, _, _, _, _, _, _, rfl⟩
theorem run24 {giv : Nat → Option (List AV → Cx → St → Option (Out × St))} {n : Nat} (hg : giv 24 = none) (nm q en : List Nat) (ct rp cn eo ev ea : Int) (rq pn pl ek : List (List D)) (hlen : pl.length < 9223372036854775808) (hn : pl.length < n)
    (hrow : ∀ r, r ∈ pl → Row24 r) (cx : Cx) (st : St) : run giv tbl2 (n + 1) 24 [segA nm en ct rp cn eo ev ea rq pn pl ek, .d (.str q)] cx st =
      some (.ret (match findR q pl with | some r => .tup [.agg (r.map .d), .d (.int .i64 0)] | none => .tup [.agg [.d (.str []), .d (.int .i64 0), .d (.int .i64 0), .d (.int .i64 0), .d (.int .i64 0), .d (.int .i64 0), .d (.int .i64 0), .d (.int .i64 0), .d (.int .i64 0), .d (.int .i64 0)], .d (.int .i64 3)]), st) := by
  obtain ⟨B, T, M⟩ := st
  have hrun : run giv tbl2 (n + 1) 24 [segA nm en ct rp cn eo ev ea rq pn pl ek, .d (.str q)] cx ⟨B, T, M⟩ = leave pf24 ⟨B, T, M⟩ (runC (run giv tbl2 n) n (cxOf pf24 cx ⟨B, T, M⟩) pf24.body (enter pf24 [segA nm en ct rp cn eo ev ea rq pn pl ek, .d (.str q)]) ⟨B, T, M⟩) := by
    simp only [run, hg]; rfl
  rw [hrun]
  have hcx : cxOf pf24 cx ⟨B, T, M⟩ = ⟨B.length, T.length, M.length⟩ := rfl
  rw [hcx]
  have hbody : pf24.body = .seq (pcL pf24.body) (.seq (.seq (pcL (pcL (pcR pf24.body))) (.block 0 (.loop (pcO (pcB (pcR (pcL (pcR pf24.body)))))))) (pcR (pcR pf24.body))) := rfl
  rw [hbody]
  have hA := kC_run (lf := n) (s24_a (callee := run giv tbl2 n) (cx := ⟨B.length, T.length, M.length⟩) B T M nm q en ct rp cn eo ev ea rq pn pl ek) POk.nil
  have hI := kC_run (lf := n) (s24_i (callee := run giv tbl2 n) (cx := ⟨B.length, T.length, M.length⟩) ((B ++ [[.d (.str []), .d (.int .i64 0), .d (.int .i64 0), .d (.int .i64 0), .d (.int .i64 0), .d (.int .i64 0), .d (.int .i64 0), .d (.int .i64 0), .d (.int .i64 0), .d (.int .i64 0)]]) ++ [[.d (.str nm), .d (.int .i64 ct), .d (.int .i64 rp), .d (.int .i64 cn), .d (.sl rq), .d (.sl pn), .d (.sl pl), .d (.int .i64 eo), .d (.str en), .d (.int .i64 ev), .d (.sl ek), .d (.int .i64 ea)]]) T M nm q en ct rp cn eo ev ea rq pn pl ek (B.length + 0) (List.length (B ++ [[.d (.str []), .d (.int .i64 0), .d (.int .i64 0), .d (.int .i64 0), .d (.int .i64 0), .d (.int .i64 0), .d (.int .i64 0), .d (.int .i64 0), .d (.int .i64 0), .d (.int .i64 0)]]))) (POk.cons (by simp) POk.nil)
  have hB0 : ∀ X : List (List AV), (((B ++ [[.d (.str []), .d (.int .i64 0), .d (.int .i64 0), .d (.int .i64 0), .d (.int .i64 0), .d (.int .i64 0), .d (.int .i64 0), .d (.int .i64 0), .d (.int .i64 0), .d (.int .i64 0)]]) ++ [[.d (.str nm), .d (.int .i64 ct), .d (.int .i64 rp), .d (.int .i64 cn), .d (.sl rq), .d (.sl pn), .d (.sl pl), .d (.int .i64 eo), .d (.str en), .d (.int .i64 ev), .d (.sl ek), .d (.int .i64 ea)]]) ++ X)[B.length + 0]? = some [.d (.str []), .d (.int .i64 0), .d (.int .i64 0), .d (.int .i64 0), .d (.int .i64 0), .d (.int .i64 0), .d (.int .i64 0), .d (.int .i64 0), .d (.int .i64 0), .d (.int .i64 0)] := fun X => by
    rw [get_old _ _ (by simp), get_old _ _ (by simp)]; simp
  generalize hB2 : ((B ++ [[.d (.str []), .d (.int .i64 0), .d (.int .i64 0), .d (.int .i64 0), .d (.int .i64 0), .d (.int .i64 0), .d (.int .i64 0), .d (.int .i64 0), .d (.int .i64 0), .d (.int .i64 0)]]) ++ [[.d (.str nm), .d (.int .i64 ct), .d (.int .i64 rp), .d (.int .i64 cn), .d (.sl rq), .d (.sl pn), .d (.sl pl), .d (.int .i64 eo), .d (.str en), .d (.int .i64 ev), .d (.sl ek), .d (.int .i64 ea)]]) = B2 at *
  have hB2s : B.length + 2 ≤ B2.length := by rw [← hB2, List.length_append, List.length_append]; exact Nat.le_refl _
  have hB2l : B.length ≤ B2.length := by omega
  generalize hN1 : List.length (B ++ [[.d (.str []), .d (.int .i64 0), .d (.int .i64 0), .d (.int .i64 0), .d (.int .i64 0), .d (.int .i64 0), .d (.int .i64 0), .d (.int .i64 0), .d (.int .i64 0), .d (.int .i64 0)]]) = N1 at *
  have round := fun (k : Nat) (hk : k < pl.length) (hm : ∀ r, pl[k]? = some r → nameIs q r = false) => round24 (callee := run giv tbl2 n) (lf := n) (cx := ⟨B.length, T.length, M.length⟩) (B := B2) (T := T) (M := M) (nm := nm) (q := q) (en := en) (ct := ct) (rp := rp) (cn := cn) (eo := eo) (ev := ev) (ea := ea) (rq := rq) (pn := pn) (pl := pl) (ek := ek) (N0 := B.length + 0) (N1 := N1) hB2l hlen hrow k hk hm
  have start : ∃ X : List (List AV), ∃ x7 x12 x13 x14 x15 x16 x17 x18 x19 x20 : AV, ((E24 nm q en ct rp cn eo ev ea rq pn pl ek (B.length + 0) N1 ((0 : Nat) : Int) undefA undefA undefA undefA undefA undefA undefA undefA undefA undefA, ⟨B2, T, M⟩) : Env × St) = (E24 nm q en ct rp cn eo ev ea rq pn pl ek (B.length + 0) N1 ((0 : Nat) : Int) x7 x12 x13 x14 x15 x16 x17 x18 x19 x20, ⟨B2 ++ X, T, M⟩) := ⟨[], _, _, _, _, _, _, _, _, _, _, by rw [List.append_nil]⟩
  rcases findR_cases q pl with ⟨hf, hno⟩ | ⟨l1, r, l2, hsp, hf, hr, hno⟩
  · obtain ⟨⟨e, s⟩, ⟨X, x7, x12, x13, x14, x15, x16, x17, x18, x19, x20, he⟩, hit⟩ := iter_rounds (body := fun e s => runC (run giv tbl2 n) n ⟨B.length, T.length, M.length⟩ (pcO (pcB (pcR (pcL (pcR pf24.body))))) e s) (fun k x => ∃ X : List (List AV), ∃ x7 x12 x13 x14 x15 x16 x17 x18 x19 x20 : AV, x = (E24 nm q en ct rp cn eo ev ea rq pn pl ek (B.length + 0) N1 (k : Int) x7 x12 x13 x14 x15 x16 x17 x18 x19 x20, ⟨B2 ++ X, T, M⟩)) hn
      (fun k x hk hx => round k hk (fun r hr => hno r (List.mem_of_getElem? hr)) x hx) start
    injection he with he1 he2
    subst he1; subst he2
    obtain ⟨j, hj⟩ : ∃ j, n - pl.length = j + 1 := ⟨n - pl.length - 1, by omega⟩
    have hout := kC_run (lf := n) (s24_out (callee := run giv tbl2 n) (cx := ⟨B.length, T.length, M.length⟩) (B2 ++ X) T M nm q en ct rp cn eo ev ea rq pn pl ek (B.length + 0) N1 (pl.length : Int) x7 x12 x13 x14 x15 x16 x17 x18 x19 x20) (POk.cons (by simp) POk.nil)
    have hl := hit
    rw [hj] at hl
    have hl2 := iter_stop (body := fun e s => runC (run giv tbl2 n) n ⟨B.length, T.length, M.length⟩ (pcO (pcB (pcR (pcL (pcR pf24.body))))) e s) (j := j) hout (by simp)
    have hloop := loop_exit (hl.trans hl2)
    have hz := kC_run (lf := n) (s24_z (callee := run giv tbl2 n) (cx := ⟨B.length, T.length, M.length⟩) (B2 ++ X) T M nm q en ct rp cn eo ev ea rq pn pl ek (B.length + 0) N1 (pl.length : Int) x7 x12 x13 x14 x15 x16 x17 x18 x19 x20) (POk.cons ⟨hB0 X, Nat.le_refl _, rfl⟩ POk.nil)
    rw [seq_normal (show runC (run giv tbl2 n) n ⟨B.length, T.length, M.length⟩ (pcL pf24.body) (enter pf24 [segA nm en ct rp cn eo ev ea rq pn pl ek, .d (.str q)]) ⟨B, T, M⟩ = _ from hA) (seq_normal (seq_normal hI hloop) hz), hf]
    refine leave_find rfl rfl rfl rfl (by rw [List.getElem?_set_self (by simp; omega)]) (by simp) rfl
  · have hl1 : l1.length < pl.length := by rw [hsp]; simp
    obtain ⟨⟨e, s⟩, ⟨X, x7, x12, x13, x14, x15, x16, x17, x18, x19, x20, he⟩, hit⟩ := iter_rounds (body := fun e s => runC (run giv tbl2 n) n ⟨B.length, T.length, M.length⟩ (pcO (pcB (pcR (pcL (pcR pf24.body))))) e s) (fun k x => ∃ X : List (List AV), ∃ x7 x12 x13 x14 x15 x16 x17 x18 x19 x20 : AV, x = (E24 nm q en ct rp cn eo ev ea rq pn pl ek (B.length + 0) N1 (k : Int) x7 x12 x13 x14 x15 x16 x17 x18 x19 x20, ⟨B2 ++ X, T, M⟩)) (show l1.length < n by omega)
      (fun k x hk hx => round k (by omega) (fun r hr => hno r (List.mem_of_getElem? (by rw [hsp, List.getElem?_append_left hk] at hr; exact hr))) x hx) start
    injection he with he1 he2
    subst he1; subst he2
    obtain ⟨j, hj⟩ : ∃ j, n - l1.length = j + 1 := ⟨n - l1.length - 1, by omega⟩
    have hrl : pl[l1.length]? = some r := by rw [hsp]; simp
    obtain ⟨a, k1, k2, k3, k4, k5, k6, k7, k8, k9, rfl⟩ := hrow r (List.mem_of_getElem? hrl)
    have hout := kC_run (lf := n) (s24_hit (callee := run giv tbl2 n) (cx := ⟨B.length, T.length, M.length⟩) (B2 ++ X) T M nm q en ct rp cn eo ev ea rq pn pl ek (B.length + 0) N1 (l1.length : Int) x7 x12 x13 x14 x15 x16 x17 x18 x19 x20 a k1 k2 k3 k4 k5 k6 k7 k8 k9)
      (POk.cons ⟨by rw [set_last, List.append_assoc]; exact hB0 _, Nat.le_refl _, rfl⟩ (POk.cons (by rw [set_last]; simp) (POk.cons hr (POk.cons (by rw [set_last]; simp) (POk.cons ⟨get_last _ _, by simp; omega, rfl⟩ (POk.cons ⟨by omega, by simpa using hrl⟩ (POk.cons (by simp; omega) POk.nil)))))))
    have hl := hit
    rw [hj] at hl
    have hl2 := iter_stop (body := fun e s => runC (run giv tbl2 n) n ⟨B.length, T.length, M.length⟩ (pcO (pcB (pcR (pcL (pcR pf24.body))))) e s) (j := j) hout (by simp)
    have hloop := loop_ret (id := 0) (hl.trans hl2)
    rw [seq_normal (show runC (run giv tbl2 n) n ⟨B.length, T.length, M.length⟩ (pcL pf24.body) (enter pf24 [segA nm en ct rp cn eo ev ea rq pn pl ek, .d (.str q)]) ⟨B, T, M⟩ = _ from hA) (seq_ret (seq_normal hI hloop)), hf]
    refine leave_find rfl rfl rfl rfl (by rw [List.getElem?_set_self (by simp; omega)]) (by simp) rfl

theorem s25_a {callee : Callee} {cx : Cx} (B : List (List AV)) (T : List (Nat × Nat)) (M : List (List (D × D))) (nm q en : List Nat) (ct rp cn eo ev ea : Int) (rq pn pl ek : List (List D)) : kC callee cx (pcL pf25.body) [.agg [.d (.str nm), .d (.int .i64 ct), .d (.int .i64 rp), .d (.int .i64 cn), .d (.sl rq), .d (.sl pn), .d (.sl pl), .d (.int .i64 eo), .d (.str en), .d (.int .i64 ev), .d (.sl ek), .d (.int .i64 ea)], .d (.str q), undefA, undefA, undefA, undefA, undefA, undefA, undefA, undefA, undefA, undefA, undefA, undefA, undefA, undefA, undefA, undefA, undefA, undefA, undefA, undefA] ⟨B, T, M⟩ [] [] = some (.normal, [.agg [.d (.str nm), .d (.int .i64 ct), .d (.int .i64 rp), .d (.int .i64 cn), .d (.sl rq), .d (.sl pn), .d (.sl pl), .d (.int .i64 eo), .d (.str en), .d (.int .i64 ev), .d (.sl ek), .d (.int .i64 ea)], .d (.str q), .ptr (List.length ((B ++ [[.d (.str []), .d (.int .i64 0), .d (.int .i64 0)]]))) 0, undefA, .ptr (List.length B + 0) 0, .d (.int .i64 0), undefA, undefA, undefA, undefA, undefA, undefA, undefA, undefA, undefA, undefA, undefA, undefA, undefA, undefA, undefA, undefA], ⟨((B ++ [[.d (.str []), .d (.int .i64 0), .d (.int .i64 0)]]) ++ [[.d (.str nm), .d (.int .i64 ct), .d (.int .i64 rp), .d (.int .i64 cn), .d (.sl rq), .d (.sl pn), .d (.sl pl), .d (.int .i64 eo), .d (.str en), .d (.int .i64 ev), .d (.sl ek), .d (.int .i64 ea)]]), T, M⟩, [], []) := by kernel_rfl
theorem s25_i {callee : Callee} {cx : Cx} (B : List (List AV)) (T : List (Nat × Nat)) (M : List (List (D × D))) (nm q en : List Nat) (ct rp cn eo ev ea : Int) (rq pn pl ek : List (List D)) (N0 N1 : Nat) : kC callee cx (pcL (pcL (pcR pf25.body))) [.agg [.d (.str nm), .d (.int .i64 ct), .d (.int .i64 rp), .d (.int .i64 cn), .d (.sl rq), .d (.sl pn), .d (.sl pl), .d (.int .i64 eo), .d (.str en), .d (.int .i64 ev), .d (.sl ek), .d (.int .i64 ea)], .d (.str q), .ptr N1 0, undefA, .ptr N0 0, .d (.int .i64 0), undefA, undefA, undefA, undefA, undefA, undefA, undefA, undefA, undefA, undefA, undefA, undefA, undefA, undefA, undefA, undefA] ⟨B, T, M⟩ [.c [.d (.str nm), .d (.int .i64 ct), .d (.int .i64 rp), .d (.int .i64 cn), .d (.sl rq), .d (.sl pn), .d (.sl pl), .d (.int .i64 eo), .d (.str en), .d (.int .i64 ev), .d (.sl ek), .d (.int .i64 ea)]] [] = some (.normal, [.agg [.d (.str nm), .d (.int .i64 ct), .d (.int .i64 rp), .d (.int .i64 cn), .d (.sl rq), .d (.sl pn), .d (.sl pl), .d (.int .i64 eo), .d (.str en), .d (.int .i64 ev), .d (.sl ek), .d (.int .i64 ea)], .d (.str q), .ptr N1 0, undefA, .ptr N0 0, .d (.int .i64 0), undefA, undefA, .ptr N1 5, .d (.sl pn), .d (.int .i64 ((List.length pn : Nat) : Int)), .d (.int .i64 0), undefA, undefA, undefA, undefA, undefA, undefA, undefA, undefA, undefA, undefA], ⟨B, T, M⟩, [], [B[N1]? = some [.d (.str nm), .d (.int .i64 ct), .d (.int .i64 rp), .d (.int .i64 cn), .d (.sl rq), .d (.sl pn), .d (.sl pl), .d (.int .i64 eo), .d (.str en), .d (.int .i64 ev), .d (.sl ek), .d (.int .i64 ea)]]) := by kernel_rfl
def E25 (nm q en : List Nat) (ct rp cn eo ev ea : Int) (rq pn pl ek : List (List D)) (N0 N1 : Nat) (k : Int) (x7 x12 x13 x14 x15 x16 x17 x18 x19 x20 : AV) : Env := [.agg [.d (.str nm), .d (.int .i64 ct), .d (.int .i64 rp), .d (.int .i64 cn), .d (.sl rq), .d (.sl pn), .d (.sl pl), .d (.int .i64 eo), .d (.str en), .d (.int .i64 ev), .d (.sl ek), .d (.int .i64 ea)], .d (.str q), .ptr N1 0, undefA, .ptr N0 0, .d (.int .i64 0), undefA, x7, .ptr N1 5, .d (.sl pn), .d (.int .i64 ((List.length pn : Nat) : Int)), .d (.int .i64 k), x12, x13, x14, x15, x16, x17, x18, x19, x20, undefA]
theorem s25_miss {callee : Callee} {cx : Cx} (B : List (List AV)) (T : List (Nat × Nat)) (M : List (List (D × D))) (nm q en : List Nat) (ct rp cn eo ev ea : Int) (rq pn pl ek : List (List D)) (N0 N1 : Nat) (k : Int) (x7 x12 x13 x14 x15 x16 x17 x18 x19 x20 : AV) (a : List Nat) (k1 k2 : Int) : kC callee cx (pcO (pcB (pcR (pcL (pcR pf25.body))))) [.agg [.d (.str nm), .d (.int .i64 ct), .d (.int .i64 rp), .d (.int .i64 cn), .d (.sl rq), .d (.sl pn), .d (.sl pl), .d (.int .i64 eo), .d (.str en), .d (.int .i64 ev), .d (.sl ek), .d (.int .i64 ea)], .d (.str q), .ptr N1 0, undefA, .ptr N0 0, .d (.int .i64 0), undefA, x7, .ptr N1 5, .d (.sl pn), .d (.int .i64 ((List.length pn : Nat) : Int)), .d (.int .i64 k), x12, x13, x14, x15, x16, x17, x18, x19, x20, undefA] ⟨B, T, M⟩ [.b true, .r [.str a, .int .i64 k1, .int .i64 k2], .c [.d (.str []), .d (.int .i64 0), .d (.int .i64 0)], .c [.d (.str a), .d (.int .i64 k1), .d (.int .i64 k2)], .b false] [] = some (.normal, [.agg [.d (.str nm), .d (.int .i64 ct), .d (.int .i64 rp), .d (.int .i64 cn), .d (.sl rq), .d (.sl pn), .d (.sl pl), .d (.int .i64 eo), .d (.str en), .d (.int .i64 ev), .d (.sl ek), .d (.int .i64 ea)], .d (.str q), .ptr N1 0, undefA, .ptr N0 0, .d (.int .i64 0), undefA, .ptr (List.length B + 0) 0, .ptr N1 5, .d (.sl pn), .d (.int .i64 ((List.length pn : Nat) : Int)), .d (.int .i64 (IntKind.wrap .i64 (k + 1))), .d (.bool true), .cptr [.str a, .int .i64 k1, .int .i64 k2], .agg [.d (.str a), .d (.int .i64 k1), .d (.int .i64 k2)], .ptr (List.length B + 0) 0, .d (.str a), .d (.str q), .d (.bool false), x19, .d (.int .i64 (IntKind.wrap .i64 (k + 1))), undefA], ⟨(List.set ((B ++ [[.d (.str []), .d (.int .i64 0), .d (.int .i64 0)]])) ((List.length B + 0)) [.d (.str a), .d (.int .i64 k1), .d (.int .i64 k2)]), T, M⟩, [], [(beqN a q) = false, ((List.set ((B ++ [[.d (.str []), .d (.int .i64 0), .d (.int .i64 0)]])) ((List.length B + 0)) [.d (.str a), .d (.int .i64 k1), .d (.int .i64 k2)]))[(List.length B + 0)]? = some [.d (.str a), .d (.int .i64 k1), .d (.int .i64 k2)], ((B ++ [[.d (.str []), .d (.int .i64 0), .d (.int .i64 0)]]))[(List.length B + 0)]? = some [.d (.str []), .d (.int .i64 0), .d (.int .i64 0)] ∧ cx.b ≤ (List.length B + 0) ∧ underL ((List.length B + 0)) [.d (.str a), .d (.int .i64 k1), .d (.int .i64 k2)] = true, 0 ≤ k ∧ pn[Int.toNat k]? = some [.str a, .int .i64 k1, .int .i64 k2], (decide (k < ((List.length pn : Nat) : Int))) = true]) := by kernel_rfl
theorem s25_hit {callee : Callee} {cx : Cx} (B : List (List AV)) (T : List (Nat × Nat)) (M : List (List (D × D))) (nm q en : List Nat) (ct rp cn eo ev ea : Int) (rq pn pl ek : List (List D)) (N0 N1 : Nat) (k : Int) (x7 x12 x13 x14 x15 x16 x17 x18 x19 x20 : AV) (a : List Nat) (k1 k2 : Int) : kC callee cx (pcO (pcB (pcR (pcL (pcR pf25.body))))) [.agg [.d (.str nm), .d (.int .i64 ct), .d (.int .i64 rp), .d (.int .i64 cn), .d (.sl rq), .d (.sl pn), .d (.sl pl), .d (.int .i64 eo), .d (.str en), .d (.int .i64 ev), .d (.sl ek), .d (.int .i64 ea)], .d (.str q), .ptr N1 0, undefA, .ptr N0 0, .d (.int .i64 0), undefA, x7, .ptr N1 5, .d (.sl pn), .d (.int .i64 ((List.length pn : Nat) : Int)), .d (.int .i64 k), x12, x13, x14, x15, x16, x17, x18, x19, x20, undefA] ⟨B, T, M⟩ [.b true, .r [.str a, .int .i64 k1, .int .i64 k2], .c [.d (.str []), .d (.int .i64 0), .d (.int .i64 0)], .c [.d (.str a), .d (.int .i64 k1), .d (.int .i64 k2)], .b true, .c [.d (.str a), .d (.int .i64 k1), .d (.int .i64 k2)], .c [.d (.str []), .d (.int .i64 0), .d (.int .i64 0)]] [] = some (.ret, [.agg [.d (.str nm), .d (.int .i64 ct), .d (.int .i64 rp), .d (.int .i64 cn), .d (.sl rq), .d (.sl pn), .d (.sl pl), .d (.int .i64 eo), .d (.str en), .d (.int .i64 ev), .d (.sl ek), .d (.int .i64 ea)], .d (.str q), .ptr N1 0, undefA, .ptr N0 0, .d (.int .i64 0), undefA, .ptr (List.length B + 0) 0, .ptr N1 5, .d (.sl pn), .d (.int .i64 ((List.length pn : Nat) : Int)), .d (.int .i64 k), .d (.bool true), .cptr [.str a, .int .i64 k1, .int .i64 k2], .agg [.d (.str a), .d (.int .i64 k1), .d (.int .i64 k2)], .ptr (List.length B + 0) 0, .d (.str a), .d (.str q), .d (.bool true), .agg [.d (.str a), .d (.int .i64 k1), .d (.int .i64 k2)], x20, undefA], ⟨(List.set ((List.set ((B ++ [[.d (.str []), .d (.int .i64 0), .d (.int .i64 0)]])) ((List.length B + 0)) [.d (.str a), .d (.int .i64 k1), .d (.int .i64 k2)])) N0 [.d (.str a), .d (.int .i64 k1), .d (.int .i64 k2)]), T, M⟩, [], [((List.set ((B ++ [[.d (.str []), .d (.int .i64 0), .d (.int .i64 0)]])) ((List.length B + 0)) [.d (.str a), .d (.int .i64 k1), .d (.int .i64 k2)]))[N0]? = some [.d (.str []), .d (.int .i64 0), .d (.int .i64 0)] ∧ cx.b ≤ N0 ∧ underL N0 [.d (.str a), .d (.int .i64 k1), .d (.int .i64 k2)] = true, ((List.set ((B ++ [[.d (.str []), .d (.int .i64 0), .d (.int .i64 0)]])) ((List.length B + 0)) [.d (.str a), .d (.int .i64 k1), .d (.int .i64 k2)]))[(List.length B + 0)]? = some [.d (.str a), .d (.int .i64 k1), .d (.int .i64 k2)], (beqN a q) = true, ((List.set ((B ++ [[.d (.str []), .d (.int .i64 0), .d (.int .i64 0)]])) ((List.length B + 0)) [.d (.str a), .d (.int .i64 k1), .d (.int .i64 k2)]))[(List.length B + 0)]? = some [.d (.str a), .d (.int .i64 k1), .d (.int .i64 k2)], ((B ++ [[.d (.str []), .d (.int .i64 0), .d (.int .i64 0)]]))[(List.length B + 0)]? = some [.d (.str []), .d (.int .i64 0), .d (.int .i64 0)] ∧ cx.b ≤ (List.length B + 0) ∧ underL ((List.length B + 0)) [.d (.str a), .d (.int .i64 k1), .d (.int .i64 k2)] = true, 0 ≤ k ∧ pn[Int.toNat k]? = some [.str a, .int .i64 k1, .int .i64 k2], (decide (k < ((List.length pn : Nat) : Int))) = true]) := by kernel_rfl
theorem s25_out {callee : Callee} {cx : Cx} (B : List (List AV)) (T : List (Nat × Nat)) (M : List (List (D × D))) (nm q en : List Nat) (ct rp cn eo ev ea : Int) (rq pn pl ek : List (List D)) (N0 N1 : Nat) (k : Int) (x7 x12 x13 x14 x15 x16 x17 x18 x19 x20 : AV) : kC callee cx (pcO (pcB (pcR (pcL (pcR pf25.body))))) [.agg [.d (.str nm), .d (.int .i64 ct), .d (.int .i64 rp), .d (.int .i64 cn), .d (.sl rq), .d (.sl pn), .d (.sl pl), .d (.int .i64 eo), .d (.str en), .d (.int .i64 ev), .d (.sl ek), .d (.int .i64 ea)], .d (.str q), .ptr N1 0, undefA, .ptr N0 0, .d (.int .i64 0), undefA, x7, .ptr N1 5, .d (.sl pn), .d (.int .i64 ((List.length pn : Nat) : Int)), .d (.int .i64 k), x12, x13, x14, x15, x16, x17, x18, x19, x20, undefA] ⟨B, T, M⟩ [.b false] [] = some (.exit 0, [.agg [.d (.str nm), .d (.int .i64 ct), .d (.int .i64 rp), .d (.int .i64 cn), .d (.sl rq), .d (.sl pn), .d (.sl pl), .d (.int .i64 eo), .d (.str en), .d (.int .i64 ev), .d (.sl ek), .d (.int .i64 ea)], .d (.str q), .ptr N1 0, undefA, .ptr N0 0, .d (.int .i64 0), undefA, x7, .ptr N1 5, .d (.sl pn), .d (.int .i64 ((List.length pn : Nat) : Int)), .d (.int .i64 k), .d (.bool false), x13, x14, x15, x16, x17, x18, x19, x20, undefA], ⟨B, T, M⟩, [], [(decide (k < ((List.length pn : Nat) : Int))) = false]) := by kernel_rfl
theorem s25_z {callee : Callee} {cx : Cx} (B : List (List AV)) (T : List (Nat × Nat)) (M : List (List (D × D))) (nm q en : List Nat) (ct rp cn eo ev ea : Int) (rq pn pl ek : List (List D)) (N0 N1 : Nat) (k : Int) (x7 x12 x13 x14 x15 x16 x17 x18 x19 x20 : AV) : kC callee cx (pcR (pcR pf25.body)) [.agg [.d (.str nm), .d (.int .i64 ct), .d (.int .i64 rp), .d (.int .i64 cn), .d (.sl rq), .d (.sl pn), .d (.sl pl), .d (.int .i64 eo), .d (.str en), .d (.int .i64 ev), .d (.sl ek), .d (.int .i64 ea)], .d (.str q), .ptr N1 0, undefA, .ptr N0 0, .d (.int .i64 0), undefA, x7, .ptr N1 5, .d (.sl pn), .d (.int .i64 ((List.length pn : Nat) : Int)), .d (.int .i64 k), .d (.bool false), x13, x14, x15, x16, x17, x18, x19, x20, undefA] ⟨B, T, M⟩ [.c [.d (.str []), .d (.int .i64 0), .d (.int .i64 0)]] [] = some (.ret, [.agg [.d (.str nm), .d (.int .i64 ct), .d (.int .i64 rp), .d (.int .i64 cn), .d (.sl rq), .d (.sl pn), .d (.sl pl), .d (.int .i64 eo), .d (.str en), .d (.int .i64 ev), .d (.sl ek), .d (.int .i64 ea)], .d (.str q), .ptr N1 0, undefA, .ptr N0 0, .d (.int .i64 3), undefA, x7, .ptr N1 5, .d (.sl pn), .d (.int .i64 ((List.length pn : Nat) : Int)), .d (.int .i64 k), .d (.bool false), x13, x14, x15, x16, x17, x18, x19, x20, .agg [.d (.str []), .d (.int .i64 0), .d (.int .i64 0)]], ⟨(List.set B N0 [.d (.str []), .d (.int .i64 0), .d (.int .i64 0)]), T, M⟩, [], [B[N0]? = some [.d (.str []), .d (.int .i64 0), .d (.int .i64 0)] ∧ cx.b ≤ N0 ∧ underL N0 [.d (.str []), .d (.int .i64 0), .d (.int .i64 0)] = true]) := by kernel_rfl
def Row25 (r : List D) : Prop := ∃ a k1 k2, r = [.str a, .int .i64 k1, .int .i64 k2]
theorem round25 {callee : Callee} {cx : Cx} {lf : Nat} {B : List (List AV)} {T : List (Nat × Nat)} {M : List (List (D × D))} {nm q en : List Nat} {ct rp cn eo ev ea : Int} {rq pn pl ek : List (List D)} {N0 N1 : Nat} (hcx : cx.b ≤ B.length) (hlen : (pn).length < 9223372036854775808)
    (hrow : ∀ r, r ∈ pn → Row25 r) (k : Nat) (hk : k < (pn).length) (hmiss : ∀ r, pn[k]? = some r → nameIs q r = false) (x : Env × St) (hx : ∃ X : List (List AV), ∃ x7 x12 x13 x14 x15 x16 x17 x18 x19 x20 : AV, x = (E25 nm q en ct rp cn eo ev ea rq pn pl ek N0 N1 (k : Int) x7 x12 x13 x14 x15 x16 x17 x18 x19 x20, ⟨B ++ X, T, M⟩)) :
    ∃ y : Env × St, runC callee lf cx (pcO (pcB (pcR (pcL (pcR pf25.body))))) x.1 x.2 = some (.normal, y.1, y.2) ∧ ∃ X : List (List AV), ∃ x7 x12 x13 x14 x15 x16 x17 x18 x19 x20 : AV, y = (E25 nm q en ct rp cn eo ev ea rq pn pl ek N0 N1 ((k + 1 : Nat) : Int) x7 x12 x13 x14 x15 x16 x17 x18 x19 x20, ⟨B ++ X, T, M⟩) := by
  obtain ⟨X, x7, x12, x13, x14, x15, x16, x17, x18, x19, x20, rfl⟩ := hx
  obtain ⟨r, hr⟩ : ∃ r, pn[k]? = some r := ⟨_, List.getElem?_eq_getElem hk⟩
  obtain ⟨a, k1, k2, rfl⟩ := hrow r (List.mem_of_getElem? hr)
  have hm := hmiss _ hr
  have h := kC_run (lf := lf) (s25_miss (callee := callee) (cx := cx) (B ++ X) T M nm q en ct rp cn eo ev ea rq pn pl ek N0 N1 (k : Int) x7 x12 x13 x14 x15 x16 x17 x18 x19 x20 a k1 k2)
    (POk.cons hm (POk.cons (by rw [set_last]; simp) (POk.cons ⟨get_last _ _, by simp; omega, rfl⟩ (POk.cons ⟨by omega, by simpa using hr⟩ (POk.cons (by simp; omega) POk.nil)))))
  rw [set_last] at h
  have hw : IntKind.wrap .i64 ((k : Int) + 1) = ((k + 1 : Nat) : Int) := by rw [wrap_small (by omega) (by omega)]; simp
  rw [hw] at h
  rw [List.append_assoc] at h
  exact ⟨(_, _), h, X ++ [[.d (.str a), .d (.int .i64 k1), .d (.int .i64 k2)]], _, _, _, _, _, _, _, _, _, _, rfl⟩
theorem run25 {giv : Nat → Option (List AV → Cx → St → Option (Out × St))} {n : Nat} (hg : giv 25 = none) (nm q en : List Nat) (ct rp cn eo ev ea : Int) (rq pn pl ek : List (List D)) (hlen : pn.length < 9223372036854775808) (hn : pn.length < n)
    (hrow : ∀ r, r ∈ pn → Row25 r) (cx : Cx) (st : St) : run giv tbl2 (n + 1) 25 [segA nm en ct rp cn eo ev ea rq pn pl ek, .d (.str q)] cx st =
      some (.ret (match findR q pn with | some r => .tup [.agg (r.map .d), .d (.int .i64 0)] | none => .tup [.agg [.d (.str []), .d (.int .i64 0), .d (.int .i64 0)], .d (.int .i64 3)]), st) := by
  obtain ⟨B, T, M⟩ := st
  have hrun : run giv tbl2 (n + 1) 25 [segA nm en ct rp cn eo ev ea rq pn pl ek, .d (.str q)] cx ⟨B, T, M⟩ = leave pf25 ⟨B, T, M⟩ (runC (run giv tbl2 n) n (cxOf pf25 cx ⟨B, T, M⟩) pf25.body (enter pf25 [segA nm en ct rp cn eo ev ea rq pn pl ek, .d (.str q)]) ⟨B, T, M⟩) := by
    simp only [run, hg]; rfl
  rw [hrun]
  have hcx : cxOf pf25 cx ⟨B, T, M⟩ = ⟨B.length, T.length, M.length⟩ := rfl
  rw [hcx]
  have hbody : pf25.body = .seq (pcL pf25.body) (.seq (.seq (pcL (pcL (pcR pf25.body))) (.block 0 (.loop (pcO (pcB (pcR (pcL (pcR pf25.body)))))))) (pcR (pcR pf25.body))) := rfl
  rw [hbody]
  have hA := kC_run (lf := n) (s25_a (callee := run giv tbl2 n) (cx := ⟨B.length, T.length, M.length⟩) B T M nm q en ct rp cn eo ev ea rq pn pl ek) POk.nil
  have hI := kC_run (lf := n) (s25_i (callee := run giv tbl2 n) (cx := ⟨B.length, T.length, M.length⟩) ((B ++ [[.d (.str []), .d (.int .i64 0), .d (.int .i64 0)]]) ++ [[.d (.str nm), .d (.int .i64 ct), .d (.int .i64 rp), .d (.int .i64 cn), .d (.sl rq), .d (.sl pn), .d (.sl pl), .d (.int .i64 eo), .d (.str en), .d (.int .i64 ev), .d (.sl ek), .d (.int .i64 ea)]]) T M nm q en ct rp cn eo ev ea rq pn pl ek (B.length + 0) (List.length (B ++ [[.d (.str []), .d (.int .i64 0), .d (.int .i64 0)]]))) (POk.cons (by simp) POk.nil)
  have hB0 : ∀ X : List (List AV), (((B ++ [[.d (.str []), .d (.int .i64 0), .d (.int .i64 0)]]) ++ [[.d (.str nm), .d (.int .i64 ct), .d (.int .i64 rp), .d (.int .i64 cn), .d (.sl rq), .d (.sl pn), .d (.sl pl), .d (.int .i64 eo), .d (.str en), .d (.int .i64 ev), .d (.sl ek), .d (.int .i64 ea)]]) ++ X)[B.length + 0]? = some [.d (.str []), .d (.int .i64 0), .d (.int .i64 0)] := fun X => by
    rw [get_old _ _ (by simp), get_old _ _ (by simp)]; simp
  generalize hB2 : ((B ++ [[.d (.str []), .d (.int .i64 0), .d (.int .i64 0)]]) ++ [[.d (.str nm), .d (.int .i64 ct), .d (.int .i64 rp), .d (.int .i64 cn), .d (.sl rq), .d (.sl pn), .d (.sl pl), .d (.int .i64 eo), .d (.str en), .d (.int .i64 ev), .d (.sl ek), .d (.int .i64 ea)]]) = B2 at *
  have hB2s : B.length + 2 ≤ B2.length := by rw [← hB2, List.length_append, List.length_append]; exact Nat.le_refl _
  have hB2l : B.length ≤ B2.length := by omega
  generalize hN1 : List.length (B ++ [[.d (.str []), .d (.int .i64 0), .d (.int .i64 0)]]) = N1 at *
  have round := fun (k : Nat) (hk : k < pn.length) (hm : ∀ r, pn[k]? = some r → nameIs q r = false) => round25 (callee := run giv tbl2 n) (lf := n) (cx := ⟨B.length, T.length, M.length⟩) (B := B2) (T := T) (M := M) (nm := nm) (q := q) (en := en) (ct := ct) (rp := rp) (cn := cn) (eo := eo) (ev := ev) (ea := ea) (rq := rq) (pn := pn) (pl := pl) (ek := ek) (N0 := B.length + 0) (N1 := N1) hB2l hlen hrow k hk hm
  have start : ∃ X : List (List AV), ∃ x7 x12 x13 x14 x15 x16 x17 x18 x19 x20 : AV, ((E25 nm q en ct rp cn eo ev ea rq pn pl ek (B.length + 0) N1 ((0 : Nat) : Int) undefA undefA undefA undefA undefA undefA undefA undefA undefA undefA, ⟨B2, T, M⟩) : Env × St) = (E25 nm q en ct rp cn eo ev ea rq pn pl ek (B.length + 0) N1 ((0 : Nat) : Int) x7 x12 x13 x14 x15 x16 x17 x18 x19 x20, ⟨B2 ++ X, T, M⟩) := ⟨[], _, _, _, _, _, _, _, _, _, _, by rw [List.append_nil]⟩
  rcases findR_cases q pn with ⟨hf, hno⟩ | ⟨l1, r, l2, hsp, hf, hr, hno⟩
  · obtain ⟨⟨e, s⟩, ⟨X, x7, x12, x13, x14, x15, x16, x17, x18, x19, x20, he⟩, hit⟩ := iter_rounds (body := fun e s => runC (run giv tbl2 n) n ⟨B.length, T.length, M.length⟩ (pcO (pcB (pcR (pcL (pcR pf25.body))))) e s) (fun k x => ∃ X : List (List AV), ∃ x7 x12 x13 x14 x15 x16 x17 x18 x19 x20 : AV, x = (E25 nm q en ct rp cn eo ev ea rq pn pl ek (B.length + 0) N1 (k : Int) x7 x12 x13 x14 x15 x16 x17 x18 x19 x20, ⟨B2 ++ X, T, M⟩)) hn
      (fun k x hk hx => round k hk (fun r hr => hno r (List.mem_of_getElem? hr)) x hx) start
    injection he with he1 he2
    subst he1; subst he2
    obtain ⟨j, hj⟩ : ∃ j, n - pn.length = j + 1 := ⟨n - pn.length - 1, by omega⟩
    have hout := kC_run (lf := n) (s25_out (callee := run giv tbl2 n) (cx := ⟨B.length, T.length, M.length⟩) (B2 ++ X) T M nm q en ct rp cn eo ev ea rq pn pl ek (B.length + 0) N1 (pn.length : Int) x7 x12 x13 x14 x15 x16 x17 x18 x19 x20) (POk.cons (by simp) POk.nil)
    have hl := hit
    rw [hj] at hl
    have hl2 := iter_stop (body := fun e s => runC (run giv tbl2 n) n ⟨B.length, T.length, M.length⟩ (pcO (pcB (pcR (pcL (pcR pf25.body))))) e s) (j := j) hout (by simp)
    have hloop := loop_exit (hl.trans hl2)
    have hz := kC_run (lf := n) (s25_z (callee := run giv tbl2 n) (cx := ⟨B.length, T.length, M.length⟩) (B2 ++ X) T M nm q en ct rp cn eo ev ea rq pn pl ek (B.length + 0) N1 (pn.length : Int) x7 x12 x13 x14 x15 x16 x17 x18 x19 x20) (POk.cons ⟨hB0 X, Nat.le_refl _, rfl⟩ POk.nil)
    rw [seq_normal (show runC (run giv tbl2 n) n ⟨B.length, T.length, M.length⟩ (pcL pf25.body) (enter pf25 [segA nm en ct rp cn eo ev ea rq pn pl ek, .d (.str q)]) ⟨B, T, M⟩ = _ from hA) (seq_normal (seq_normal hI hloop) hz), hf]
    refine leave_find rfl rfl rfl rfl (by rw [List.getElem?_set_self (by simp; omega)]) (by simp) rfl
  · have hl1 : l1.length < pn.length := by rw [hsp]; simp
    obtain ⟨⟨e, s⟩, ⟨X, x7, x12, x13, x14, x15, x16, x17, x18, x19, x20, he⟩, hit⟩ := iter_rounds (body := fun e s => runC (run giv tbl2 n) n ⟨B.length, T.length, M.length⟩ (pcO (pcB (pcR (pcL (pcR pf25.body))))) e s) (fun k x => ∃ X : List (List AV), ∃ x7 x12 x13 x14 x15 x16 x17 x18 x19 x20 : AV, x = (E25 nm q en ct rp cn eo ev ea rq pn pl ek (B.length + 0) N1 (k : Int) x7 x12 x13 x14 x15 x16 x17 x18 x19 x20, ⟨B2 ++ X, T, M⟩)) (show l1.length < n by omega)
      (fun k x hk hx => round k (by omega) (fun r hr => hno r (List.mem_of_getElem? (by rw [hsp, List.getElem?_append_left hk] at hr; exact hr))) x hx) start
    injection he with he1 he2
    subst he1; subst he2
    obtain ⟨j, hj⟩ : ∃ j, n - l1.length = j + 1 := ⟨n - l1.length - 1, by omega⟩
    have hrl : pn[l1.length]? = some r := by rw [hsp]; simp
    obtain ⟨a, k1, k2, rfl⟩ := hrow r (List.mem_of_getElem? hrl)
    have hout := kC_run (lf := n) (s25_hit (callee := run giv tbl2 n) (cx := ⟨B.length, T.length, M.length⟩) (B2 ++ X) T M nm q en ct rp cn eo ev ea rq pn pl ek (B.length + 0) N1 (l1.length : Int) x7 x12 x13 x14 x15 x16 x17 x18 x19 x20 a k1 k2)
      (POk.cons ⟨by rw [set_last, List.append_assoc]; exact hB0 _, Nat.le_refl _, rfl⟩ (POk.cons (by rw [set_last]; simp) (POk.cons hr (POk.cons (by rw [set_last]; simp) (POk.cons ⟨get_last _ _, by simp; omega, rfl⟩ (POk.cons ⟨by omega, by simpa using hrl⟩ (POk.cons (by simp; omega) POk.nil)))))))
    have hl := hit
    rw [hj] at hl
    have hl2 := iter_stop (body := fun e s => runC (run giv tbl2 n) n ⟨B.length, T.length, M.length⟩ (pcO (pcB (pcR (pcL (pcR pf25.body))))) e s) (j := j) hout (by simp)
    have hloop := loop_ret (id := 0) (hl.trans hl2)
    rw [seq_normal (show runC (run giv tbl2 n) n ⟨B.length, T.length, M.length⟩ (pcL pf25.body) (enter pf25 [segA nm en ct rp cn eo ev ea rq pn pl ek, .d (.str q)]) ⟨B, T, M⟩ = _ from hA) (seq_ret (seq_normal hI hloop)), hf]
    refine leave_find rfl rfl rfl rfl (by rw [List.getElem?_set_self (by simp; omega)]) (by simp) rfl

theorem s26_a {callee : Callee} {cx : Cx} (B : List (List AV)) (T : List (Nat × Nat)) (M : List (List (D × D))) (nm q en : List Nat) (ct rp cn eo ev ea : Int) (rq pn pl ek : List (List D)) : kC callee cx (pcL pf26.body) [.agg [.d (.str nm), .d (.int .i64 ct), .d (.int .i64 rp), .d (.int .i64 cn), .d (.sl rq), .d (.sl pn), .d (.sl pl), .d (.int .i64 eo), .d (.str en), .d (.int .i64 ev), .d (.sl ek), .d (.int .i64 ea)], .d (.str q), undefA, undefA, undefA, undefA, undefA, undefA, undefA, undefA, undefA, undefA, undefA, undefA, undefA, undefA, undefA, undefA, undefA, undefA, undefA, undefA] ⟨B, T, M⟩ [] [] = some (.normal, [.agg [.d (.str nm), .d (.int .i64 ct), .d (.int .i64 rp), .d (.int .i64 cn), .d (.sl rq), .d (.sl pn), .d (.sl pl), .d (.int .i64 eo), .d (.str en), .d (.int .i64 ev), .d (.sl ek), .d (.int .i64 ea)], .d (.str q), .ptr (List.length ((B ++ [[.d (.str []), .d (.int .i64 0), .d (.int .i64 0)]]))) 0, undefA, .ptr (List.length B + 0) 0, .d (.int .i64 0), undefA, undefA, undefA, undefA, undefA, undefA, undefA, undefA, undefA, undefA, undefA, undefA, undefA, undefA, undefA, undefA], ⟨((B ++ [[.d (.str []), .d (.int .i64 0), .d (.int .i64 0)]]) ++ [[.d (.str nm), .d (.int .i64 ct), .d (.int .i64 rp), .d (.int .i64 cn), .d (.sl rq), .d (.sl pn), .d (.sl pl), .d (.int .i64 eo), .d (.str en), .d (.int .i64 ev), .d (.sl ek), .d (.int .i64 ea)]]), T, M⟩, [], []) := by kernel_rfl
theorem s26_i {callee : Callee} {cx : Cx} (B : List (List AV)) (T : List (Nat × Nat)) (M : List (List (D × D))) (nm q en : List Nat) (ct rp cn eo ev ea : Int) (rq pn pl ek : List (List D)) (N0 N1 : Nat) : kC callee cx (pcL (pcL (pcR pf26.body))) [.agg [.d (.str nm), .d (.int .i64 ct), .d (.int .i64 rp), .d (.int .i64 cn), .d (.sl rq), .d (.sl pn), .d (.sl pl), .d (.int .i64 eo), .d (.str en), .d (.int .i64 ev), .d (.sl ek), .d (.int .i64 ea)], .d (.str q), .ptr N1 0, undefA, .ptr N0 0, .d (.int .i64 0), undefA, undefA, undefA, undefA, undefA, undefA, undefA, undefA, undefA, undefA, undefA, undefA, undefA, undefA, undefA, undefA] ⟨B, T, M⟩ [.c [.d (.str nm), .d (.int .i64 ct), .d (.int .i64 rp), .d (.int .i64 cn), .d (.sl rq), .d (.sl pn), .d (.sl pl), .d (.int .i64 eo), .d (.str en), .d (.int .i64 ev), .d (.sl ek), .d (.int .i64 ea)]] [] = some (.normal, [.agg [.d (.str nm), .d (.int .i64 ct), .d (.int .i64 rp), .d (.int .i64 cn), .d (.sl rq), .d (.sl pn), .d (.sl pl), .d (.int .i64 eo), .d (.str en), .d (.int .i64 ev), .d (.sl ek), .d (.int .i64 ea)], .d (.str q), .ptr N1 0, undefA, .ptr N0 0, .d (.int .i64 0), undefA, undefA, .ptr N1 4, .d (.sl rq), .d (.int .i64 ((List.length rq : Nat) : Int)), .d (.int .i64 0), undefA, undefA, undefA, undefA, undefA, undefA, undefA, undefA, undefA, undefA], ⟨B, T, M⟩, [], [B[N1]? = some [.d (.str nm), .d (.int .i64 ct), .d (.int .i64 rp), .d (.int .i64 cn), .d (.sl rq), .d (.sl pn), .d (.sl pl), .d (.int .i64 eo), .d (.str en), .d (.int .i64 ev), .d (.sl ek), .d (.int .i64 ea)]]) := by kernel_rfl
def E26 (nm q en : List Nat) (ct rp cn eo ev ea : Int) (rq pn pl ek : List (List D)) (N0 N1 : Nat) (k : Int) (x7 x12 x13 x14 x15 x16 x17 x18 x19 x20 : AV) : Env := [.agg [.d (.str nm), .d (.int .i64 ct), .d (.int .i64 rp), .d (.int .i64 cn), .d (.sl rq), .d (.sl pn), .d (.sl pl), .d (.int .i64 eo), .d (.str en), .d (.int .i64 ev), .d (.sl ek), .d (.int .i64 ea)], .d (.str q), .ptr N1 0, undefA, .ptr N0 0, .d (.int .i64 0), undefA, x7, .ptr N1 4, .d (.sl rq), .d (.int .i64 ((List.length rq : Nat) : Int)), .d (.int .i64 k), x12, x13, x14, x15, x16, x17, x18, x19, x20, undefA]
theorem s26_miss {callee : Callee} {cx : Cx} (B : List (List AV)) (T : List (Nat × Nat)) (M : List (List (D × D))) (nm q en : List Nat) (ct rp cn eo ev ea : Int) (rq pn pl ek : List (List D)) (N0 N1 : Nat) (k : Int) (x7 x12 x13 x14 x15 x16 x17 x18 x19 x20 : AV) (a : List Nat) (k1 k2 : Int) : kC callee cx (pcO (pcB (pcR (pcL (pcR pf26.body))))) [.agg [.d (.str nm), .d (.int .i64 ct), .d (.int .i64 rp), .d (.int .i64 cn), .d (.sl rq), .d (.sl pn), .d (.sl pl), .d (.int .i64 eo), .d (.str en), .d (.int .i64 ev), .d (.sl ek), .d (.int .i64 ea)], .d (.str q), .ptr N1 0, undefA, .ptr N0 0, .d (.int .i64 0), undefA, x7, .ptr N1 4, .d (.sl rq), .d (.int .i64 ((List.length rq : Nat) : Int)), .d (.int .i64 k), x12, x13, x14, x15, x16, x17, x18, x19, x20, undefA] ⟨B, T, M⟩ [.b true, .r [.str a, .int .i64 k1, .int .i64 k2], .c [.d (.str []), .d (.int .i64 0), .d (.int .i64 0)], .c [.d (.str a), .d (.int .i64 k1), .d (.int .i64 k2)], .b false] [] = some (.normal, [.agg [.d (.str nm), .d (.int .i64 ct), .d (.int .i64 rp), .d (.int .i64 cn), .d (.sl rq), .d (.sl pn), .d (.sl pl), .d (.int .i64 eo), .d (.str en), .d (.int .i64 ev), .d (.sl ek), .d (.int .i64 ea)], .d (.str q), .ptr N1 0, undefA, .ptr N0 0, .d (.int .i64 0), undefA, .ptr (List.length B + 0) 0, .ptr N1 4, .d (.sl rq), .d (.int .i64 ((List.length rq : Nat) : Int)), .d (.int .i64 (IntKind.wrap .i64 (k + 1))), .d (.bool true), .cptr [.str a, .int .i64 k1, .int .i64 k2], .agg [.d (.str a), .d (.int .i64 k1), .d (.int .i64 k2)], .ptr (List.length B + 0) 0, .d (.str a), .d (.str q), .d (.bool false), x19, .d (.int .i64 (IntKind.wrap .i64 (k + 1))), undefA], ⟨(List.set ((B ++ [[.d (.str []), .d (.int .i64 0), .d (.int .i64 0)]])) ((List.length B + 0)) [.d (.str a), .d (.int .i64 k1), .d (.int .i64 k2)]), T, M⟩, [], [(beqN a q) = false, ((List.set ((B ++ [[.d (.str []), .d (.int .i64 0), .d (.int .i64 0)]])) ((List.length B + 0)) [.d (.str a), .d (.int .i64 k1), .d (.int .i64 k2)]))[(List.length B + 0)]? = some [.d (.str a), .d (.int .i64 k1), .d (.int .i64 k2)], ((B ++ [[.d (.str []), .d (.int .i64 0), .d (.int .i64 0)]]))[(List.length B + 0)]? = some [.d (.str []), .d (.int .i64 0), .d (.int .i64 0)] ∧ cx.b ≤ (List.length B + 0) ∧ underL ((List.length B + 0)) [.d (.str a), .d (.int .i64 k1), .d (.int .i64 k2)] = true, 0 ≤ k ∧ rq[Int.toNat k]? = some [.str a, .int .i64 k1, .int .i64 k2], (decide (k < ((List.length rq : Nat) : Int))) = true]) := by kernel_rfl
theorem s26_hit {callee : Callee} {cx : Cx} (B : List (List AV)) (T : List (Nat × Nat)) (M : List (List (D × D))) (nm q en : List Nat) (ct rp cn eo ev ea : Int) (rq pn pl ek : List (List D)) (N0 N1 : Nat) (k : Int) (x7 x12 x13 x14 x15 x16 x17 x18 x19 x20 : AV) (a : List Nat) (k1 k2 : Int) : kC callee cx (pcO (pcB (pcR (pcL (pcR pf26.body))))) [.agg [.d (.str nm), .d (.int .i64 ct), .d (.int .i64 rp), .d (.int .i64 cn), .d (.sl rq), .d (.sl pn), .d (.sl pl), .d (.int .i64 eo), .d (.str en), .d (.int .i64 ev), .d (.sl ek), .d (.int .i64 ea)], .d (.str q), .ptr N1 0, undefA, .ptr N0 0, .d (.int .i64 0), undefA, x7, .ptr N1 4, .d (.sl rq), .d (.int .i64 ((List.length rq : Nat) : Int)), .d (.int .i64 k), x12, x13, x14, x15, x16, x17, x18, x19, x20, undefA] ⟨B, T, M⟩ [.b true, .r [.str a, .int .i64 k1, .int .i64 k2], .c [.d (.str []), .d (.int .i64 0), .d (.int .i64 0)], .c [.d (.str a), .d (.int .i64 k1), .d (.int .i64 k2)], .b true, .c [.d (.str a), .d (.int .i64 k1), .d (.int .i64 k2)], .c [.d (.str []), .d (.int .i64 0), .d (.int .i64 0)]] [] = some (.ret, [.agg [.d (.str nm), .d (.int .i64 ct), .d (.int .i64 rp), .d (.int .i64 cn), .d (.sl rq), .d (.sl pn), .d (.sl pl), .d (.int .i64 eo), .d (.str en), .d (.int .i64 ev), .d (.sl ek), .d (.int .i64 ea)], .d (.str q), .ptr N1 0, undefA, .ptr N0 0, .d (.int .i64 0), undefA, .ptr (List.length B + 0) 0, .ptr N1 4, .d (.sl rq), .d (.int .i64 ((List.length rq : Nat) : Int)), .d (.int .i64 k), .d (.bool true), .cptr [.str a, .int .i64 k1, .int .i64 k2], .agg [.d (.str a), .d (.int .i64 k1), .d (.int .i64 k2)], .ptr (List.length B + 0) 0, .d (.str a), .d (.str q), .d (.bool true), .agg [.d (.str a), .d (.int .i64 k1), .d (.int .i64 k2)], x20, undefA], ⟨(List.set ((List.set ((B ++ [[.d (.str []), .d (.int .i64 0), .d (.int .i64 0)]])) ((List.length B + 0)) [.d (.str a), .d (.int .i64 k1), .d (.int .i64 k2)])) N0 [.d (.str a), .d (.int .i64 k1), .d (.int .i64 k2)]), T, M⟩, [], [((List.set ((B ++ [[.d (.str []), .d (.int .i64 0), .d (.int .i64 0)]])) ((List.length B + 0)) [.d (.str a), .d (.int .i64 k1), .d (.int .i64 k2)]))[N0]? = some [.d (.str []), .d (.int .i64 0), .d (.int .i64 0)] ∧ cx.b ≤ N0 ∧ underL N0 [.d (.str a), .d (.int .i64 k1), .d (.int .i64 k2)] = true, ((List.set ((B ++ [[.d (.str []), .d (.int .i64 0), .d (.int .i64 0)]])) ((List.length B + 0)) [.d (.str a), .d (.int .i64 k1), .d (.int .i64 k2)]))[(List.length B + 0)]? = some [.d (.str a), .d (.int .i64 k1), .d (.int .i64 k2)], (beqN a q) = true, ((List.set ((B ++ [[.d (.str []), .d (.int .i64 0), .d (.int .i64 0)]])) ((List.length B + 0)) [.d (.str a), .d (.int .i64 k1), .d (.int .i64 k2)]))[(List.length B + 0)]? = some [.d (.str a), .d (.int .i64 k1), .d (.int .i64 k2)], ((B ++ [[.d (.str []), .d (.int .i64 0), .d (.int .i64 0)]]))[(List.length B + 0)]? = some [.d (.str []), .d (.int .i64 0), .d (.int .i64 0)] ∧ cx.b ≤ (List.length B + 0) ∧ underL ((List.length B + 0)) [.d (.str a), .d (.int .i64 k1), .d (.int .i64 k2)] = true, 0 ≤ k ∧ rq[Int.toNat k]? = some [.str a, .int .i64 k1, .int .i64 k2], (decide (k < ((List.length rq : Nat) : Int))) = true]) := by kernel_rfl
theorem s26_out {callee : Callee} {cx : Cx} (B : List (List AV)) (T : List (Nat × Nat)) (M : List (List (D × D))) (nm q en : List Nat) (ct rp cn eo ev ea : Int) (rq pn pl ek : List (List D)) (N0 N1 : Nat) (k : Int) (x7 x12 x13 x14 x15 x16 x17 x18 x19 x20 : AV) : kC callee cx (pcO (pcB (pcR (pcL (pcR pf26.body))))) [.agg [.d (.str nm), .d (.int .i64 ct), .d (.int .i64 rp), .d (.int .i64 cn), .d (.sl rq), .d (.sl pn), .d (.sl pl), .d (.int .i64 eo), .d (.str en), .d (.int .i64 ev), .d (.sl ek), .d (.int .i64 ea)], .d (.str q), .ptr N1 0, undefA, .ptr N0 0, .d (.int .i64 0), undefA, x7, .ptr N1 4, .d (.sl rq), .d (.int .i64 ((List.length rq : Nat) : Int)), .d (.int .i64 k), x12, x13, x14, x15, x16, x17, x18, x19, x20, undefA] ⟨B, T, M⟩ [.b false] [] = some (.exit 0, [.agg [.d (.str nm), .d (.int .i64 ct), .d (.int .i64 rp), .d (.int .i64 cn), .d (.sl rq), .d (.sl pn), .d (.sl pl), .d (.int .i64 eo), .d (.str en), .d (.int .i64 ev), .d (.sl ek), .d (.int .i64 ea)], .d (.str q), .ptr N1 0, undefA, .ptr N0 0, .d (.int .i64 0), undefA, x7, .ptr N1 4, .d (.sl rq), .d (.int .i64 ((List.length rq : Nat) : Int)), .d (.int .i64 k), .d (.bool false), x13, x14, x15, x16, x17, x18, x19, x20, undefA], ⟨B, T, M⟩, [], [(decide (k < ((List.length rq : Nat) : Int))) = false]) := by kernel_rfl
theorem s26_z {callee : Callee} {cx : Cx} (B : List (List AV)) (T : List (Nat × Nat)) (M : List (List (D × D))) (nm q en : List Nat) (ct rp cn eo ev ea : Int) (rq pn pl ek : List (List D)) (N0 N1 : Nat) (k : Int) (x7 x12 x13 x14 x15 x16 x17 x18 x19 x20 : AV) : kC callee cx (pcR (pcR pf26.body)) [.agg [.d (.str nm), .d (.int .i64 ct), .d (.int .i64 rp), .d (.int .i64 cn), .d (.sl rq), .d (.sl pn), .d (.sl pl), .d (.int .i64 eo), .d (.str en), .d (.int .i64 ev), .d (.sl ek), .d (.int .i64 ea)], .d (.str q), .ptr N1 0, undefA, .ptr N0 0, .d (.int .i64 0), undefA, x7, .ptr N1 4, .d (.sl rq), .d (.int .i64 ((List.length rq : Nat) : Int)), .d (.int .i64 k), .d (.bool false), x13, x14, x15, x16, x17, x18, x19, x20, undefA] ⟨B, T, M⟩ [.c [.d (.str []), .d (.int .i64 0), .d (.int .i64 0)]] [] = some (.ret, [.agg [.d (.str nm), .d (.int .i64 ct), .d (.int .i64 rp), .d (.int .i64 cn), .d (.sl rq), .d (.sl pn), .d (.sl pl), .d (.int .i64 eo), .d (.str en), .d (.int .i64 ev), .d (.sl ek), .d (.int .i64 ea)], .d (.str q), .ptr N1 0, undefA, .ptr N0 0, .d (.int .i64 3), undefA, x7, .ptr N1 4, .d (.sl rq), .d (.int .i64 ((List.length rq : Nat) : Int)), .d (.int .i64 k), .d (.bool false), x13, x14, x15, x16, x17, x18, x19, x20, .agg [.d (.str []), .d (.int .i64 0), .d (.int .i64 0)]], ⟨(List.set B N0 [.d (.str []), .d (.int .i64 0), .d (.int .i64 0)]), T, M⟩, [], [B[N0]? = some [.d (.str []), .d (.int .i64 0), .d (.int .i64 0)] ∧ cx.b ≤ N0 ∧ underL N0 [.d (.str []), .d (.int .i64 0), .d (.int .i64 0)] = true]) := by kernel_rfl
def Row26 (r : List D) : Prop := ∃ a k1 k2, r = [.str a, .int .i64 k1, .int .i64 k2]
theorem round26 {callee : Callee} {cx : Cx} {lf : Nat} {B : List (List AV)} {T : List (Nat × Nat)} {M : List (List (D × D))} {nm q en : List Nat} {ct rp cn eo ev ea : Int} {rq pn pl ek : List (List D)} {N0 N1 : Nat} (hcx : cx.b ≤ B.length) (hlen : (rq).length < 9223372036854775808)
    (hrow : ∀ r, r ∈ rq → Row26 r) (k : Nat) (hk : k < (rq).length) (hmiss : ∀ r, rq[k]? = some r → nameIs q r = false) (x : Env × St) (hx : ∃ X : List (List AV), ∃ x7 x12 x13 x14 x15 x16 x17 x18 x19 x20 : AV, x = (E26 nm q en ct rp cn eo ev ea rq pn pl ek N0 N1 (k : Int) x7 x12 x13 x14 x15 x16 x17 x18 x19 x20, ⟨B ++ X, T, M⟩)) :
    ∃ y : Env × St, runC callee lf cx (pcO (pcB (pcR (pcL (pcR pf26.body))))) x.1 x.2 = some (.normal, y.1, y.2) ∧ ∃ X : List (List AV), ∃ x7 x12 x13 x14 x15 x16 x17 x18 x19 x20 : AV, y = (E26 nm q en ct rp cn eo ev ea rq pn pl ek N0 N1 ((k + 1 : Nat) : Int) x7 x12 x13 x14 x15 x16 x17 x18 x19 x20, ⟨B ++ X, T, M⟩) := by
  obtain ⟨X, x7, x12, x13, x14, x15, x16, x17, x18, x19, x20, rfl⟩ := hx
  obtain ⟨r, hr⟩ : ∃ r, rq[k]? = some r := ⟨_, List.getElem?_eq_getElem hk⟩
  obtain ⟨a, k1, k2, rfl⟩ := hrow r (List.mem_of_getElem? hr)
  have hm := hmiss _ hr
  have h := kC_run (lf := lf) (s26_miss (callee := callee) (cx := cx) (B ++ X) T M nm q en ct rp cn eo ev ea rq pn pl ek N0 N1 (k : Int) x7 x12 x13 x14 x15 x16 x17 x18 x19 x20 a k1 k2)
    (POk.cons hm (POk.cons (by rw [set_last]; simp) (POk.cons ⟨get_last _ _, by simp; omega, rfl⟩ (POk.cons ⟨by omega, by simpa using hr⟩ (POk.cons (by simp; omega) POk.nil)))))
  rw [set_last] at h
  have hw : IntKind.wrap .i64 ((k : Int) + 1) = ((k + 1 : Nat) : Int) := by rw [wrap_small (by omega) (by omega)]; simp
  rw [hw] at h
  rw [List.append_assoc] at h
  exact ⟨(_, _), h, X ++ [[.d (.str a), .d (.int .i64 k1), .d (.int .i64 k2)]], _, _, _, _, _, _, _, _, _, _, rfl⟩
theorem run26 {giv : Nat → Option (List AV → Cx → St → Option (Out × St))} {n : Nat} (hg : giv 26 = none) (nm q en : List Nat) (ct rp cn eo ev ea : Int) (rq pn pl ek : List (List D)) (hlen : rq.length < 9223372036854775808) (hn : rq.length < n)
    (hrow : ∀ r, r ∈ rq → Row26 r) (cx : Cx) (st : St) : run giv tbl2 (n + 1) 26 [segA nm en ct rp cn eo ev ea rq pn pl ek, .d (.str q)] cx st =
      some (.ret (match findR q rq with | some r => .tup [.agg (r.map .d), .d (.int .i64 0)] | none => .tup [.agg [.d (.str []), .d (.int .i64 0), .d (.int .i64 0)], .d (.int .i64 3)]), st) := by
  obtain ⟨B, T, M⟩ := st
  have hrun : run giv tbl2 (n + 1) 26 [segA nm en ct rp cn eo ev ea rq pn pl ek, .d (.str q)] cx ⟨B, T, M⟩ = leave pf26 ⟨B, T, M⟩ (runC (run giv tbl2 n) n (cxOf pf26 cx ⟨B, T, M⟩) pf26.body (enter pf26 [segA nm en ct rp cn eo ev ea rq pn pl ek, .d (.str q)]) ⟨B, T, M⟩) := by
    simp only [run, hg]; rfl
  rw [hrun]
  have hcx : cxOf pf26 cx ⟨B, T, M⟩ = ⟨B.length, T.length, M.length⟩ := rfl
  rw [hcx]
  have hbody : pf26.body = .seq (pcL pf26.body) (.seq (.seq (pcL (pcL (pcR pf26.body))) (.block 0 (.loop (pcO (pcB (pcR (pcL (pcR pf26.body)))))))) (pcR (pcR pf26.body))) := rfl
  rw [hbody]
  have hA := kC_run (lf := n) (s26_a (callee := run giv tbl2 n) (cx := ⟨B.length, T.length, M.length⟩) B T M nm q en ct rp cn eo ev ea rq pn pl ek) POk.nil
  have hI := kC_run (lf := n) (s26_i (callee := run giv tbl2 n) (cx := ⟨B.length, T.length, M.length⟩) ((B ++ [[.d (.str []), .d (.int .i64 0), .d (.int .i64 0)]]) ++ [[.d (.str nm), .d (.int .i64 ct), .d (.int .i64 rp), .d (.int .i64 cn), .d (.sl rq), .d (.sl pn), .d (.sl pl), .d (.int .i64 eo), .d (.str en), .d (.int .i64 ev), .d (.sl ek), .d (.int .i64 ea)]]) T M nm q en ct rp cn eo ev ea rq pn pl ek (B.length + 0) (List.length (B ++ [[.d (.str []), .d (.int .i64 0), .d (.int .i64 0)]]))) (POk.cons (by simp) POk.nil)
  have hB0 : ∀ X : List (List AV), (((B ++ [[.d (.str []), .d (.int .i64 0), .d (.int .i64 0)]]) ++ [[.d (.str nm), .d (.int .i64 ct), .d (.int .i64 rp), .d (.int .i64 cn), .d (.sl rq), .d (.sl pn), .d (.sl pl), .d (.int .i64 eo), .d (.str en), .d (.int .i64 ev), .d (.sl ek), .d (.int .i64 ea)]]) ++ X)[B.length + 0]? = some [.d (.str []), .d (.int .i64 0), .d (.int .i64 0)] := fun X => by
    rw [get_old _ _ (by simp), get_old _ _ (by simp)]; simp
  generalize hB2 : ((B ++ [[.d (.str []), .d (.int .i64 0), .d (.int .i64 0)]]) ++ [[.d (.str nm), .d (.int .i64 ct), .d (.int .i64 rp), .d (.int .i64 cn), .d (.sl rq), .d (.sl pn), .d (.sl pl), .d (.int .i64 eo), .d (.str en), .d (.int .i64 ev), .d (.sl ek), .d (.int .i64 ea)]]) = B2 at *
  have hB2s : B.length + 2 ≤ B2.length := by rw [← hB2, List.length_append, List.length_append]; exact Nat.le_refl _
  have hB2l : B.length ≤ B2.length := by omega
  generalize hN1 : List.length (B ++ [[.d (.str []), .d (.int .i64 0), .d (.int .i64 0)]]) = N1 at *
  have round := fun (k : Nat) (hk : k < rq.length) (hm : ∀ r, rq[k]? = some r → nameIs q r = false) => round26 (callee := run giv tbl2 n) (lf := n) (cx := ⟨B.length, T.length, M.length⟩) (B := B2) (T := T) (M := M) (nm := nm) (q := q) (en := en) (ct := ct) (rp := rp) (cn := cn) (eo := eo) (ev := ev) (ea := ea) (rq := rq) (pn := pn) (pl := pl) (ek := ek) (N0 := B.length + 0) (N1 := N1) hB2l hlen hrow k hk hm
  have start : ∃ X : List (List AV), ∃ x7 x12 x13 x14 x15 x16 x17 x18 x19 x20 : AV, ((E26 nm q en ct rp cn eo ev ea rq pn pl ek (B.length + 0) N1 ((0 : Nat) : Int) undefA undefA undefA undefA undefA undefA undefA undefA undefA undefA, ⟨B2, T, M⟩) : Env × St) = (E26 nm q en ct rp cn eo ev ea rq pn pl ek (B.length + 0) N1 ((0 : Nat) : Int) x7 x12 x13 x14 x15 x16 x17 x18 x19 x20, ⟨B2 ++ X, T, M⟩) := ⟨[], _, _, _, _, _, _, _, _, _, _, by rw [List.append_nil]⟩
  rcases findR_cases q rq with ⟨hf, hno⟩ | ⟨l1, r, l2, hsp, hf, hr, hno⟩
  · obtain ⟨⟨e, s⟩, ⟨X, x7, x12, x13, x14, x15, x16, x17, x18, x19, x20, he⟩, hit⟩ := iter_rounds (body := fun e s => runC (run giv tbl2 n) n ⟨B.length, T.length, M.length⟩ (pcO (pcB (pcR (pcL (pcR pf26.body))))) e s) (fun k x => ∃ X : List (List AV), ∃ x7 x12 x13 x14 x15 x16 x17 x18 x19 x20 : AV, x = (E26 nm q en ct rp cn eo ev ea rq pn pl ek (B.length + 0) N1 (k : Int) x7 x12 x13 x14 x15 x16 x17 x18 x19 x20, ⟨B2 ++ X, T, M⟩)) hn
      (fun k x hk hx => round k hk (fun r hr => hno r (List.mem_of_getElem? hr)) x hx) start
    injection he with he1 he2
    subst he1; subst he2
    obtain ⟨j, hj⟩ : ∃ j, n - rq.length = j + 1 := ⟨n - rq.length - 1, by omega⟩
    have hout := kC_run (lf := n) (s26_out (callee := run giv tbl2 n) (cx := ⟨B.length, T.length, M.length⟩) (B2 ++ X) T M nm q en ct rp cn eo ev ea rq pn pl ek (B.length + 0) N1 (rq.length : Int) x7 x12 x13 x14 x15 x16 x17 x18 x19 x20) (POk.cons (by simp) POk.nil)
    have hl := hit
    rw [hj] at hl
    have hl2 := iter_stop (body := fun e s => runC (run giv tbl2 n) n ⟨B.length, T.length, M.length⟩ (pcO (pcB (pcR (pcL (pcR pf26.body))))) e s) (j := j) hout (by simp)
    have hloop := loop_exit (hl.trans hl2)
    have hz := kC_run (lf := n) (s26_z (callee := run giv tbl2 n) (cx := ⟨B.length, T.length, M.length⟩) (B2 ++ X) T M nm q en ct rp cn eo ev ea rq pn pl ek (B.length + 0) N1 (rq.length : Int) x7 x12 x13 x14 x15 x16 x17 x18 x19 x20) (POk.cons ⟨hB0 X, Nat.le_refl _, rfl⟩ POk.nil)
    rw [seq_normal (show runC (run giv tbl2 n) n ⟨B.length, T.length, M.length⟩ (pcL pf26.body) (enter pf26 [segA nm en ct rp cn eo ev ea rq pn pl ek, .d (.str q)]) ⟨B, T, M⟩ = _ from hA) (seq_normal (seq_normal hI hloop) hz), hf]
    refine leave_find rfl rfl rfl rfl (by rw [List.getElem?_set_self (by simp; omega)]) (by simp) rfl
  · have hl1 : l1.length < rq.length := by rw [hsp]; simp
    obtain ⟨⟨e, s⟩, ⟨X, x7, x12, x13, x14, x15, x16, x17, x18, x19, x20, he⟩, hit⟩ := iter_rounds (body := fun e s => runC (run giv tbl2 n) n ⟨B.length, T.length, M.length⟩ (pcO (pcB (pcR (pcL (pcR pf26.body))))) e s) (fun k x => ∃ X : List (List AV), ∃ x7 x12 x13 x14 x15 x16 x17 x18 x19 x20 : AV, x = (E26 nm q en ct rp cn eo ev ea rq pn pl ek (B.length + 0) N1 (k : Int) x7 x12 x13 x14 x15 x16 x17 x18 x19 x20, ⟨B2 ++ X, T, M⟩)) (show l1.length < n by omega)
      (fun k x hk hx => round k (by omega) (fun r hr => hno r (List.mem_of_getElem? (by rw [hsp, List.getElem?_append_left hk] at hr; exact hr))) x hx) start
    injection he with he1 he2
    subst he1; subst he2
    obtain ⟨j, hj⟩ : ∃ j, n - l1.length = j + 1 := ⟨n - l1.length - 1, by omega⟩
    have hrl : rq[l1.length]? = some r := by rw [hsp]; simp
    obtain ⟨a, k1, k2, rfl⟩ := hrow r (List.mem_of_getElem? hrl)
    have hout := kC_run (lf := n) (s26_hit (callee := run giv tbl2 n) (cx := ⟨B.length, T.length, M.length⟩) (B2 ++ X) T M nm q en ct rp cn eo ev ea rq pn pl ek (B.length + 0) N1 (l1.length : Int) x7 x12 x13 x14 x15 x16 x17 x18 x19 x20 a k1 k2)
      (POk.cons ⟨by rw [set_last, List.append_assoc]; exact hB0 _, Nat.le_refl _, rfl⟩ (POk.cons (by rw [set_last]; simp) (POk.cons hr (POk.cons (by rw [set_last]; simp) (POk.cons ⟨get_last _ _, by simp; omega, rfl⟩ (POk.cons ⟨by omega, by simpa using hrl⟩ (POk.cons (by simp; omega) POk.nil)))))))
    have hl := hit
    rw [hj] at hl
    have hl2 := iter_stop (body := fun e s => runC (run giv tbl2 n) n ⟨B.length, T.length, M.length⟩ (pcO (pcB (pcR (pcL (pcR pf26.body))))) e s) (j := j) hout (by simp)
    have hloop := loop_ret (id := 0) (hl.trans hl2)
    rw [seq_normal (show runC (run giv tbl2 n) n ⟨B.length, T.length, M.length⟩ (pcL pf26.body) (enter pf26 [segA nm en ct rp cn eo ev ea rq pn pl ek, .d (.str q)]) ⟨B, T, M⟩ = _ from hA) (seq_ret (seq_normal hI hloop)), hf]
    refine leave_find rfl rfl rfl rfl (by rw [List.getElem?_set_self (by simp; omega)]) (by simp) rfl

end Go.Rf

namespace Go.Rf
set_option maxRecDepth 100000
set_option linter.unusedVariables false
set_option linter.unusedSimpArgs false
theorem s27_a {callee : Callee} {cx : Cx} (B : List (List AV)) (T : List (Nat × Nat)) (M : List (List (D × D))) (l : List (List D)) : kC callee cx (pcL pf27.body) [.d (.sl l), .d (.sl l), undefA, undefA, undefA, undefA, undefA, undefA, undefA, undefA, undefA, undefA, undefA, undefA, undefA, undefA, undefA, undefA, undefA, undefA, undefA, undefA, undefA, undefA, undefA, undefA] ⟨B, T, M⟩ [] [] = some (.normal, [.d (.sl l), .d (.sl l), undefA, undefA, .d (.bool false), undefA, undefA, undefA, undefA, undefA, undefA, undefA, undefA, undefA, undefA, undefA, undefA, undefA, undefA, undefA, undefA, undefA, undefA, undefA, undefA, undefA], ⟨B, T, M⟩, [], []) := by kernel_rfl
theorem s27_c {callee : Callee} {cx : Cx} (B : List (List AV)) (T : List (Nat × Nat)) (M : List (List (D × D))) (l : List (List D)) : kC callee cx (pcL (pcR pf27.body)) [.d (.sl l), .d (.sl l), undefA, undefA, .d (.bool false), undefA, undefA, undefA, undefA, undefA, undefA, undefA, undefA, undefA, undefA, undefA, undefA, undefA, undefA, undefA, undefA, undefA, undefA, undefA, undefA, undefA] ⟨B, T, M⟩ [.b false] [] = some (.normal, [.d (.sl l), .d (.sl l), undefA, undefA, .d (.bool false), undefA, .d (.sl l), .d (.int .i64 ((List.length l : Nat) : Int)), .d (.sl l), .d (.int .i64 ((List.length l : Nat) : Int)), .d (.bool false), undefA, undefA, undefA, undefA, undefA, undefA, undefA, undefA, undefA, undefA, undefA, undefA, undefA, undefA, undefA], ⟨B, T, M⟩, [], [(((List.length l : Nat) : Int) != ((List.length l : Nat) : Int)) = false]) := by kernel_rfl
theorem s27_i {callee : Callee} {cx : Cx} (B : List (List AV)) (T : List (Nat × Nat)) (M : List (List (D × D))) (l : List (List D)) : kC callee cx (pcL (pcL (pcR (pcR pf27.body)))) [.d (.sl l), .d (.sl l), undefA, undefA, .d (.bool false), undefA, .d (.sl l), .d (.int .i64 ((List.length l : Nat) : Int)), .d (.sl l), .d (.int .i64 ((List.length l : Nat) : Int)), .d (.bool false), undefA, undefA, undefA, undefA, undefA, undefA, undefA, undefA, undefA, undefA, undefA, undefA, undefA, undefA, undefA] ⟨B, T, M⟩ [] [] = some (.normal, [.d (.sl l), .d (.sl l), undefA, undefA, .d (.bool false), .d (.int .i64 0), .d (.sl l), .d (.int .i64 ((List.length l : Nat) : Int)), .d (.sl l), .d (.int .i64 ((List.length l : Nat) : Int)), .d (.bool false), undefA, undefA, undefA, undefA, undefA, undefA, undefA, undefA, undefA, undefA, undefA, undefA, undefA, undefA, undefA], ⟨B, T, M⟩, [], []) := by kernel_rfl
def E27 (l : List (List D)) (k : Int) (x11 x12 x13 x14 x15 x16 x17 x18 x19 x20 x21 x22 x23 x24 x25 : AV) : Env := [.d (.sl l), .d (.sl l), undefA, undefA, .d (.bool false), .d (.int .i64 k), .d (.sl l), .d (.int .i64 ((List.length l : Nat) : Int)), .d (.sl l), .d (.int .i64 ((List.length l : Nat) : Int)), .d (.bool false), x11, x12, x13, x14, x15, x16, x17, x18, x19, x20, x21, x22, x23, x24, x25]
theorem s27_go {callee : Callee} {cx : Cx} (B : List (List AV)) (T : List (Nat × Nat)) (M : List (List (D × D))) (l : List (List D)) (k : Int) (x11 x12 x13 x14 x15 x16 x17 x18 x19 x20 x21 x22 x23 x24 x25 : AV) (a : List Nat) : kC callee cx (pcO (pcB (pcR (pcL (pcR (pcR pf27.body)))))) [.d (.sl l), .d (.sl l), undefA, undefA, .d (.bool false), .d (.int .i64 k), .d (.sl l), .d (.int .i64 ((List.length l : Nat) : Int)), .d (.sl l), .d (.int .i64 ((List.length l : Nat) : Int)), .d (.bool false), x11, x12, x13, x14, x15, x16, x17, x18, x19, x20, x21, x22, x23, x24, x25] ⟨B, T, M⟩ [.b true, .r [.str a], .r [.str a], .b false] [] = some (.normal, [.d (.sl l), .d (.sl l), undefA, undefA, .d (.bool false), .d (.int .i64 (IntKind.wrap .i64 (k + 1))), .d (.sl l), .d (.int .i64 ((List.length l : Nat) : Int)), .d (.sl l), .d (.int .i64 ((List.length l : Nat) : Int)), .d (.bool false), .d (.int .i64 k), .d (.sl l), .d (.int .i64 ((List.length l : Nat) : Int)), .d (.bool true), .d (.int .i64 k), .d (.int .i64 (IntKind.wrap .i64 (k + 1))), .d (.sl l), .d (.int .i64 k), .cptr [.str a], .d (.str a), .d (.sl l), .d (.int .i64 k), .cptr [.str a], .d (.str a), .d (.bool false)], ⟨B, T, M⟩, [], [(!(beqN a a)) = false, 0 ≤ k ∧ l[Int.toNat k]? = some [.str a], 0 ≤ k ∧ l[Int.toNat k]? = some [.str a], (decide (k < ((List.length l : Nat) : Int))) = true]) := by kernel_rfl
theorem s27_out {callee : Callee} {cx : Cx} (B : List (List AV)) (T : List (Nat × Nat)) (M : List (List (D × D))) (l : List (List D)) (k : Int) (x11 x12 x13 x14 x15 x16 x17 x18 x19 x20 x21 x22 x23 x24 x25 : AV) : kC callee cx (pcO (pcB (pcR (pcL (pcR (pcR pf27.body)))))) [.d (.sl l), .d (.sl l), undefA, undefA, .d (.bool false), .d (.int .i64 k), .d (.sl l), .d (.int .i64 ((List.length l : Nat) : Int)), .d (.sl l), .d (.int .i64 ((List.length l : Nat) : Int)), .d (.bool false), x11, x12, x13, x14, x15, x16, x17, x18, x19, x20, x21, x22, x23, x24, x25] ⟨B, T, M⟩ [.b false] [] = some (.exit 0, [.d (.sl l), .d (.sl l), undefA, undefA, .d (.bool false), .d (.int .i64 k), .d (.sl l), .d (.int .i64 ((List.length l : Nat) : Int)), .d (.sl l), .d (.int .i64 ((List.length l : Nat) : Int)), .d (.bool false), .d (.int .i64 k), .d (.sl l), .d (.int .i64 ((List.length l : Nat) : Int)), .d (.bool false), x15, x16, x17, x18, x19, x20, x21, x22, x23, x24, x25], ⟨B, T, M⟩, [], [(decide (k < ((List.length l : Nat) : Int))) = false]) := by kernel_rfl
theorem s27_z {callee : Callee} {cx : Cx} (B : List (List AV)) (T : List (Nat × Nat)) (M : List (List (D × D))) (l : List (List D)) (k : Int) (x11 x12 x13 x14 x15 x16 x17 x18 x19 x20 x21 x22 x23 x24 x25 : AV) : kC callee cx (pcR (pcR (pcR pf27.body))) [.d (.sl l), .d (.sl l), undefA, undefA, .d (.bool false), .d (.int .i64 k), .d (.sl l), .d (.int .i64 ((List.length l : Nat) : Int)), .d (.sl l), .d (.int .i64 ((List.length l : Nat) : Int)), .d (.bool false), .d (.int .i64 k), .d (.sl l), .d (.int .i64 ((List.length l : Nat) : Int)), .d (.bool false), x15, x16, x17, x18, x19, x20, x21, x22, x23, x24, x25] ⟨B, T, M⟩ [] [] = some (.ret, [.d (.sl l), .d (.sl l), undefA, undefA, .d (.bool true), .d (.int .i64 k), .d (.sl l), .d (.int .i64 ((List.length l : Nat) : Int)), .d (.sl l), .d (.int .i64 ((List.length l : Nat) : Int)), .d (.bool false), .d (.int .i64 k), .d (.sl l), .d (.int .i64 ((List.length l : Nat) : Int)), .d (.bool false), x15, x16, x17, x18, x19, x20, x21, x22, x23, x24, x25], ⟨B, T, M⟩, [], []) := by kernel_rfl
theorem beqN_self (a : List Nat) : beqN a a = true := by
  induction a with
  | nil => rfl
  | cons x a ih => simp [beqN, ih]
theorem run27 {giv : Nat → Option (List AV → Cx → St → Option (Out × St))} {n : Nat} (hg : giv 27 = none) (l : List (List D)) (hlen : l.length < 9223372036854775808) (hn : l.length < n) (hrow : ∀ r, r ∈ l → ∃ a, r = [.str a]) (cx : Cx) (st : St) :
    run giv tbl2 (n + 1) 27 [.d (.sl l), .d (.sl l)] cx st = some (.ret (.d (.bool true)), st) := by
  obtain ⟨B, T, M⟩ := st
  have hrun : run giv tbl2 (n + 1) 27 [.d (.sl l), .d (.sl l)] cx ⟨B, T, M⟩ = leave pf27 ⟨B, T, M⟩ (runC (run giv tbl2 n) n (cxOf pf27 cx ⟨B, T, M⟩) pf27.body (enter pf27 [.d (.sl l), .d (.sl l)]) ⟨B, T, M⟩) := by
    simp only [run, hg]; rfl
  rw [hrun]
  generalize hcx : cxOf pf27 cx ⟨B, T, M⟩ = c
  have hbody : pf27.body = .seq (pcL pf27.body) (.seq (pcL (pcR pf27.body)) (.seq (.seq (pcL (pcL (pcR (pcR pf27.body)))) (.block 0 (.loop (pcO (pcB (pcR (pcL (pcR (pcR pf27.body))))))))) (pcR (pcR (pcR pf27.body))))) := rfl
  rw [hbody]
  have hA := kC_run (lf := n) (s27_a (callee := run giv tbl2 n) (cx := c) B T M l) POk.nil
  have hC := kC_run (lf := n) (s27_c (callee := run giv tbl2 n) (cx := c) B T M l) (POk.cons (by simp) POk.nil)
  have hI := kC_run (lf := n) (s27_i (callee := run giv tbl2 n) (cx := c) B T M l) POk.nil
  obtain ⟨⟨e, s⟩, ⟨x11, x12, x13, x14, x15, x16, x17, x18, x19, x20, x21, x22, x23, x24, x25, he⟩, hit⟩ := iter_rounds (body := fun e s => runC (run giv tbl2 n) n c (pcO (pcB (pcR (pcL (pcR (pcR pf27.body)))))) e s) (fun k x => ∃ x11 x12 x13 x14 x15 x16 x17 x18 x19 x20 x21 x22 x23 x24 x25 : AV, x = (E27 l (k : Int) x11 x12 x13 x14 x15 x16 x17 x18 x19 x20 x21 x22 x23 x24 x25, ⟨B, T, M⟩)) hn
    (fun k x hk hx => by
      obtain ⟨x11, x12, x13, x14, x15, x16, x17, x18, x19, x20, x21, x22, x23, x24, x25, rfl⟩ := hx
      obtain ⟨r, hr⟩ : ∃ r, l[k]? = some r := ⟨_, List.getElem?_eq_getElem hk⟩
      obtain ⟨a, rfl⟩ := hrow r (List.mem_of_getElem? hr)
      have h := kC_run (lf := n) (s27_go (callee := run giv tbl2 n) (cx := c) B T M l (k : Int) x11 x12 x13 x14 x15 x16 x17 x18 x19 x20 x21 x22 x23 x24 x25 a)
        (POk.cons (by simp [beqN_self]) (POk.cons ⟨by omega, by simpa using hr⟩ (POk.cons ⟨by omega, by simpa using hr⟩ (POk.cons (by simp; omega) POk.nil))))
      have hw : IntKind.wrap .i64 ((k : Int) + 1) = ((k + 1 : Nat) : Int) := by rw [wrap_small (by omega) (by omega)]; simp
      rw [hw] at h
      exact ⟨(_, _), h, _, _, _, _, _, _, _, _, _, _, _, _, _, _, _, rfl⟩)
    (e0 := E27 l ((0 : Nat) : Int) undefA undefA undefA undefA undefA undefA undefA undefA undefA undefA undefA undefA undefA undefA undefA) (s0 := ⟨B, T, M⟩) ⟨_, _, _, _, _, _, _, _, _, _, _, _, _, _, _, rfl⟩
  injection he with he1 he2
  subst he1; subst he2
  obtain ⟨j, hj⟩ : ∃ j, n - l.length = j + 1 := ⟨n - l.length - 1, by omega⟩
  have hout := kC_run (lf := n) (s27_out (callee := run giv tbl2 n) (cx := c) B T M l (l.length : Int) x11 x12 x13 x14 x15 x16 x17 x18 x19 x20 x21 x22 x23 x24 x25) (POk.cons (by simp) POk.nil)
  have hl := hit
  rw [hj] at hl
  have hl2 := iter_stop (body := fun e s => runC (run giv tbl2 n) n c (pcO (pcB (pcR (pcL (pcR (pcR pf27.body)))))) e s) (j := j) hout (by simp)
  have hloop := loop_exit (hl.trans hl2)
  have hz := kC_run (lf := n) (s27_z (callee := run giv tbl2 n) (cx := c) B T M l (l.length : Int) x11 x12 x13 x14 x15 x16 x17 x18 x19 x20 x21 x22 x23 x24 x25) POk.nil
  rw [seq_normal (show runC (run giv tbl2 n) n c (pcL pf27.body) (enter pf27 [.d (.sl l), .d (.sl l)]) ⟨B, T, M⟩ = _ from hA) (seq_normal hC (seq_normal (seq_normal hI hloop) hz))]
  rfl

end Go.Rf
