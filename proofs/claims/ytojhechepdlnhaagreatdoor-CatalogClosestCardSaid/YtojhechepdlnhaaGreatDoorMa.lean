/- The interpreter: data, operations, what they mean in memory; pure operations. -/
import Derived.Orders
import Derived.Laws.World
import Derived.Laws.Strings
import Derived.Lib.SmallJoins
import Derived.Laws.StructEq
import Derived.Lib.SliceRun
import Derived.Lib.Split
import Derived.Lib.Strings
import Derived.Laws.Tables
namespace Go.Rf
set_option linter.unusedVariables false

/-- Pure data, one cell or (agg) several. A slice (sl) is read only: its rows are its elements' cells. -/
inductive D where
  | int (k : IntKind) (n : Int)
  | bool (b : Bool)
  | str (s : List Nat)
  | sl (rows : List (List D))
  | agg (cs : List D)
  | iface (t : Nat) (x : D)
  | nilI
  | nilP
  | nilM
  | nilF
  deriving Inhabited

/-- Values: data; a slice that may grow (its token, its rows); the nil slice; a slice over a box; a pointer into a box; a pointer to cells that stay; a closure; a map; a struct or array; several results. -/
inductive AV where
  | d (x : D)
  | own (t : Nat) (rows : List (List D))
  | nilS
  | bsl (b : Nat) (n : Nat) (full : Bool)
  | ptr (b : Nat) (off : Nat)
  | cptr (cs : List D)
  | fn (f : Nat) (caps : List AV)
  | map (m : Nat)
  | agg (cs : List AV)
  | tup (vs : List AV)
  deriving Inhabited

inductive PO where
  | t (i : Nat)
  | c (v : AV)
  deriving Inhabited

/-- Operations. -/
inductive PI where
  | mv (x : PO)
  | pick (c a b : PO)
  | alloc (j : Nat)
  | box (x : PO)
  | build (zero : List AV) (parts : List (Nat × Nat × PO))
  | bslice (j : Nat) (esz len : Nat) (zero : List D) (parts : List (Nat × PO))
  | bsliceB (esz len : Nat) (zero : List AV) (parts : List (Nat × PO))
  | mkB (esz bytes : Nat) (zero : List AV) (n : PO)
  | load (agg : Bool) (n : Nat) (x : PO)
  | store (n : Nat) (a v : PO)
  | nilchk (x : PO)
  | bin (op : BinOp) (x y : PO)
  | eqB (neg : Bool) (x y : PO)
  | eqS (ks : List Nat) (neg : Bool) (x y : PO)
  | not (x : PO)
  | neg (x : PO)
  | conv (k : IntKind) (x : PO)
  | convSS (x : PO)
  | mkI (t : Nat) (x : PO)
  | mkF (f : Nat) (caps : List PO)
  | mkM
  | slStr (x : PO) (lo hi : Option PO)
  | slSl (esz : Nat) (x : PO) (lo hi : Option PO)
  | fldA (off : Nat) (x : PO)
  | fldV (agg : Bool) (off n : Nat) (x : PO)
  | idxA (esz : Nat) (x i : PO)
  | idxAA (esz len : Nat) (x i : PO)
  | idxS (x i : PO)
  | idxV (agg : Bool) (esz len : Nat) (x i : PO)
  | lookup (zero : AV) (ok : Bool) (m k : PO)
  | mapup (m k v : PO)
  | lookup2 (zero : AV) (ok : Bool) (m k : PO)
  | mapup2 (m k v : PO)
  | mn3 (x y z : PO)
  | eqNil (x : PO)
  | tassert (t : Nat) (zero : AV) (x : PO)
  | ext (i : Nat) (x : PO)
  | lenS (x : PO)
  | lenL (x : PO)
  | app (j : Nat) (esz bytes : Nat) (s x : PO)
  | appB (esz bytes : Nat) (x : PO)
  | mx (x y : PO)
  | mn (x y : PO)
  | panic (x : PO)
  | call (f : Nat) (args : List PO)
  | callv (f : PO) (args : List PO)
  deriving Inhabited

structure POp where
  dst : Option Nat
  guard : Option (Nat × Bool)
  pi : PI
  re : Option (Nat × Nat) := none
  deriving Inhabited

inductive PC where
  | skip
  | region (rz : List (List AV)) (rt : List (Nat × Nat)) (ops : List POp) (draw : Bool)
  | seq (a b : PC)
  | cond (c : PO) (thn els : PC)
  | block (id : Nat) (body : PC)
  | loop (body : PC)
  | exit (id : Nat)
  | ret
  deriving Inhabited

inductive PRes where
  | t (i : Nat)
  | cell (agg : Bool) (n : Nat) (i : Nat)
  deriving Inhabited

structure PFn where
  ntmps : Nat
  body : PC
  res : List PRes
  quiet : Bool
  deriving Inhabited

structure St where
  boxes : List (List AV)
  toks : List (Nat × Nat)
  maps : List (List (D × D))
  deriving Inhabited

/-- What may be written: boxes, tokens, maps from these numbers on. -/
structure Cx where
  b : Nat
  t : Nat
  m : Nat
  deriving Inhabited

abbrev Env := List AV
def undefA : AV := .tup []

def Env.get (e : Env) (i : Nat) : AV := e.getD i undefA
def PO.ev (e : Env) : PO → AV
  | .t i => e.getD i undefA
  | .c v => v
def putE (e : Env) : Option Nat → AV → Env
  | some d, v => e.set d v
  | none, _ => e

/-! ### data -/
def beqN : List Nat → List Nat → Bool
  | [], [] => true
  | a :: x, b :: y => Nat.beq a b && beqN x y
  | _, _ => false
def bless : List Nat → List Nat → Bool
  | _, [] => false
  | [], _ :: _ => true
  | a :: x, b :: y => Nat.blt a b || (Nat.beq a b && bless x y)

/-- Equality of data of the basic kinds; none elsewhere. -/
def D.beq1 : D → D → Option Bool
  | .int k a, .int k' b => if k = k' then some (a == b) else none
  | .bool a, .bool b => some (a == b)
  | .str a, .str b => some (beqN a b)
  | _, _ => none
def beqAll : List D → List D → Option Bool
  | [], [] => some true
  | a :: x, b :: y => match a.beq1 b, beqAll x y with
    | some p, some q => some (p && q)
    | _, _ => none
  | _, _ => none
/-- The same, the kinds given: 0 whole numbers, 1 bools, 2 strings. -/
def D.beqT : Nat → D → D → Option Bool
  | 0, .int k a, .int k' b => if k = k' then some (a == b) else none
  | 1, .bool a, .bool b => some (a == b)
  | 2, .str a, .str b => some (beqN a b)
  | _, _, _ => none
def beqKs : List Nat → List D → List D → Option Bool
  | [], [], [] => some true
  | k :: ks, a :: x, b :: y => match a.beqT k b, beqKs ks x y with
    | some p, some q => some (p && q)
    | _, _ => none
  | _, _, _ => none
def D.one : D → Bool
  | .agg _ => false
  | _ => true
def D.cells : D → List D
  | .agg cs => cs
  | x => [x]
/-- Keys: basic data, or aggregates of such. -/
def D.beqK (a b : D) : Option Bool := match a, b with
  | .agg x, .agg y => beqAll x y
  | _, _ => a.beq1 b

/-- A cell as data. -/
def AV.toD : AV → Option D
  | .d x => if x.one then some x else none
  | .own _ rows => some (.sl rows)
  | .nilS => some (.sl [])
  | _ => none
def AV.cells : AV → List AV
  | .agg cs => cs
  | v => [v]
def toDs : List AV → Option (List D)
  | [] => some []
  | v :: vs => match v.toD, toDs vs with
    | some x, some xs => some (x :: xs)
    | _, _ => none
/-- A value of several cells or of one as data. -/
def AV.toRow (v : AV) : Option (List D) := toDs v.cells
def AV.isOne : AV → Bool
  | .agg _ => false
  | .tup _ => false
  | .d (.agg _) => false
  | _ => true
/-- The rows of a slice. -/
def AV.rows : AV → Option (List (List D))
  | .d (.sl rows) => some rows
  | .own _ rows => some rows
  | .nilS => some []
  | _ => none

mutual
/-- All pointers lead to boxes below n. -/
def AV.under (n : Nat) : AV → Bool
  | .ptr b _ => Nat.blt b n
  | .bsl b _ _ => Nat.blt b n
  | .fn _ caps => underL n caps
  | .agg cs => underL n cs
  | .tup vs => underL n vs
  | _ => true
def underL (n : Nat) : List AV → Bool
  | [] => true
  | v :: vs => v.under n && underL n vs
end

/-- A quiet function's result: its own tokens are forgotten. -/
def freeze1 (cx : Cx) : AV → Option AV
  | .d x => some (.d x)
  | .own t rows => if t < cx.t then some (.own t rows) else some (.d (.sl rows))
  | .nilS => some .nilS
  | .bsl b n f => if b < cx.b then some (.bsl b n f) else none
  | .ptr b o => if b < cx.b then some (.ptr b o) else none
  | .cptr cs => some (.cptr cs)
  | .fn f caps => if underL cx.b caps then (if caps.all fun c => match c with | .ptr _ _ => true | _ => false then some (.fn f caps) else none) else none
  | .map m => if m < cx.m then some (.map m) else none
  | .agg _ => none
  | .tup _ => none
def freezeL (cx : Cx) : List AV → Option (List AV)
  | [] => some []
  | v :: vs => match freeze1 cx v, freezeL cx vs with
    | some x, some xs => some (x :: xs)
    | _, _ => none
def freeze2 (cx : Cx) : AV → Option AV
  | .agg cs => (freezeL cx cs).map .agg
  | v => freeze1 cx v
def freeze2L (cx : Cx) : List AV → Option (List AV)
  | [] => some []
  | v :: vs => match freeze2 cx v, freeze2L cx vs with
    | some x, some xs => some (x :: xs)
    | _, _ => none
def freeze (cx : Cx) : AV → Option AV
  | .tup vs => (freeze2L cx vs).map .tup
  | v => freeze2 cx v

/-! ### operations -/
inductive Out where
  | ret (v : AV)
  | pan (v : D)
  deriving Inhabited

inductive R where
  | val (v : AV) (st : St)
  | enter (f : Nat) (args : List AV)
  | pan (v : D)
  deriving Inhabited

def binD (op : BinOp) : D → D → Option D
  | .int k a, .int k' b => if k = k' then
      match op with
      | .add => some (.int k (k.wrap (a + b)))
      | .sub => some (.int k (k.wrap (a - b)))
      | .mul => some (.int k (k.wrap (a * b)))
      | .quo => if b = 0 then none else some (.int k (k.wrap (a.tdiv b)))
      | .rem => if b = 0 then none else some (.int k (a.tmod b))
      | .eql => some (.bool (a == b))
      | .neq => some (.bool (a != b))
      | .lss => some (.bool (a < b))
      | .leq => some (.bool (a ≤ b))
      | .gtr => some (.bool (a > b))
      | .geq => some (.bool (a ≥ b))
      | _ => none
    else none
  | .str a, .str b =>
      match op with
      | .add => if a.length + b.length ≤ 4611686018427387904 then some (.str (a ++ b)) else none
      | .eql => some (.bool (beqN a b))
      | .neq => some (.bool !(beqN a b))
      | .lss => some (.bool (bless a b))
      | .leq => some (.bool (bless a b || beqN a b))
      | .gtr => some (.bool !(bless a b || beqN a b))
      | .geq => some (.bool !(bless a b))
      | _ => none
  | _, _ => none

def fillA : List AV → List (Nat × Nat × AV) → Option (List AV)
  | cells, [] => some cells
  | cells, (off, size, v) :: rest =>
    let cs := v.cells
    if cs.length = size ∧ off + size ≤ cells.length ∧ cs.all AV.isOne = true then fillA (cells.take off ++ cs ++ cells.drop (off + size)) rest else none
def setRow (rows : List (List D)) (parts : List (Nat × AV)) (esz : Nat) : Option (List (List D)) :=
  match parts with
  | [] => some rows
  | (i, v) :: rest => match v.toRow with
    | some r => if r.length = esz ∧ i < rows.length then setRow (rows.set i r) rest esz else none
    | none => none

def intOfD : AV → Option (IntKind × Int)
  | .d (.int k n) => some (k, n)
  | _ => none

def bound (env : Env) (top : Nat) : Option PO → Nat → Option Nat
  | none, dflt => some dflt
  | some x, _ => match x.ev env with
    | .d (.int _ n) => if 0 ≤ n ∧ n ≤ top then some n.toNat else none
    | _ => none

def findS (s : List Nat) : List (D × D) → Option (Option D)
  | [] => some none
  | (.str a, v) :: rest => if beqN s a then some (some v) else findS s rest
  | _ => none
def putS (s : List Nat) (v : D) : List (D × D) → Option (List (D × D))
  | [] => some [(.str s, v)]
  | (.str a, u) :: rest => if beqN s a then some ((.str a, v) :: rest) else (putS s v rest).map ((.str a, u) :: ·)
  | _ => none

/-- Keys of two strings. -/
def keyP : AV → Option (List Nat × List Nat)
  | .agg [.d (.str a), .d (.str b)] => some (a, b)
  | _ => none
def isKeyP (a b : List Nat) : D → Option Bool
  | .agg [.str c, .str d] => some (beqN a c && beqN b d)
  | _ => none
def findP (a b : List Nat) : List (D × D) → Option (Option D)
  | [] => some none
  | (k, v) :: rest => match isKeyP a b k with
    | some true => some (some v)
    | some false => findP a b rest
    | none => none
def putP (a b : List Nat) (v : D) : List (D × D) → Option (List (D × D))
  | [] => some [(.agg [.str a, .str b], v)]
  | (k, u) :: rest => match isKeyP a b k with
    | some true => some ((k, v) :: rest)
    | some false => (putP a b v rest).map ((k, u) :: ·)
    | none => none

def maxBytes : Nat := 140737488355328

def x_mv (x : PO) (cx : Cx) (bb tb : Nat) (env : Env) (st : St) : Option R := some (.val (x.ev env) st)
def x_pick (c : PO) (a : PO) (b : PO) (cx : Cx) (bb tb : Nat) (env : Env) (st : St) : Option R := match c.ev env with
    | .d (.bool true) => some (.val (a.ev env) st)
    | .d (.bool false) => some (.val (b.ev env) st)
    | _ => none
def x_alloc (j : Nat) (cx : Cx) (bb tb : Nat) (env : Env) (st : St) : Option R := some (.val (.ptr (bb + j) 0) st)
def x_box (x : PO) (cx : Cx) (bb tb : Nat) (env : Env) (st : St) : Option R :=
    let cs := (x.ev env).cells
    if cs.all AV.isOne && underL st.boxes.length cs then some (.val (.ptr st.boxes.length 0) { st with boxes := st.boxes ++ [cs] }) else none
def x_build (zero : List AV) (parts : List (Nat × Nat × PO)) (cx : Cx) (bb tb : Nat) (env : Env) (st : St) : Option R := match fillA zero (parts.map fun (o, n, x) => (o, n, x.ev env)) with
    | some cs => if cs.all AV.isOne then some (.val (.agg cs) st) else none
    | none => none
def x_bslice (j : Nat) (esz : Nat) (len : Nat) (zero : List D) (parts : List (Nat × PO)) (cx : Cx) (bb tb : Nat) (env : Env) (st : St) : Option R := match setRow (List.replicate len zero) (parts.map fun (i, x) => (i, x.ev env)) esz with
    | some rows => some (.val (.own (tb + j) rows) st)
    | none => none
def x_bsliceB (esz : Nat) (len : Nat) (zero : List AV) (parts : List (Nat × PO)) (cx : Cx) (bb tb : Nat) (env : Env) (st : St) : Option R := match fillA ((List.replicate len zero).flatten) (parts.map fun (i, x) => (i * esz, esz, x.ev env)) with
    | some cs => if cs.all AV.isOne && underL st.boxes.length cs then some (.val (.bsl st.boxes.length len true) { st with boxes := st.boxes ++ [cs] }) else none
    | none => none
def x_mkB (_q0 : Nat) (bytes : Nat) (zero : List AV) (n : PO) (cx : Cx) (bb tb : Nat) (env : Env) (st : St) : Option R := match n.ev env with
    | .d (.int .i64 n) => if 0 ≤ n ∧ n.toNat * bytes ≤ maxBytes then
        some (.val (.bsl st.boxes.length n.toNat true) { st with boxes := st.boxes ++ [(List.replicate n.toNat zero).flatten] }) else none
    | _ => none
def x_load (agg : Bool) (n : Nat) (x : PO) (cx : Cx) (bb tb : Nat) (env : Env) (st : St) : Option R := match x.ev env with
    | .ptr b o => match st.boxes[b]? with
      | some cs => if agg then (if o + n ≤ cs.length then some (.val (.agg ((cs.drop o).take n)) st) else none)
                   else (cs[o]?).map fun v => .val v st
      | none => none
    | .cptr cs => if agg then (if n ≤ cs.length then some (.val (.agg ((cs.take n).map .d)) st) else none)
                  else (cs[0]?).map fun v => .val (.d v) st
    | _ => none
def x_store (n : Nat) (a : PO) (v : PO) (cx : Cx) (bb tb : Nat) (env : Env) (st : St) : Option R := match a.ev env with
    | .ptr b o => match st.boxes[b]? with
      | some cs =>
        let vs := (v.ev env).cells
        if vs.length = n ∧ o + n ≤ cs.length ∧ cx.b ≤ b ∧ vs.all AV.isOne ∧ underL b vs then
          some (.val undefA { st with boxes := st.boxes.set b (cs.take o ++ vs ++ cs.drop (o + n)) }) else none
      | none => none
    | _ => none
def x_nilchk (x : PO) (cx : Cx) (bb tb : Nat) (env : Env) (st : St) : Option R := match x.ev env with
    | .ptr b o => some (.val (.ptr b o) st)
    | .cptr cs => some (.val (.cptr cs) st)
    | _ => none
def x_bin (op : BinOp) (x : PO) (y : PO) (cx : Cx) (bb tb : Nat) (env : Env) (st : St) : Option R := match x.ev env, y.ev env with
    | .d a, .d b => (binD op a b).map fun v => .val (.d v) st
    | _, _ => none
def x_eqB (neg : Bool) (x : PO) (y : PO) (cx : Cx) (bb tb : Nat) (env : Env) (st : St) : Option R := match x.ev env, y.ev env with
    | .d (.bool a), .d (.bool b) => some (.val (.d (.bool (if neg then !(a == b) else a == b))) st)
    | _, _ => none
def x_eqS (ks : List Nat) (neg : Bool) (x : PO) (y : PO) (cx : Cx) (bb tb : Nat) (env : Env) (st : St) : Option R := match x.ev env, y.ev env with
    | .agg a, .agg b => match toDs a, toDs b with
      | some p, some q => (beqKs ks p q).map fun r => .val (.d (.bool (if neg then !r else r))) st
      | _, _ => none
    | _, _ => none
def x_not (x : PO) (cx : Cx) (bb tb : Nat) (env : Env) (st : St) : Option R := match x.ev env with
    | .d (.bool b) => some (.val (.d (.bool !b)) st)
    | _ => none
def x_neg (x : PO) (cx : Cx) (bb tb : Nat) (env : Env) (st : St) : Option R := match x.ev env with
    | .d (.int k n) => some (.val (.d (.int k (k.wrap (0 - n)))) st)
    | _ => none
def x_conv (k : IntKind) (x : PO) (cx : Cx) (bb tb : Nat) (env : Env) (st : St) : Option R := match x.ev env with
    | .d (.int _ n) => some (.val (.d (.int k (k.wrap n))) st)
    | _ => none
def x_convSS (x : PO) (cx : Cx) (bb tb : Nat) (env : Env) (st : St) : Option R := match x.ev env with
    | .d (.str s) => some (.val (.d (.str s)) st)
    | _ => none
def x_mkI (t : Nat) (x : PO) (cx : Cx) (bb tb : Nat) (env : Env) (st : St) : Option R := match x.ev env with
    | .d v => some (.val (.d (.iface t v)) st)
    | .agg cs => match toDs cs with
      | some ds => some (.val (.d (.iface t (.agg ds))) st)
      | none => none
    | _ => none
def x_mkF (f : Nat) (caps : List PO) (cx : Cx) (bb tb : Nat) (env : Env) (st : St) : Option R :=
    let cs := caps.map (·.ev env)
    if cs.all fun c => match c with | .ptr _ _ => true | _ => false then some (.val (.fn f cs) st) else none
def x_mkM (cx : Cx) (bb tb : Nat) (env : Env) (st : St) : Option R := some (.val (.map st.maps.length) { st with maps := st.maps ++ [[]] })
def x_slStr (x : PO) (lo : Option PO) (hi : Option PO) (cx : Cx) (bb tb : Nat) (env : Env) (st : St) : Option R := match x.ev env with
    | .d (.str s) => match bound env s.length hi s.length with
      | some h => match bound env h lo 0 with
        | some l => some (.val (.d (.str ((s.take h).drop l))) st)
        | none => none
      | none => none
    | _ => none
def headLen (esz : Nat) : List (List D) → Bool
  | [] => true
  | r :: _ => r.length == esz
def x_slSl (esz : Nat) (x : PO) (lo : Option PO) (hi : Option PO) (cx : Cx) (bb tb : Nat) (env : Env) (st : St) : Option R := match (x.ev env).rows with
    | some rows => if headLen esz rows then (match bound env rows.length hi rows.length with
      | some h => (match bound env h lo 0 with
        | some l => some (.val (.d (.sl ((rows.take h).drop l))) st)
        | none => none)
      | none => none) else none
    | none => none
def x_fldA (off : Nat) (x : PO) (cx : Cx) (bb tb : Nat) (env : Env) (st : St) : Option R := match x.ev env with
    | .ptr b o => some (.val (.ptr b (o + off)) st)
    | .cptr cs => some (.val (.cptr (cs.drop off)) st)
    | _ => none
def x_fldV (agg : Bool) (off : Nat) (n : Nat) (x : PO) (cx : Cx) (bb tb : Nat) (env : Env) (st : St) : Option R := match x.ev env with
    | .agg cs => if agg then (if off + n ≤ cs.length then some (.val (.agg ((cs.drop off).take n)) st) else none)
                 else (cs[off]?).map fun v => .val v st
    | _ => none
def x_idxA (esz : Nat) (x : PO) (i : PO) (cx : Cx) (bb tb : Nat) (env : Env) (st : St) : Option R := match i.ev env with
    | .d (.int _ n) => if 0 ≤ n then
        match x.ev env with
        | .bsl b len _ => if n < len then some (.val (.ptr b (n.toNat * esz)) st) else none
        | v => match v.rows with
          | some rows => match rows[n.toNat]? with
            | some r => if r.length = esz then some (.val (.cptr r) st) else none
            | none => none
          | none => none
      else none
    | _ => none
def x_idxAA (esz : Nat) (len : Nat) (x : PO) (i : PO) (cx : Cx) (bb tb : Nat) (env : Env) (st : St) : Option R := match i.ev env, x.ev env with
    | .d (.int _ n), .ptr b o => if 0 ≤ n ∧ n < len then some (.val (.ptr b (o + n.toNat * esz)) st) else none
    | _, _ => none
def x_idxS (x : PO) (i : PO) (cx : Cx) (bb tb : Nat) (env : Env) (st : St) : Option R := match i.ev env, x.ev env with
    | .d (.int _ n), .d (.str s) => if 0 ≤ n then (s[n.toNat]?).map fun (c : Nat) => R.val (.d (.int .u8 (c : Int))) st else none
    | _, _ => none
def x_idxV (agg : Bool) (esz : Nat) (len : Nat) (x : PO) (i : PO) (cx : Cx) (bb tb : Nat) (env : Env) (st : St) : Option R := match i.ev env, x.ev env with
    | .d (.int _ n), .agg cs => if 0 ≤ n ∧ n < len ∧ cs.length = len * esz then
        (if agg then some (.val (.agg ((cs.drop (n.toNat * esz)).take esz)) st) else (cs[n.toNat * esz]?).map fun v => .val v st) else none
    | _, _ => none
def x_lookup (zero : AV) (ok : Bool) (m : PO) (k : PO) (cx : Cx) (bb tb : Nat) (env : Env) (st : St) : Option R := match m.ev env, k.ev env with
    | .map m, .d (.str s) => match st.maps[m]? with
      | some es => match findS s es with
        | some r =>
          let v := match r with | some x => AV.d x | none => zero
          some (.val (if ok then .tup [v, .d (.bool r.isSome)] else v) st)
        | none => none
      | none => none
    | _, _ => none
def x_mapup (m : PO) (k : PO) (v : PO) (cx : Cx) (bb tb : Nat) (env : Env) (st : St) : Option R := match m.ev env, k.ev env, v.ev env with
    | .map m, .d (.str s), .d x => if cx.m ≤ m ∧ x.one then match st.maps[m]? with
      | some es => match putS s x es with
        | some es' => some (.val undefA { st with maps := st.maps.set m es' })
        | none => none
      | none => none
      else none
    | _, _, _ => none
def x_lookup2 (zero : AV) (ok : Bool) (m : PO) (k : PO) (cx : Cx) (bb tb : Nat) (env : Env) (st : St) : Option R := match m.ev env, keyP (k.ev env) with
    | .map m, some (a, b) => match st.maps[m]? with
      | some es => match findP a b es with
        | some r =>
          let v := match r with | some x => AV.d x | none => zero
          some (.val (if ok then .tup [v, .d (.bool r.isSome)] else v) st)
        | none => none
      | none => none
    | _, _ => none
def x_mapup2 (m : PO) (k : PO) (v : PO) (cx : Cx) (bb tb : Nat) (env : Env) (st : St) : Option R := match m.ev env, keyP (k.ev env), v.ev env with
    | .map m, some (a, b), .d x => if cx.m ≤ m ∧ x.one then match st.maps[m]? with
      | some es => match putP a b x es with
        | some es' => some (.val undefA { st with maps := st.maps.set m es' })
        | none => none
      | none => none
      else none
    | _, _, _ => none
def nilOf : AV → Option Bool
  | .nilS => some true
  | .own _ (_ :: _) => some false
  | .d (.sl (_ :: _)) => some false
  | .bsl _ _ _ => some false
  | _ => none
def x_eqNil (x : PO) (cx : Cx) (bb tb : Nat) (env : Env) (st : St) : Option R := (nilOf (x.ev env)).map fun b => .val (.d (.bool b)) st
def x_mn3 (x : PO) (y : PO) (z : PO) (cx : Cx) (bb tb : Nat) (env : Env) (st : St) : Option R := match x.ev env, y.ev env, z.ev env with
    | .d (.int k a), .d (.int k' b), .d (.int k'' c) => if k = k' ∧ k = k'' then some (.val (.d (.int k (let m := if b < a then b else a; if c < m then c else m))) st) else none
    | _, _, _ => none
def x_tassert (t : Nat) (zero : AV) (x : PO) (cx : Cx) (bb tb : Nat) (env : Env) (st : St) : Option R := match x.ev env with
    | .d (.iface u v) => if u = t then some (.val (.tup [match v with | .agg cs => .agg (cs.map .d) | _ => .d v, .d (.bool true)]) st) else some (.val (.tup [zero, .d (.bool false)]) st)
    | .d .nilI => some (.val (.tup [zero, .d (.bool false)]) st)
    | _ => none
def x_ext (i : Nat) (x : PO) (cx : Cx) (bb tb : Nat) (env : Env) (st : St) : Option R := match x.ev env with
    | .tup vs => (vs[i]?).map fun v => .val v st
    | _ => none
def x_lenS (x : PO) (cx : Cx) (bb tb : Nat) (env : Env) (st : St) : Option R := match x.ev env with
    | .d (.str s) => some (.val (.d (.int .i64 s.length)) st)
    | _ => none
def x_lenL (x : PO) (cx : Cx) (bb tb : Nat) (env : Env) (st : St) : Option R := match x.ev env with
    | .bsl _ n _ => some (.val (.d (.int .i64 n)) st)
    | v => match v.rows with
      | some rows => some (.val (.d (.int .i64 rows.length)) st)
      | none => none
def x_app (j : Nat) (esz : Nat) (bytes : Nat) (s : PO) (x : PO) (cx : Cx) (bb tb : Nat) (env : Env) (st : St) : Option R := match (x.ev env).rows with
    | none => none
    | some news =>
      if ¬ (news.all fun r => r.length = esz) then none else
      match s.ev env with
      | .nilS =>
        if news.length * bytes ≤ maxBytes then
          if news.isEmpty then some (.val .nilS st)
          else some (.val (.own (tb + j) news) { st with toks := st.toks.set (tb + j) (news.length, esz) })
        else none
      | .own t rows => match st.toks[t]? with
        | some (used, sz) =>
          if used = rows.length ∧ sz = esz ∧ cx.t ≤ t ∧ (rows.length + news.length) * bytes ≤ maxBytes then
            some (.val (.own t (rows ++ news)) { st with toks := st.toks.set t (rows.length + news.length, esz) }) else none
        | none => none
      | .bsl b n true => match st.boxes[b]? with
        | some cs => match toDs cs with
          | some ds =>
            if ds.length = n * esz ∧ ¬ news.isEmpty ∧ (n + news.length) * bytes ≤ maxBytes then
              let rows := (List.range n).map fun i => (ds.drop (i * esz)).take esz
              some (.val (.own (tb + j) (rows ++ news)) { st with toks := st.toks.set (tb + j) (n + news.length, esz) }) else none
          | none => none
        | none => none
      | _ => none
def x_appB (esz : Nat) (bytes : Nat) (x : PO) (cx : Cx) (bb tb : Nat) (env : Env) (st : St) : Option R := match (x.ev env).rows with
    | some news => if (news.all fun r => r.length = esz) ∧ news.length * bytes ≤ maxBytes ∧ ¬ news.isEmpty then
        some (.val (.bsl st.boxes.length news.length false) { st with boxes := st.boxes ++ [(news.flatten).map .d] }) else none
    | none => none
def x_mx (x : PO) (y : PO) (cx : Cx) (bb tb : Nat) (env : Env) (st : St) : Option R := match x.ev env, y.ev env with
    | .d (.int k a), .d (.int k' b) => if k = k' then some (.val (.d (.int k (if b > a then b else a))) st) else none
    | _, _ => none
def x_mn (x : PO) (y : PO) (cx : Cx) (bb tb : Nat) (env : Env) (st : St) : Option R := match x.ev env, y.ev env with
    | .d (.int k a), .d (.int k' b) => if k = k' then some (.val (.d (.int k (if b < a then b else a))) st) else none
    | _, _ => none
def x_panic (x : PO) (cx : Cx) (bb tb : Nat) (env : Env) (st : St) : Option R := match x.ev env with
    | .d (.iface t v) => some (.pan (.iface t v))
    | _ => none
def x_call (f : Nat) (args : List PO) (cx : Cx) (bb tb : Nat) (env : Env) (st : St) : Option R := some (.enter f (args.map (·.ev env)))
def x_callv (f : PO) (args : List PO) (cx : Cx) (bb tb : Nat) (env : Env) (st : St) : Option R := match f.ev env with
    | .fn f caps => some (.enter f (args.map (·.ev env) ++ caps))
    | _ => none
/-- One operation: bb, tb are where the region's own boxes and tokens begin. -/
def exec (cx : Cx) (bb tb : Nat) (env : Env) (st : St) : PI → Option R
  | .mv p0 => x_mv p0 cx bb tb env st
  | .pick p0 p1 p2 => x_pick p0 p1 p2 cx bb tb env st
  | .alloc p0 => x_alloc p0 cx bb tb env st
  | .box p0 => x_box p0 cx bb tb env st
  | .build p0 p1 => x_build p0 p1 cx bb tb env st
  | .bslice p0 p1 p2 p3 p4 => x_bslice p0 p1 p2 p3 p4 cx bb tb env st
  | .bsliceB p0 p1 p2 p3 => x_bsliceB p0 p1 p2 p3 cx bb tb env st
  | .mkB p0 p1 p2 p3 => x_mkB p0 p1 p2 p3 cx bb tb env st
  | .load p0 p1 p2 => x_load p0 p1 p2 cx bb tb env st
  | .store p0 p1 p2 => x_store p0 p1 p2 cx bb tb env st
  | .nilchk p0 => x_nilchk p0 cx bb tb env st
  | .bin p0 p1 p2 => x_bin p0 p1 p2 cx bb tb env st
  | .eqB p0 p1 p2 => x_eqB p0 p1 p2 cx bb tb env st
  | .eqS p0 p1 p2 p3 => x_eqS p0 p1 p2 p3 cx bb tb env st
  | .not p0 => x_not p0 cx bb tb env st
  | .neg p0 => x_neg p0 cx bb tb env st
  | .conv p0 p1 => x_conv p0 p1 cx bb tb env st
  | .convSS p0 => x_convSS p0 cx bb tb env st
  | .mkI p0 p1 => x_mkI p0 p1 cx bb tb env st
  | .mkF p0 p1 => x_mkF p0 p1 cx bb tb env st
  | .mkM => x_mkM cx bb tb env st
  | .slStr p0 p1 p2 => x_slStr p0 p1 p2 cx bb tb env st
  | .slSl p0 p1 p2 p3 => x_slSl p0 p1 p2 p3 cx bb tb env st
  | .fldA p0 p1 => x_fldA p0 p1 cx bb tb env st
  | .fldV p0 p1 p2 p3 => x_fldV p0 p1 p2 p3 cx bb tb env st
  | .idxA p0 p1 p2 => x_idxA p0 p1 p2 cx bb tb env st
  | .idxAA p0 p1 p2 p3 => x_idxAA p0 p1 p2 p3 cx bb tb env st
  | .idxS p0 p1 => x_idxS p0 p1 cx bb tb env st
  | .idxV p0 p1 p2 p3 p4 => x_idxV p0 p1 p2 p3 p4 cx bb tb env st
  | .lookup p0 p1 p2 p3 => x_lookup p0 p1 p2 p3 cx bb tb env st
  | .mapup p0 p1 p2 => x_mapup p0 p1 p2 cx bb tb env st
  | .lookup2 p0 p1 p2 p3 => x_lookup2 p0 p1 p2 p3 cx bb tb env st
  | .mapup2 p0 p1 p2 => x_mapup2 p0 p1 p2 cx bb tb env st
  | .mn3 p0 p1 p2 => x_mn3 p0 p1 p2 cx bb tb env st
  | .eqNil p0 => x_eqNil p0 cx bb tb env st
  | .tassert p0 p1 p2 => x_tassert p0 p1 p2 cx bb tb env st
  | .ext p0 p1 => x_ext p0 p1 cx bb tb env st
  | .lenS p0 => x_lenS p0 cx bb tb env st
  | .lenL p0 => x_lenL p0 cx bb tb env st
  | .app p0 p1 p2 p3 p4 => x_app p0 p1 p2 p3 p4 cx bb tb env st
  | .appB p0 p1 p2 => x_appB p0 p1 p2 cx bb tb env st
  | .mx p0 p1 => x_mx p0 p1 cx bb tb env st
  | .mn p0 p1 => x_mn p0 p1 cx bb tb env st
  | .panic p0 => x_panic p0 cx bb tb env st
  | .call p0 p1 => x_call p0 p1 cx bb tb env st
  | .callv p0 p1 => x_callv p0 p1 cx bb tb env st

/-! ### code -/
inductive Ex where
  | normal
  | exit (id : Nat)
  | ret
  | pan (v : D)
  deriving Inhabited

abbrev Callee := Nat → List AV → Cx → St → Option (Out × St)

def wanted (env : Env) : Option (Nat × Bool) → Bool
  | none => true
  | some (j, want) => match env.getD j undefA with
    | .d (.bool b) => b == want
    | _ => false

mutual
def D.same : D → D → Bool
  | .int k n, .int k' n' => decide (k = k') && decide (n = n')
  | .bool a, .bool b => a == b
  | .str a, .str b => beqN a b
  | .sl r, .sl r' => sameLL r r'
  | .agg c, .agg c' => sameL c c'
  | .iface t x, .iface t' x' => Nat.beq t t' && D.same x x'
  | .nilI, .nilI => true
  | .nilP, .nilP => true
  | .nilM, .nilM => true
  | .nilF, .nilF => true
  | _, _ => false
def sameL : List D → List D → Bool
  | [], [] => true
  | a :: x, b :: y => D.same a b && sameL x y
  | _, _ => false
def sameLL : List (List D) → List (List D) → Bool
  | [], [] => true
  | a :: x, b :: y => sameL a b && sameLL x y
  | _, _ => false
end
def AV.same1 : AV → AV → Bool
  | .d x, .d y => x.same y
  | .own t r, .own t' r' => Nat.beq t t' && sameLL r r'
  | .nilS, .nilS => true
  | .ptr b o, .ptr b' o' => Nat.beq b b' && Nat.beq o o'
  | .cptr c, .cptr c' => sameL c c'
  | .map m, .map m' => Nat.beq m m'
  | _, _ => false
def same1L : List AV → List AV → Bool
  | [], [] => true
  | a :: x, b :: y => a.same1 b && same1L x y
  | _, _ => false
def AV.same : AV → AV → Bool
  | .agg c, .agg c' => same1L c c'
  | a, b => a.same1 b

def stepOp (callee : Callee) (cx : Cx) (bb tb : Nat) (env : Env) (st : St) (pi : PI) : Option (Out × St) := match exec cx bb tb env st pi with
  | some (.val v st') => some (.ret v, st')
  | some (.enter f args) => callee f args cx st
  | some (.pan v) => some (.pan v, st)
  | none => none

def runOps (callee : Callee) (cx : Cx) (bb tb : Nat) : List POp → Env → St → Option (Ex × Env × St)
  | [], env, st => some (.normal, env, st)
  | o :: rest, env, st =>
    if wanted env o.guard then
      match stepOp callee cx bb tb env st o.pi with
      | some (.ret v, st') => runOps callee cx bb tb rest (putE env o.dst v) st'
      | some (.pan v, st') => some (.pan v, env, st')
      | none => none
    else runOps callee cx bb tb rest (putE env o.dst undefA) st

/-- Environment and state before each operation, and at the end. -/
def traceOps (callee : Callee) (cx : Cx) (bb tb : Nat) : List POp → Env → St → List (Env × St)
  | [], env, st => [(env, st)]
  | o :: rest, env, st => (env, st) :: (if wanted env o.guard then
      match stepOp callee cx bb tb env st o.pi with
      | some (.ret v, st') => traceOps callee cx bb tb rest (putE env o.dst v) st'
      | _ => []
    else traceOps callee cx bb tb rest (putE env o.dst undefA) st)
def sameAt (cx : Cx) (bb tb : Nat) (pi : PI) (e : Env) (s s' : St) : Bool := match exec cx bb tb e s pi, exec cx bb tb e s' pi with
  | some (.val v _), some (.val v' _) => v.same v'
  | _, _ => false
/-- A reading operation gives the same wherever it may come. -/
def recheck (cx : Cx) (bb tb : Nat) (tr : List (Env × St)) : List POp → Nat → Bool
  | [], _ => true
  | p :: ps, i => (match p.re with
    | none => true
    | some (lo, hi) => match tr[i]? with
      | some (e, s) => !wanted e p.guard || (List.range' lo (hi + 1 - lo)).all fun k => match tr[k]? with
        | some (_, s') => sameAt cx bb tb p.pi e s s'
        | none => false
      | none => false) && recheck cx bb tb tr ps (i + 1)
def runDraw (callee : Callee) (cx : Cx) (bb tb : Nat) (ps : List POp) (env : Env) (st : St) : Option (Ex × Env × St) :=
  match runOps callee cx bb tb ps env st with
  | some (.normal, env', st') => if ps.all (fun p => p.re.isNone) || recheck cx bb tb (traceOps callee cx bb tb ps env st) ps 0 then some (.normal, env', st') else none
  | _ => none

def iter (body : Env → St → Option (Ex × Env × St)) : Nat → Env → St → Option (Ex × Env × St)
  | 0, _, _ => none
  | n + 1, env, st => match body env st with
    | some (.normal, env', st') => iter body n env' st'
    | r => r

def runC (callee : Callee) (lf : Nat) (cx : Cx) : PC → Env → St → Option (Ex × Env × St)
  | .skip, env, st => some (.normal, env, st)
  | .region rz rt ops draw, env, st => if draw then runDraw callee cx st.boxes.length st.toks.length ops env { boxes := st.boxes ++ rz, toks := st.toks ++ rt, maps := st.maps }
    else runOps callee cx st.boxes.length st.toks.length ops env { boxes := st.boxes ++ rz, toks := st.toks ++ rt, maps := st.maps }
  | .seq a b, env, st => match runC callee lf cx a env st with
    | some (.normal, env', st') => runC callee lf cx b env' st'
    | r => r
  | .cond c x y, env, st => match c.ev env with
    | .d (.bool true) => runC callee lf cx x env st
    | .d (.bool false) => runC callee lf cx y env st
    | _ => none
  | .block id c, env, st => match runC callee lf cx c env st with
    | some (.exit id', env', st') => if id' = id then some (.normal, env', st') else some (.exit id', env', st')
    | r => r
  | .loop c, env, st => iter (fun e s => runC callee lf cx c e s) lf env st
  | .exit id, env, st => some (.exit id, env, st)
  | .ret, env, st => some (.ret, env, st)

def readRes (env : Env) (st : St) : PRes → Option AV
  | .t i => some (env.getD i undefA)
  | .cell agg n i => match env.getD i undefA with
    | .ptr b o => match st.boxes[b]? with
      | some cs => if agg then (if o + n ≤ cs.length then some (.agg ((cs.drop o).take n)) else none) else cs[o]?
      | none => none
    | _ => none
def readAll (env : Env) (st : St) : List PRes → Option (List AV)
  | [] => some []
  | r :: rs => match readRes env st r, readAll env st rs with
    | some v, some vs => some (v :: vs)
    | _, _ => none
def packRes : List AV → AV
  | [v] => v
  | vs => .tup vs

/-- What comes back of a run of a body. -/
def leave (pf : PFn) (st : St) : Option (Ex × Env × St) → Option (Out × St)
  | some (.normal, env, st') | some (.ret, env, st') => match readAll env st' pf.res with
    | some vs =>
      if pf.quiet then match freeze ⟨st.boxes.length, st.toks.length, st.maps.length⟩ (packRes vs) with
        | some v => some (.ret v, st)
        | none => none
      else if (packRes vs).under st.boxes.length then some (.ret (packRes vs), { st' with boxes := st'.boxes.take st.boxes.length }) else none
    | none => none
  | some (.pan v, _, st') => if pf.quiet then some (.pan v, st) else some (.pan v, { st' with boxes := st'.boxes.take st.boxes.length })
  | _ => none

def enter (pf : PFn) (args : List AV) : Env := args ++ List.replicate (pf.ntmps - args.length) undefA
def cxOf (pf : PFn) (cx : Cx) (st : St) : Cx := if pf.quiet then ⟨st.boxes.length, st.toks.length, st.maps.length⟩ else cx

/-- Runs: given functions first, then the table. -/
def run (giv : Nat → Option (List AV → Cx → St → Option (Out × St))) (tbl : Nat → Option PFn) : Nat → Callee
  | 0, _, _, _, _ => none
  | n + 1, f, args, cx, st => match giv f with
    | some g => g args cx st
    | none => match tbl f with
      | some pf => if args.length ≤ pf.ntmps then leave pf st (runC (run giv tbl n) n (cxOf pf cx st) pf.body (enter pf args) st) else none
      | none => none

end Go.Rf

namespace Go.Rf
set_option linter.unusedVariables false

inductive Role where
  | free
  /-- Neither read nor written by the run. -/
  | other
  | box (id : Nat)
  | tok (t : Nat)
  | map (m : Nat)

/-- Nobody's. -/
def Role.idle : Role → Bool
  | .free => true
  | .other => true
  | _ => false

/-- Which blocks the boxes, tokens and maps are. -/
structure Gh where
  bx : List (Option Nat)
  tk : List (Option (Nat × Nat × Nat))
  mp : List Nat
  role : Nat → Role

/-- Cells that stay: of blocks that aren't ours, and the used part of a token's block. -/
def Safe (g : Gh) (st : St) (w : World) (b off : Nat) : Prop :=
  b < w.heap.size ∧ (g.role b = .free ∨ ∃ t sz used, g.role b = .tok t ∧ g.tk[t]? = some (some (b, sz, used)) ∧ off < used * sz)

abbrev cellA (w : World) (b off : Nat) : Option Value := w.cell? ⟨b, off, none⟩

inductive DR (S : Nat → Nat → Prop) (w : World) : D → Value → Prop
  | int (k : IntKind) (n : Int) : DR S w (.int k n) (.int k n)
  | bool (b : Bool) : DR S w (.bool b) (.bool b)
  | str (l : List Nat) (s : ByteArray) : s.data.toList.map UInt8.toNat = l → DR S w (.str l) (.string s)
  | sl0 (a : Option Addr) (cap : Nat) : DR S w (.sl []) (.slice a 0 cap)
  | sl (rows : List (List D)) (b off cap sz : Nat) (vals : Nat → Nat → Value) :
      rows.length ≤ cap → (∀ r, r ∈ rows → r.length = sz) →
      (∀ (j : Nat) r (i : Nat) c, rows[j]? = some r → r[i]? = some c → cellA w b (off + j * sz + i) = some (vals j i) ∧ S b (off + j * sz + i) ∧ c.one = true) →
      (∀ (j : Nat) r (i : Nat) c, rows[j]? = some r → r[i]? = some c → DR S w c (vals j i)) →
      DR S w (.sl rows) (.slice (some ⟨b, off, none⟩) rows.length cap)
  | agg (cs : List D) (vs : Array Value) : cs.length = vs.size →
      (∀ (i : Nat) c v, cs[i]? = some c → vs[i]? = some v → DR S w c v) → (∀ c, c ∈ cs → c.one = true) → DR S w (.agg cs) (.agg vs)
  | iface (t : Nat) (x : D) (v : Value) : DR S w x v → DR S w (.iface t x) (.iface t v)
  | nilI : DR S w .nilI .nilIface
  | nilP : DR S w .nilP (.pointer none)
  | nilM : DR S w .nilM (.map none)
  | nilF : DR S w .nilF .nilFunc

inductive VR (g : Gh) (S : Nat → Nat → Prop) (w : World) : AV → Value → Prop
  | d (x : D) (v : Value) : DR S w x v → VR g S w (.d x) v
  | own (t : Nat) (rows : List (List D)) (v : Value) (b sz used : Nat) : g.tk[t]? = some (some (b, sz, used)) → rows.length ≤ used → DR S w (.sl rows) v →
      (rows.length = used → ∃ cap cur ty, v = .slice (some ⟨b, 0, none⟩) rows.length cap ∧ w.heap[b]? = some (.cells cur ty (0, 0)) ∧ cur.size = cap * sz ∧ rows.length ≤ cap ∧ ∀ r, r ∈ rows → r.length = sz) →
      VR g S w (.own t rows) v
  | nilS : VR g S w .nilS (.slice none 0 0)
  | bsl (id n : Nat) (full : Bool) (b cap : Nat) : g.bx[id]? = some (some b) → n ≤ cap → (full = true → cap = n) →
      VR g S w (.bsl id n full) (.slice (some ⟨b, 0, none⟩) n cap)
  | ptr (id off b : Nat) : g.bx[id]? = some (some b) → VR g S w (.ptr id off) (.pointer (some ⟨b, off, none⟩))
  | cptr (cs : List D) (b off : Nat) (vals : Nat → Value) :
      (∀ (i : Nat) c, cs[i]? = some c → cellA w b (off + i) = some (vals i) ∧ S b (off + i) ∧ c.one = true) →
      (∀ (i : Nat) c, cs[i]? = some c → DR S w c (vals i)) → VR g S w (.cptr cs) (.pointer (some ⟨b, off, none⟩))
  | fn (f : Nat) (caps : List AV) (vs : Array Value) : caps.length = vs.size → (∀ (i : Nat) c v, caps[i]? = some c → vs[i]? = some v → VR g S w c v) →
      VR g S w (.fn f caps) (.func (.func f) #[] vs)
  | map (m r : Nat) : g.mp[m]? = some r → VR g S w (.map m) (.map (some r))
  | agg (cs : List AV) (vs : Array Value) : cs.length = vs.size → (∀ (i : Nat) c v, cs[i]? = some c → vs[i]? = some v → VR g S w c v) →
      (∀ c, c ∈ cs → c.isOne = true) → VR g S w (.agg cs) (.agg vs)
  | tup (cs : List AV) (vs : Array Value) : cs.length = vs.size → (∀ (i : Nat) c v, cs[i]? = some c → vs[i]? = some v → VR g S w c v) → VR g S w (.tup cs) (.tuple vs)

/-- What keeps a value's meaning. -/
structure Keeps (g : Gh) (S : Nat → Nat → Prop) (w : World) (g' : Gh) (S' : Nat → Nat → Prop) (w' : World) : Prop where
  bx : ∀ (i b : Nat), g.bx[i]? = some (some b) → g'.bx[i]? = some (some b)
  tk : ∀ (t b sz used : Nat), g.tk[t]? = some (some (b, sz, used)) → ∃ b' sz' used', g'.tk[t]? = some (some (b', sz', used')) ∧ (used < used' ∨ (b' = b ∧ sz' = sz ∧ used' = used ∧
    ∀ cur ty, w.heap[b]? = some (.cells cur ty (0, 0)) → ∃ cur', w'.heap[b]? = some (.cells cur' ty (0, 0)) ∧ cur'.size = cur.size))
  mp : ∀ (m r : Nat), g.mp[m]? = some r → g'.mp[m]? = some r
  safe : ∀ (b off : Nat), S b off → S' b off ∧ ∀ v, cellA w b off = some v → cellA w' b off = some v

theorem DR.keep {S S' : Nat → Nat → Prop} {w w' : World} (hs : ∀ (b off : Nat), S b off → S' b off ∧ ∀ v, cellA w b off = some v → cellA w' b off = some v) {x : D} {v : Value} (h : DR S w x v) : DR S' w' x v := by
  induction h with
  | int k n => exact .int k n
  | bool b => exact .bool b
  | str l s e => exact .str l s e
  | sl0 a cap => exact .sl0 a cap
  | sl rows b off cap sz vals hcap h1 h2 _ ih =>
    refine .sl rows b off cap sz vals hcap h1 (fun j r i c hj hi => ?_) ih
    obtain ⟨ha, hb, hc⟩ := h2 j r i c hj hi
    obtain ⟨hb', hk⟩ := hs _ _ hb
    exact ⟨hk _ ha, hb', hc⟩
  | agg cs vs hl _ h1 ih => exact .agg cs vs hl ih h1
  | iface t x v _ ih => exact .iface t x v ih
  | nilI => exact .nilI
  | nilP => exact .nilP
  | nilM => exact .nilM
  | nilF => exact .nilF

theorem VR.keep {g g' : Gh} {S S' : Nat → Nat → Prop} {w w' : World} (hk : Keeps g S w g' S' w') {x : AV} {v : Value} (h : VR g S w x v) : VR g' S' w' x v := by
  induction h with
  | d x v h => exact .d x v (h.keep hk.safe)
  | own t rows v b sz used h1 h2 h3 h4 =>
    obtain ⟨b', sz', used', hk1, hk2⟩ := hk.tk t b sz used h1
    rcases hk2 with hlt | ⟨rfl, rfl, rfl, hblk⟩
    · exact .own t rows v b' sz' used' hk1 (by omega) (h3.keep hk.safe) (fun e => by omega)
    · refine .own t rows v b' sz' used' hk1 h2 (h3.keep hk.safe) (fun e => ?_)
      obtain ⟨cap, cur, ty, e1, e2, e3, e4, e5⟩ := h4 e
      obtain ⟨cur', e6, e7⟩ := hblk cur ty e2
      exact ⟨cap, cur', ty, e1, e6, e7.trans e3, e4, e5⟩
  | nilS => exact .nilS
  | bsl id n full b cap h1 h2 h3 => exact .bsl id n full b cap (hk.bx _ _ h1) h2 h3
  | ptr id off b h => exact .ptr id off b (hk.bx _ _ h)
  | cptr cs b off vals h1 h2 =>
    refine .cptr cs b off vals (fun i c hc => ?_) (fun i c hc => (h2 i c hc).keep hk.safe)
    obtain ⟨ha, hb, ho⟩ := h1 i c hc
    obtain ⟨hb', hkk⟩ := hk.safe _ _ hb
    exact ⟨hkk _ ha, hb', ho⟩
  | fn f caps vs hl _ ih => exact .fn f caps vs hl ih
  | map m r h => exact .map m r (hk.mp _ _ h)
  | agg cs vs hl _ h1 ih => exact .agg cs vs hl ih h1
  | tup cs vs hl _ ih => exact .tup cs vs hl ih

theorem Keeps.refl (g : Gh) (S : Nat → Nat → Prop) (w : World) : Keeps g S w g S w :=
  ⟨fun _ _ h => h, fun _ b sz used h => ⟨b, sz, used, h, .inr ⟨rfl, rfl, rfl, fun cur _ h => ⟨cur, h, rfl⟩⟩⟩, fun _ _ h => h, fun _ _ h => ⟨h, fun _ hv => hv⟩⟩
theorem Keeps.trans {g1 g2 g3 : Gh} {S1 S2 S3 : Nat → Nat → Prop} {w1 w2 w3 : World} (h : Keeps g1 S1 w1 g2 S2 w2) (k : Keeps g2 S2 w2 g3 S3 w3) : Keeps g1 S1 w1 g3 S3 w3 where
  bx i b e := k.bx i b (h.bx i b e)
  tk t b sz used e := by
    obtain ⟨b2, sz2, used2, e2, h2⟩ := h.tk t b sz used e
    obtain ⟨b3, sz3, used3, e3, h3⟩ := k.tk t b2 sz2 used2 e2
    refine ⟨b3, sz3, used3, e3, ?_⟩
    rcases h2 with h2 | ⟨rfl, rfl, rfl, h2⟩
    · rcases h3 with h3 | ⟨rfl, rfl, rfl, h3⟩
      · exact .inl (by omega)
      · exact .inl h2
    · rcases h3 with h3 | ⟨rfl, rfl, rfl, h3⟩
      · exact .inl h3
      · refine .inr ⟨rfl, rfl, rfl, fun cur ty hb => ?_⟩
        obtain ⟨c2, hb2, hs2⟩ := h2 cur ty hb
        obtain ⟨c3, hb3, hs3⟩ := h3 c2 ty hb2
        exact ⟨c3, hb3, hs3.trans hs2⟩
  mp m r e := k.mp m r (h.mp m r e)
  safe b off hs := by
    obtain ⟨h1, h2⟩ := h.safe b off hs
    obtain ⟨h3, h4⟩ := k.safe b off h1
    exact ⟨h3, fun v hv => h4 v (h2 v hv)⟩

/-- A map's entries. -/
def EntR (S : Nat → Nat → Prop) (w : World) (es : List (D × D)) (ents : Array MapEntry) : Prop :=
  es.length = ents.size ∧ ∀ (i : Nat) k v e, es[i]? = some (k, v) → ents[i]? = some e → DR S w k e.key ∧ DR S w v e.val ∧ v.one = true

/-- A state in memory. -/
structure SR (g : Gh) (st : St) (w : World) : Prop where
  lb : g.bx.length = st.boxes.length
  lt : g.tk.length = st.toks.length
  lm : g.mp.length = st.maps.length
  rb : ∀ (i b : Nat), g.bx[i]? = some (some b) → g.role b = .box i
  rt : ∀ (t b sz used : Nat), g.tk[t]? = some (some (b, sz, used)) → g.role b = .tok t
  rm : ∀ (m r : Nat), g.mp[m]? = some r → g.role r = .map m
  box : ∀ (i b : Nat) cs, g.bx[i]? = some (some b) → st.boxes[i]? = some cs → ∃ cur ty, w.heap[b]? = some (.cells cur ty (0, 0)) ∧ cur.size = cs.length ∧
    (∀ (j : Nat) c v, cs[j]? = some c → cur[j]? = some v → VR g (Safe g st w) w c v)
  one : ∀ (i : Nat) cs, st.boxes[i]? = some cs → cs.all AV.isOne = true ∧ underL i cs = true
  tok : ∀ (t b sz used : Nat), g.tk[t]? = some (some (b, sz, used)) → ∃ cur ty, st.toks[t]? = some (used, sz) ∧ w.heap[b]? = some (.cells cur ty (0, 0))
  map : ∀ (m r : Nat) es, g.mp[m]? = some r → st.maps[m]? = some es → ∃ ents clock, w.heap[r]? = some (.map ents clock) ∧ EntR (Safe g st w) w es ents

/-- The world behind a piece of a run: what wasn't ours stays, and what may not be written. -/
structure Ext (cx : Cx) (g : Gh) (st : St) (w : World) (g' : Gh) (st' : St) (w' : World) : Prop where
  os : w'.os = w.os
  tape : w'.tape = w.tape
  output : w'.output = w.output
  size : w.heap.size ≤ w'.heap.size
  free : ∀ b, b < w.heap.size → (g.role b).idle = true → w'.heap[b]? = w.heap[b]? ∧ g'.role b = g.role b
  keeps : Keeps g (Safe g st w) w g' (Safe g' st' w') w'
  rob : ∀ (i b : Nat), i < cx.b → g.bx[i]? = some (some b) → w'.heap[b]? = w.heap[b]?
  rot : ∀ (t : Nat) x, t < cx.t → g.tk[t]? = some (some x) → w'.heap[x.1]? = w.heap[x.1]? ∧ g'.tk[t]? = some (some x)
  rom : ∀ (m r : Nat), m < cx.m → g.mp[m]? = some r → w'.heap[r]? = w.heap[r]?
  sb : ∀ (i : Nat), i < cx.b → st'.boxes[i]? = st.boxes[i]?
  stk : ∀ (t : Nat), t < cx.t → st'.toks[t]? = st.toks[t]?
  sm : ∀ (m : Nat), m < cx.m → st'.maps[m]? = st.maps[m]?
  lenb : st.boxes.length ≤ st'.boxes.length
  lent : st.toks.length ≤ st'.toks.length
  lenm : st.maps.length ≤ st'.maps.length

theorem Ext.refl (cx : Cx) (g : Gh) (st : St) (w : World) : Ext cx g st w g st w where
  os := rfl
  tape := rfl
  output := rfl
  size := Nat.le_refl _
  free _ _ _ := ⟨rfl, rfl⟩
  keeps := Keeps.refl _ _ _
  rob _ _ _ _ := rfl
  rot _ _ _ h := ⟨rfl, h⟩
  rom _ _ _ _ := rfl
  sb _ _ := rfl
  stk _ _ := rfl
  sm _ _ := rfl
  lenb := Nat.le_refl _
  lent := Nat.le_refl _
  lenm := Nat.le_refl _

theorem Ext.trans {cx : Cx} {g1 g2 g3 : Gh} {s1 s2 s3 : St} {w1 w2 w3 : World} (h : Ext cx g1 s1 w1 g2 s2 w2) (k : Ext cx g2 s2 w2 g3 s3 w3) : Ext cx g1 s1 w1 g3 s3 w3 where
  os := k.os.trans h.os
  tape := k.tape.trans h.tape
  output := k.output.trans h.output
  size := Nat.le_trans h.size k.size
  free b hb hr := by
    obtain ⟨h1, h2⟩ := h.free b hb hr
    obtain ⟨k1, k2⟩ := k.free b (Nat.lt_of_lt_of_le hb h.size) (by rw [h2]; exact hr)
    exact ⟨k1.trans h1, k2.trans h2⟩
  keeps := h.keeps.trans k.keeps
  rob i b hi e := (k.rob i b hi (h.keeps.bx i b e)).trans (h.rob i b hi e)
  rot t x ht e := by
    obtain ⟨h1, h2⟩ := h.rot t x ht e
    obtain ⟨k1, k2⟩ := k.rot t x ht h2
    exact ⟨k1.trans h1, k2⟩
  rom m r hm e := (k.rom m r hm (h.keeps.mp m r e)).trans (h.rom m r hm e)
  sb i hi := (k.sb i hi).trans (h.sb i hi)
  stk t ht := (k.stk t ht).trans (h.stk t ht)
  sm m hm := (k.sm m hm).trans (h.sm m hm)
  lenb := Nat.le_trans h.lenb k.lenb
  lent := Nat.le_trans h.lent k.lent
  lenm := Nat.le_trans h.lenm k.lenm

end Go.Rf

namespace Go.Rf
set_option linter.unusedVariables false
set_option linter.unusedSimpArgs false

def natsOf (s : ByteArray) : List Nat := s.data.toList.map UInt8.toNat

/-- A constant. -/
def ckC : AV → Value → Bool
  | .d (.int k n), .int k' n' => decide (k = k') && n == n'
  | .d (.bool b), .bool b' => b == b'
  | .d (.str l), .string s => l == natsOf s
  | .nilS, .slice none 0 0 => true
  | .d (.sl []), .slice none 0 0 => true
  | .d .nilP, .pointer none => true
  | .d .nilI, .nilIface => true
  | .d .nilF, .nilFunc => true
  | .d .nilM, .map none => true
  | _, _ => false
def ckPO : PO → Operand → Bool
  | .t i, .tmp j => i == j
  | .c (.fn f []), .func f' => f == f'
  | .c v, .const v' => ckC v v'
  | _, _ => false

theorem ckC_ok {g : Gh} {S : Nat → Nat → Prop} {w : World} {v : AV} {u : Value} (h : ckC v u = true) : VR g S w v u := by
  unfold ckC at h
  split at h
  · simp only [Bool.and_eq_true, decide_eq_true_eq, beq_iff_eq] at h
    obtain ⟨rfl, rfl⟩ := h
    exact .d _ _ (.int _ _)
  · simp only [beq_iff_eq] at h
    subst h
    exact .d _ _ (.bool _)
  · simp only [beq_iff_eq] at h
    exact .d _ _ (.str _ _ h.symm)
  · exact .nilS
  · exact .d _ _ (.sl0 _ _)
  · exact .d _ _ .nilP
  · exact .d _ _ .nilI
  · exact .d _ _ .nilF
  · exact .d _ _ .nilM
  · exact absurd h (by simp)

/-- The temporaries. -/
def ER (g : Gh) (S : Nat → Nat → Prop) (w : World) (env : Env) (tmps : Array Value) : Prop :=
  env.length = tmps.size ∧ ∀ (i : Nat) a v, env[i]? = some a → tmps[i]? = some v → VR g S w a v

theorem VR.undef {g : Gh} {S : Nat → Nat → Prop} {w : World} : VR g S w undefA undef := .tup [] #[] rfl (fun i c v h => by simp at h)

theorem ER.get {g : Gh} {S : Nat → Nat → Prop} {w : World} {env : Env} {tmps : Array Value} (h : ER g S w env tmps) (i : Nat) : VR g S w (env.getD i undefA) (tmps.getD i undef) := by
  obtain ⟨hl, hv⟩ := h
  rcases Nat.lt_or_ge i env.length with hi | hi
  · have h1 : env[i]? = some env[i] := List.getElem?_eq_getElem hi
    have h2 : tmps[i]? = some tmps[i] := Array.getElem?_eq_getElem (by omega)
    have := hv i _ _ h1 h2
    simpa [List.getD_eq_getElem?_getD, h1, h2] using this
  · have h1 : env[i]? = none := List.getElem?_eq_none hi
    have h2 : tmps[i]? = none := Array.getElem?_eq_none (by omega)
    simpa [List.getD_eq_getElem?_getD, h1, h2] using VR.undef

theorem ER.ev {g : Gh} {S : Nat → Nat → Prop} {w : World} {env : Env} {a : Act} (h : ER g S w env a.tmps) {x : PO} {o : Operand} (hx : ckPO x o = true) : VR g S w (x.ev env) (a.eval o) := by
  unfold ckPO at hx
  split at hx
  · simp only [beq_iff_eq] at hx
    subst hx
    exact h.get _
  · simp only [beq_iff_eq] at hx
    subst hx
    exact .fn _ [] #[] rfl (fun i c v h => by simp at h)
  · exact ckC_ok hx
  · exact absurd hx (by simp)

theorem ER.keep {g g' : Gh} {S S' : Nat → Nat → Prop} {w w' : World} {env : Env} {tmps : Array Value} (hk : Keeps g S w g' S' w') (h : ER g S w env tmps) : ER g' S' w' env tmps :=
  ⟨h.1, fun i a v ha hv => (h.2 i a v ha hv).keep hk⟩

theorem ER.put {g : Gh} {S : Nat → Nat → Prop} {w : World} {env : Env} {a : Act} (h : ER g S w env a.tmps) (dst : Option Nat) {x : AV} {v : Value} (hv : VR g S w x v) : ER g S w (putE env dst x) (a.put dst v).tmps := by
  cases dst with
  | none => exact h
  | some d =>
    refine ⟨by simp [putE, Act.put, h.1], fun i b u hb hu => ?_⟩
    simp only [putE, Act.put] at hb hu
    rw [List.getElem?_set] at hb
    rw [Array.getElem?_setIfInBounds] at hu
    split at hb
    · rename_i hd
      subst hd
      simp only [if_true] at hu
      split at hb
      · rename_i hlt
        have : d < a.tmps.size := by have := h.1; omega
        rw [if_pos this] at hu
        injection hb with hb; injection hu with hu
        subst hb; subst hu
        exact hv
      · exact absurd hb (by simp)
    · rename_i hd
      rw [if_neg hd] at hu
      exact h.2 i b u hb hu

/-- What is kept ready stays so, but for one box and one token. -/
structure Rsv (kb kt : Option Nat) (g : Gh) (st : St) (g' : Gh) (st' : St) : Prop where
  b : ∀ (i : Nat), g.bx[i]? = some none → kb ≠ some i → g'.bx[i]? = some none ∧ st'.boxes[i]? = st.boxes[i]?
  t : ∀ (i : Nat), g.tk[i]? = some none → kt ≠ some i → g'.tk[i]? = some none ∧ st'.toks[i]? = st.toks[i]?
theorem Rsv.refl (kb kt : Option Nat) (g : Gh) (st : St) : Rsv kb kt g st g st := ⟨fun _ h _ => ⟨h, rfl⟩, fun _ h _ => ⟨h, rfl⟩⟩
theorem Rsv.mono {g g' : Gh} {st st' : St} (h : Rsv none none g st g' st') (kb kt : Option Nat) : Rsv kb kt g st g' st' := ⟨fun i e _ => h.b i e (by simp), fun i e _ => h.t i e (by simp)⟩
theorem Rsv.trans {kb kt : Option Nat} {g1 g2 g3 : Gh} {s1 s2 s3 : St} (h : Rsv kb kt g1 s1 g2 s2) (k : Rsv kb kt g2 s2 g3 s3) : Rsv kb kt g1 s1 g3 s3 :=
  ⟨fun i e hk => by
    obtain ⟨h1, h2⟩ := h.b i e hk
    obtain ⟨h3, h4⟩ := k.b i h1 hk
    exact ⟨h3, h4.trans h2⟩, fun i e hk => by
    obtain ⟨h1, h2⟩ := h.t i e hk
    obtain ⟨h3, h4⟩ := k.t i h1 hk
    exact ⟨h3, h4.trans h2⟩⟩

/-- One operation, carried out: what it gives and leaves. -/
def Sim (P : Program) (cx : Cx) (kb kt : Option Nat) (g : Gh) (st : St) (w : World) (o : Oper) (a : Act) (v : AV) (st' : St) : Prop :=
  ∃ g' u w' nx, (execOp a.eval o).run P w = .ok nx w' ∧ (nx = .value u ∨ (nx = .skip ∧ u = undef)) ∧ VR g' (Safe g' st' w') w' v u ∧ SR g' st' w' ∧ Ext cx g st w g' st' w' ∧ Rsv kb kt g st g' st'

theorem Sim.pure {P : Program} {cx : Cx} {kb kt : Option Nat} {g : Gh} {st : St} {w : World} {o : Oper} {a : Act} {v : AV} (hs : SR g st w) (u : Value)
    (hr : (execOp a.eval o).run P w = .ok (.value u) w) (hv : VR g (Safe g st w) w v u) : Sim P cx kb kt g st w o a v st :=
  ⟨g, u, w, _, hr, .inl rfl, hv, hs, Ext.refl _ _ _ _, Rsv.refl _ _ _ _⟩

theorem map_inj {l m : List UInt8} (h : l.map UInt8.toNat = m.map UInt8.toNat) : l = m := by
  induction l generalizing m with
  | nil => cases m with
    | nil => rfl
    | cons b m => simp at h
  | cons a l ih => cases m with
    | nil => simp at h
    | cons b m =>
      simp only [List.map_cons, List.cons.injEq] at h
      rw [UInt8.toNat_inj.1 h.1, ih h.2]

theorem beqN_eq (a b : List Nat) : beqN a b = (a == b) := by
  induction a generalizing b with
  | nil => cases b <;> rfl
  | cons x a ih => cases b with
    | nil => rfl
    | cons y b => rw [beqN, ih, List.cons_beq_cons]; congr 1; rw [Bool.eq_iff_iff]; simp [Nat.beq_eq_true_eq]
theorem beqN_map (a b : List UInt8) : beqN (a.map UInt8.toNat) (b.map UInt8.toNat) = (a == b) := by
  rw [beqN_eq, Bool.eq_iff_iff]
  simp only [beq_iff_eq]
  exact ⟨map_inj, fun h => by rw [h]⟩
theorem bless_map (a b : List UInt8) : bless (a.map UInt8.toNat) (b.map UInt8.toNat) = Op.bytesLess a b := by
  induction a generalizing b with
  | nil => cases b <;> rfl
  | cons x a ih => cases b with
    | nil => rfl
    | cons y b =>
      simp only [List.map_cons, bless, Op.bytesLess, ih]
      have h1 : Nat.blt x.toNat y.toNat = decide (x < y) := by
        rw [Bool.eq_iff_iff]; simp [Nat.blt_eq, UInt8.lt_iff_toNat_lt]
      have h2 : Nat.beq x.toNat y.toNat = (x == y) := by
        rw [Bool.eq_iff_iff]; simp [Nat.beq_eq_true_eq, UInt8.toNat_inj]
      rw [h1, h2]

/-- The data operation against the model's. -/
theorem binD_ok {P : Program} {S : Nat → Nat → Prop} {w : World} {op : BinOp} {t : TypeId} {a b r : D} {u v : Value} (x y : Operand) (ha : DR S w a u) (hb : DR S w b v) (h : binD op a b = some r) :
    ∃ z, (do eqGuard op t x y u v; binOp op t u v : Sem Value).run P w = .ok z w ∧ DR S w r z := by
  unfold binD at h
  split at h
  · rename_i k m k' n
    cases ha; cases hb
    split at h
    · rename_i hk
      subst hk
      cases op <;> simp only [Option.some.injEq, reduceCtorEq] at h
      case quo =>
        split at h
        · exact absurd h (by simp)
        · rename_i hz
          injection h with h; subst h
          exact ⟨.int k (k.wrap (m.tdiv n)), by simp [eqGuard, binOp, Op.intDiv, hz], .int _ _⟩
      case rem =>
        split at h
        · exact absurd h (by simp)
        · rename_i hz
          injection h with h; subst h
          exact ⟨.int k (m.tmod n), by simp [eqGuard, binOp, Op.intDiv, hz], .int _ _⟩
      case add => subst h; exact ⟨.int k (k.wrap (m + n)), by simp [eqGuard, binOp, Op.intArith], .int _ _⟩
      case sub => subst h; exact ⟨.int k (k.wrap (m - n)), by simp [eqGuard, binOp, Op.intArith], .int _ _⟩
      case mul => subst h; exact ⟨.int k (k.wrap (m * n)), by simp [eqGuard, binOp, Op.intArith], .int _ _⟩
      case eql => subst h; exact ⟨.bool (m == n), by simp [eqGuard, binOp, Op.intCmp], .bool _⟩
      case neq => subst h; exact ⟨.bool (m != n), by simp [eqGuard, binOp, Op.intCmp], .bool _⟩
      case lss => subst h; exact ⟨.bool (m < n), by simp [eqGuard, binOp, Op.intCmp], .bool _⟩
      case leq => subst h; exact ⟨.bool (m ≤ n), by simp [eqGuard, binOp, Op.intCmp], .bool _⟩
      case gtr => subst h; exact ⟨.bool (m > n), by simp [eqGuard, binOp, Op.intCmp], .bool _⟩
      case geq => subst h; exact ⟨.bool (m ≥ n), by simp [eqGuard, binOp, Op.intCmp], .bool _⟩
    · exact absurd h (by simp)
  · rename_i l m
    cases ha with | str _ s hs => ?_
    cases hb with | str _ s' hs' => ?_
    subst hs; subst hs'
    cases op <;> simp only [Option.some.injEq, reduceCtorEq] at h
    case add =>
      split at h
      · rename_i hle
        injection h with h; subst h
        refine ⟨.string (s ++ s'), ?_, .str _ _ ?_⟩
        · have : ¬ (((s.size + s'.size : Nat) : Int) > IntKind.i64.max) := by
            have h1 : s.data.toList.length = s.size := by simp
            have h2 : s'.data.toList.length = s'.size := by simp
            simp only [List.length_map, h1, h2] at hle
            have : IntKind.i64.max = 9223372036854775807 := by decide
            omega
          have h3 : (do eqGuard .add t x y (.string s) (.string s'); binOp .add t (.string s) (.string s') : Sem Value) = Op.stringOp .add s s' := rfl
          rw [h3]
          unfold Op.stringOp
          simp only []
          rw [if_neg this]
          rfl
        · rw [Go.Joins.data_append, List.map_append]
      · exact absurd h (by simp)
    all_goals
      subst h
      simp only [beqN_map, bless_map]
      refine ⟨.bool _, ?_, .bool _⟩
      simp [eqGuard, binOp, Op.stringOp, ByteArray.toList_eq]
  · exact absurd h (by simp)
end Go.Rf

namespace Go.Rf
set_option linter.unusedVariables false
set_option linter.unusedSimpArgs false

def isAggOf (P : Program) (t : TypeId) : Option Bool := match P.underlying t with
  | some (.struct _) => some true
  | some (.array _ _) => some true
  | some _ => some false
  | none => none
def sizeOfT (P : Program) (t : TypeId) : Option Nat := (P.info? t).map (·.size)

theorem run_isAgg {P : Program} {t : TypeId} {b : Bool} {w : World} (h : isAggOf P t = some b) : (isAgg t).run P w = .ok b w := by
  unfold isAggOf at h
  cases hu : P.underlying t with
  | none => rw [hu] at h; simp at h
  | some d =>
    rw [hu] at h
    cases d <;> simp at h <;> subst h <;> simp [isAgg, underlying, hu]
theorem run_sizeOf {P : Program} {t : TypeId} {n : Nat} {w : World} (h : sizeOfT P t = some n) : (sizeOf t).run P w = .ok n w := by
  unfold sizeOfT at h
  obtain ⟨i, hi, rfl⟩ := Option.map_eq_some_iff.1 h
  simp [sizeOf, typeInfo, hi]

section
variable {P : Program} {cx : Cx} {kb kt : Option Nat} {g : Gh} {st : St} {w : World} {o : Oper} {a : Act} {env : Env} {bb tb : Nat} {v : AV} {st' : St}

theorem sim_mv (hs : SR g st w) (he : ER g (Safe g st w) w env a.tmps) {x : PO} {y : Operand} (ho : o.op = .move y ∨ o.op = .assign y) (hx : ckPO x y = true)
    (h : x_mv x cx bb tb env st = some (.val v st')) : Sim P cx kb kt g st w o a v st' := by
  simp only [x_mv, Option.some.injEq, R.val.injEq] at h
  obtain ⟨rfl, rfl⟩ := h
  refine Sim.pure hs (a.eval y) ?_ (he.ev hx)
  rcases ho with ho | ho <;> simp [execOp, ho]

theorem VR.bool_inv {S : Nat → Nat → Prop} {b : Bool} {u : Value} (h : VR g S w (.d (.bool b)) u) : u = .bool b := by
  cases h with | d _ _ h => cases h; rfl
theorem VR.int_inv {S : Nat → Nat → Prop} {k : IntKind} {n : Int} {u : Value} (h : VR g S w (.d (.int k n)) u) : u = .int k n := by
  cases h with | d _ _ h => cases h; rfl
theorem VR.str_inv {S : Nat → Nat → Prop} {l : List Nat} {u : Value} (h : VR g S w (.d (.str l)) u) : ∃ s, u = .string s ∧ natsOf s = l := by
  cases h with | d _ _ h => cases h with | str _ s e => exact ⟨s, rfl, e⟩

theorem sim_pick (hs : SR g st w) (he : ER g (Safe g st w) w env a.tmps) {c x y : PO} {c' x' y' : Operand} (ho : o.op = .pick c' x' y') (hc : ckPO c c' = true) (hx : ckPO x x' = true) (hy : ckPO y y' = true)
    (h : x_pick c x y cx bb tb env st = some (.val v st')) : Sim P cx kb kt g st w o a v st' := by
  unfold x_pick at h
  have hcv := he.ev hc
  split at h
  · rename_i e
    simp only [Option.some.injEq, R.val.injEq] at h
    obtain ⟨rfl, rfl⟩ := h
    rw [e] at hcv
    exact Sim.pure hs (a.eval x') (by simp [execOp, ho, hcv.bool_inv, asBool]) (he.ev hx)
  · rename_i e
    simp only [Option.some.injEq, R.val.injEq] at h
    obtain ⟨rfl, rfl⟩ := h
    rw [e] at hcv
    exact Sim.pure hs (a.eval y') (by simp [execOp, ho, hcv.bool_inv, asBool]) (he.ev hy)
  · exact absurd h (by simp)

theorem sim_nilchk (hs : SR g st w) (he : ER g (Safe g st w) w env a.tmps) {x : PO} {y : Operand} (ho : o.op = .nilCheck y) (hx : ckPO x y = true)
    (h : x_nilchk x cx bb tb env st = some (.val v st')) : Sim P cx kb kt g st w o a v st' := by
  unfold x_nilchk at h
  have hv := he.ev hx
  split at h
  · rename_i b off e
    simp only [Option.some.injEq, R.val.injEq] at h
    obtain ⟨rfl, rfl⟩ := h
    rw [e] at hv
    have hv' := hv
    generalize hu : a.eval y = u at hv
    cases hv with | ptr _ _ c hb => exact Sim.pure hs (a.eval y) (by simp [execOp, ho, hu]) hv'
  · rename_i cs e
    simp only [Option.some.injEq, R.val.injEq] at h
    obtain ⟨rfl, rfl⟩ := h
    rw [e] at hv
    have hv' := hv
    generalize hu : a.eval y = u at hv
    cases hv with | cptr _ b off vals h1 h2 => exact Sim.pure hs (a.eval y) (by simp [execOp, ho, hu]) hv'
  · exact absurd h (by simp)

theorem sim_bin (hs : SR g st w) (he : ER g (Safe g st w) w env a.tmps) {op : BinOp} {x y : PO} {t t2 : TypeId} {x' y' : Operand} (ho : o.op = .binOp op t x' y' t2) (hx : ckPO x x' = true) (hy : ckPO y y' = true)
    (h : x_bin op x y cx bb tb env st = some (.val v st')) : Sim P cx kb kt g st w o a v st' := by
  unfold x_bin at h
  have hxv := he.ev hx
  have hyv := he.ev hy
  split at h
  · rename_i p q ep eq
    obtain ⟨r, hr, he2⟩ := Option.map_eq_some_iff.1 h
    simp only [R.val.injEq] at he2
    obtain ⟨rfl, rfl⟩ := he2
    rw [ep] at hxv; rw [eq] at hyv
    cases hxv with | d _ _ hxv => cases hyv with | d _ _ hyv =>
    obtain ⟨z, hz, hd⟩ := binD_ok (P := P) (t := t) x' y' hxv hyv hr
    refine Sim.pure hs z ?_ (.d _ _ hd)
    simp only [execOp, ho]
    simp only [Sem.run_bind, Sem.run_pure] at hz ⊢
    rw [hz]
    rfl
  · exact absurd h (by simp)

theorem sim_not (hs : SR g st w) (he : ER g (Safe g st w) w env a.tmps) {x : PO} {t : TypeId} {y : Operand} (ho : o.op = .unOp .not t y) (hx : ckPO x y = true)
    (h : x_not x cx bb tb env st = some (.val v st')) : Sim P cx kb kt g st w o a v st' := by
  unfold x_not at h
  have hv := he.ev hx
  split at h
  · rename_i b e
    simp only [Option.some.injEq, R.val.injEq] at h
    obtain ⟨rfl, rfl⟩ := h
    rw [e] at hv
    exact Sim.pure hs (.bool !b) (by simp [execOp, ho, hv.bool_inv, Op.unary]) (.d _ _ (.bool _))
  · exact absurd h (by simp)

theorem sim_neg (hs : SR g st w) (he : ER g (Safe g st w) w env a.tmps) {x : PO} {t : TypeId} {y : Operand} (ho : o.op = .unOp .neg t y) (hx : ckPO x y = true)
    (h : x_neg x cx bb tb env st = some (.val v st')) : Sim P cx kb kt g st w o a v st' := by
  unfold x_neg at h
  have hv := he.ev hx
  split at h
  · rename_i k n e
    simp only [Option.some.injEq, R.val.injEq] at h
    obtain ⟨rfl, rfl⟩ := h
    rw [e] at hv
    exact Sim.pure hs (.int k (k.wrap (0 - n))) (by simp [execOp, ho, hv.int_inv, Op.unary, Op.intArith]) (.d _ _ (.int _ _))
  · exact absurd h (by simp)

theorem sim_conv (hs : SR g st w) (he : ER g (Safe g st w) w env a.tmps) {k : IntKind} {x : PO} {t t2 : TypeId} {y : Operand} (ho : o.op = .convert t t2 y) (hx : ckPO x y = true)
    (h1 : ∃ k', P.underlying t = some (.int k')) (h2 : P.underlying t2 = some (.int k))
    (h : x_conv k x cx bb tb env st = some (.val v st')) : Sim P cx kb kt g st w o a v st' := by
  unfold x_conv at h
  have hv := he.ev hx
  obtain ⟨k', h1⟩ := h1
  split at h
  · rename_i k2 n e
    simp only [Option.some.injEq, R.val.injEq] at h
    obtain ⟨rfl, rfl⟩ := h
    rw [e] at hv
    exact Sim.pure hs (.int k (k.wrap n)) (by simp [execOp, ho, hv.int_inv, convert, underlying, h1, h2, Conv.intToInt]) (.d _ _ (.int _ _))
  · exact absurd h (by simp)

theorem sim_convSS (hs : SR g st w) (he : ER g (Safe g st w) w env a.tmps) {x : PO} {t t2 : TypeId} {y : Operand} (ho : o.op = .convert t t2 y) (hx : ckPO x y = true)
    (h1 : P.underlying t = some .string) (h2 : P.underlying t2 = some .string)
    (h : x_convSS x cx bb tb env st = some (.val v st')) : Sim P cx kb kt g st w o a v st' := by
  unfold x_convSS at h
  have hv := he.ev hx
  split at h
  · rename_i l e
    simp only [Option.some.injEq, R.val.injEq] at h
    obtain ⟨rfl, rfl⟩ := h
    rw [e] at hv
    obtain ⟨s, hs2, hl⟩ := hv.str_inv
    exact Sim.pure hs (.string s) (by simp [execOp, ho, hs2, convert, underlying, h1, h2]) (.d _ _ (.str _ _ hl))
  · exact absurd h (by simp)

theorem sim_ext (hs : SR g st w) (he : ER g (Safe g st w) w env a.tmps) {i : Nat} {x : PO} {y : Operand} (ho : o.op = .extract y i) (hx : ckPO x y = true)
    (h : x_ext i x cx bb tb env st = some (.val v st')) : Sim P cx kb kt g st w o a v st' := by
  unfold x_ext at h
  have hv := he.ev hx
  split at h
  · rename_i vs e
    obtain ⟨r, hr, he2⟩ := Option.map_eq_some_iff.1 h
    simp only [R.val.injEq] at he2
    obtain ⟨rfl, rfl⟩ := he2
    rw [e] at hv
    generalize hu : a.eval y = u at hv
    cases hv with
    | tup _ us hl hv =>
      have hi : i < us.size := by
        have := (List.getElem?_eq_some_iff.1 hr).1
        omega
      have hr2 : us[i]? = some us[i] := Array.getElem?_eq_getElem hi
      exact Sim.pure hs us[i] (by simp [execOp, ho, hu, Instr.extract, hr2]) (hv i _ _ hr hr2)
  · exact absurd h (by simp)

theorem sim_mx (hs : SR g st w) (he : ER g (Safe g st w) w env a.tmps) {x y : PO} {ts : Array TypeId} {x' y' : Operand} (ho : o.op = .call { callee := .builtin .max, args := #[x', y'], argTypes := ts }) (hx : ckPO x x' = true) (hy : ckPO y y' = true)
    (h : x_mx x y cx bb tb env st = some (.val v st')) : Sim P cx kb kt g st w o a v st' := by
  unfold x_mx at h
  have hxv := he.ev hx
  have hyv := he.ev hy
  split at h
  · rename_i k m k' n e1 e2
    split at h
    · rename_i hk
      subst hk
      simp only [Option.some.injEq, R.val.injEq] at h
      obtain ⟨rfl, rfl⟩ := h
      rw [e1] at hxv; rw [e2] at hyv
      exact Sim.pure hs (.int k (if n > m then n else m)) (by simp [execOp, ho, resolve, invoke, builtin, Builtin.max_, Builtin.max2, hxv.int_inv, hyv.int_inv]) (.d _ _ (.int _ _))
    · exact absurd h (by simp)
  · exact absurd h (by simp)

theorem sim_mn (hs : SR g st w) (he : ER g (Safe g st w) w env a.tmps) {x y : PO} {ts : Array TypeId} {x' y' : Operand} (ho : o.op = .call { callee := .builtin .min, args := #[x', y'], argTypes := ts }) (hx : ckPO x x' = true) (hy : ckPO y y' = true)
    (h : x_mn x y cx bb tb env st = some (.val v st')) : Sim P cx kb kt g st w o a v st' := by
  unfold x_mn at h
  have hxv := he.ev hx
  have hyv := he.ev hy
  split at h
  · rename_i k m k' n e1 e2
    split at h
    · rename_i hk
      subst hk
      simp only [Option.some.injEq, R.val.injEq] at h
      obtain ⟨rfl, rfl⟩ := h
      rw [e1] at hxv; rw [e2] at hyv
      exact Sim.pure hs (.int k (if n < m then n else m)) (by simp [execOp, ho, resolve, invoke, builtin, Builtin.min_, Builtin.min2, hxv.int_inv, hyv.int_inv]) (.d _ _ (.int _ _))
    · exact absurd h (by simp)
  · exact absurd h (by simp)

theorem sim_mn3 (hs : SR g st w) (he : ER g (Safe g st w) w env a.tmps) {x y z : PO} {ts : Array TypeId} {x' y' z' : Operand} (ho : o.op = .call { callee := .builtin .min, args := #[x', y', z'], argTypes := ts }) (hx : ckPO x x' = true) (hy : ckPO y y' = true) (hz : ckPO z z' = true)
    (h : x_mn3 x y z cx bb tb env st = some (.val v st')) : Sim P cx kb kt g st w o a v st' := by
  unfold x_mn3 at h
  have hxv := he.ev hx
  have hyv := he.ev hy
  have hzv := he.ev hz
  split at h
  · rename_i k m k' n k'' n' e1 e2 e3
    split at h
    · rename_i hk
      obtain ⟨rfl, rfl⟩ := hk
      simp only [Option.some.injEq, R.val.injEq] at h
      obtain ⟨rfl, rfl⟩ := h
      rw [e1] at hxv; rw [e2] at hyv; rw [e3] at hzv
      exact Sim.pure hs (.int k (let m := if n < m then n else m; if n' < m then n' else m)) (by simp [execOp, ho, resolve, invoke, builtin, Builtin.min_, Builtin.min2, hxv.int_inv, hyv.int_inv, hzv.int_inv]) (.d _ _ (.int _ _))
    · exact absurd h (by simp)
  · exact absurd h (by simp)

theorem sim_eqNil (hs : SR g st w) (he : ER g (Safe g st w) w env a.tmps) {x : PO} {t t2 e : TypeId} {x' y' : Operand} (ho : o.op = .binOp .eql t x' y' t2) (hx : ckPO x x' = true) (hy : a.eval y' = .slice none 0 0)
    (ht : P.underlying t = some (.slice e)) (h : x_eqNil x cx bb tb env st = some (.val v st')) : Sim P cx kb kt g st w o a v st' := by
  unfold x_eqNil at h
  have hxv := he.ev hx
  obtain ⟨b, hb, h⟩ := Option.map_eq_some_iff.1 h
  simp only [R.val.injEq] at h
  obtain ⟨rfl, rfl⟩ := h
  have key : ∃ ad n c, a.eval x' = .slice ad n c ∧ ad.isNone = b := by
    unfold nilOf at hb
    split at hb
    · rename_i e1
      rw [e1] at hxv
      injection hb with hb; subst hb
      generalize a.eval x' = u at hxv
      cases hxv; exact ⟨_, _, _, rfl, rfl⟩
    · rename_i e1
      rw [e1] at hxv
      injection hb with hb; subst hb
      generalize a.eval x' = u at hxv
      cases hxv with | own _ _ _ b sz used h1 h2 h3 h4 => cases h3; exact ⟨_, _, _, rfl, rfl⟩
    · rename_i e1
      rw [e1] at hxv
      injection hb with hb; subst hb
      generalize a.eval x' = u at hxv
      cases hxv with | d _ _ h3 => cases h3; exact ⟨_, _, _, rfl, rfl⟩
    · rename_i e1
      rw [e1] at hxv
      injection hb with hb; subst hb
      generalize a.eval x' = u at hxv
      cases hxv; exact ⟨_, _, _, rfl, rfl⟩
    · exact absurd hb (by simp)
  obtain ⟨ad, n, c, hu, rfl⟩ := key
  refine Sim.pure hs (.bool ad.isNone) ?_ (.d _ _ (.bool _))
  have h3 : (do eqGuard .eql t x' y' (.slice ad n c) (.slice none 0 0); binOp .eql t (.slice ad n c) (.slice none 0 0) : Sem Value) = binOp .eql t (.slice ad n c) (.slice none 0 0) := rfl
  simp only [execOp, ho, hu, hy]
  rw [h3]
  simp [Go.Lib.run_eql_slice_nil w t e ad n c 0 0 ht]

theorem sim_eqB (hs : SR g st w) (he : ER g (Safe g st w) w env a.tmps) {neg : Bool} {x y : PO} {t t2 : TypeId} {x' y' : Operand} (ho : o.op = .binOp (if neg then .neq else .eql) t x' y' t2) (hx : ckPO x x' = true) (hy : ckPO y y' = true)
    (ht : P.underlying t = some .bool)
    (h : x_eqB neg x y cx bb tb env st = some (.val v st')) : Sim P cx kb kt g st w o a v st' := by
  unfold x_eqB at h
  have hxv := he.ev hx
  have hyv := he.ev hy
  split at h
  · rename_i p q e1 e2
    simp only [Option.some.injEq, R.val.injEq] at h
    obtain ⟨rfl, rfl⟩ := h
    rw [e1] at hxv; rw [e2] at hyv
    have hq : (Op.equal t (.bool p) (.bool q)).run P w = .ok (p == q) w := run_equalIn_bool' (P := P) w 9999 t p q ht
    cases neg with
    | false =>
      refine Sim.pure hs (.bool (p == q)) ?_ (.d _ _ (.bool _))
      simp only [execOp, ho, hxv.bool_inv, hyv.bool_inv]
      have h3 : (do eqGuard .eql t x' y' (.bool p) (.bool q); binOp .eql t (.bool p) (.bool q) : Sem Value) = (do pure (.bool (← Op.equal t (.bool p) (.bool q)))) := rfl
      simp only [Bool.false_eq_true, if_false]
      rw [h3]
      simp [hq]
    | true =>
      refine Sim.pure hs (.bool !(p == q)) ?_ (.d _ _ (.bool _))
      simp only [execOp, ho, hxv.bool_inv, hyv.bool_inv]
      have h3 : (do eqGuard .neq t x' y' (.bool p) (.bool q); binOp .neq t (.bool p) (.bool q) : Sem Value) = (do pure (.bool (!(← Op.equal t (.bool p) (.bool q))))) := rfl
      simp only [if_true]
      rw [h3]
      simp [hq]
  · exact absurd h (by simp)
end
end Go.Rf

namespace Go.Rf
set_option linter.unusedVariables false
set_option linter.unusedSimpArgs false
section
variable {P : Program} {cx : Cx} {kb kt : Option Nat} {g : Gh} {st : St} {w : World} {o : Oper} {a : Act} {env : Env} {bb tb : Nat} {v : AV} {st' : St}

theorem toDs_spec {cs : List AV} {ds : List D} (h : toDs cs = some ds) : cs.length = ds.length ∧ ∀ (i : Nat) c, cs[i]? = some c → ∃ x, ds[i]? = some x ∧ c.toD = some x := by
  induction cs generalizing ds with
  | nil => simp [toDs] at h; subst h; exact ⟨rfl, fun i c hc => by simp at hc⟩
  | cons c cs ih =>
    unfold toDs at h
    split at h
    · rename_i x xs hx hxs
      injection h with h; subst h
      obtain ⟨hl, hi⟩ := ih hxs
      refine ⟨by simp [hl], fun i d hd => ?_⟩
      cases i with
      | zero => simp at hd; subst hd; exact ⟨x, by simp, hx⟩
      | succ i => simp at hd ⊢; exact hi i d hd
    · exact absurd h (by simp)
theorem toD_ok {S : Nat → Nat → Prop} {c : AV} {x : D} {u : Value} (h : c.toD = some x) (hv : VR g S w c u) : DR S w x u ∧ x.one = true := by
  cases hv with
  | d y v hy =>
    simp only [AV.toD] at h
    split at h
    · rename_i ho
      injection h with h; subst h
      exact ⟨hy, ho⟩
    · exact absurd h (by simp)
  | own t rows v b sz used h1 h2 h3 h4 => simp only [AV.toD, Option.some.injEq] at h; subst h; exact ⟨h3, rfl⟩
  | nilS => simp only [AV.toD, Option.some.injEq] at h; subst h; exact ⟨.sl0 _ _, rfl⟩
  | _ => simp [AV.toD] at h
/-- The cells of a value as data. -/
theorem toDs_ok {S : Nat → Nat → Prop} {cs : List AV} {ds : List D} {vs : Array Value} (h : toDs cs = some ds) (hl : cs.length = vs.size)
    (hv : ∀ (i : Nat) c v, cs[i]? = some c → vs[i]? = some v → VR g S w c v) : ds.length = vs.size ∧ (∀ (i : Nat) x v, ds[i]? = some x → vs[i]? = some v → DR S w x v ∧ x.one = true) := by
  obtain ⟨h1, h2⟩ := toDs_spec h
  refine ⟨by omega, fun i x v hx hu => ?_⟩
  have hi : i < cs.length := by have := (List.getElem?_eq_some_iff.1 hx).1; omega
  obtain ⟨y, hy, hc⟩ := h2 i _ (List.getElem?_eq_getElem hi)
  rw [hx] at hy
  injection hy with hy; subst hy
  exact toD_ok hc (hv i _ _ (List.getElem?_eq_getElem hi) hu)

theorem sim_mkI (hs : SR g st w) (he : ER g (Safe g st w) w env a.tmps) {t t' : TypeId} {x : PO} {y : Operand} (ho : o.op = .makeInterface t' y) (htt : t = t') (hx : ckPO x y = true)
    (ht : ∃ d, P.underlying t' = some d ∧ ∀ ms, d ≠ .interface ms)
    (h : x_mkI t x cx bb tb env st = some (.val v st')) : Sim P cx kb kt g st w o a v st' := by
  unfold x_mkI at h
  subst htt
  have hv := he.ev hx
  obtain ⟨d, hd, hni⟩ := ht
  have hrun : (execOp a.eval o).run P w = .ok (.value (.iface t (a.eval y))) w := by
    simp only [execOp, ho, Instr.makeInterface, Sem.run_bind, underlying]
    simp only [run_program, Result.andThen_ok, hd, Sem.run_pure]
  split at h
  · rename_i x' e
    simp only [Option.some.injEq, R.val.injEq] at h
    obtain ⟨rfl, rfl⟩ := h
    rw [e] at hv
    cases hv with | d _ _ hv => exact Sim.pure hs _ hrun (.d _ _ (.iface _ _ _ hv))
  · rename_i cs e
    split at h
    · rename_i ds hds
      simp only [Option.some.injEq, R.val.injEq] at h
      obtain ⟨rfl, rfl⟩ := h
      rw [e] at hv
      generalize hu : a.eval y = u at hv
      cases hv with
      | agg _ vs hl hvs hone =>
        obtain ⟨h1, h2⟩ := toDs_ok hds hl hvs
        rw [hu] at hrun
        refine Sim.pure hs _ hrun (.d _ _ (.iface _ _ _ (.agg ds vs h1 (fun i c v hc hv => (h2 i c v hc hv).1) (fun c hc => ?_))))
        obtain ⟨i, hi, rfl⟩ := List.mem_iff_getElem.1 hc
        exact (h2 i _ _ (List.getElem?_eq_getElem hi) (Array.getElem?_eq_getElem (by omega))).2
    · exact absurd h (by simp)
  · exact absurd h (by simp)

/-- Operands, one by one. -/
def ckPOs : List PO → List Operand → Bool
  | [], [] => true
  | x :: xs, y :: ys => ckPO x y && ckPOs xs ys
  | _, _ => false
theorem ckPOs_ok (he : ER g (Safe g st w) w env a.tmps) {xs : List PO} {ys : List Operand} (h : ckPOs xs ys = true) :
    (xs.map (·.ev env)).length = (ys.map a.eval).length ∧ ∀ (i : Nat) c v, (xs.map (·.ev env))[i]? = some c → (ys.map a.eval)[i]? = some v → VR g (Safe g st w) w c v := by
  induction xs generalizing ys with
  | nil => cases ys with
    | nil => exact ⟨rfl, fun i c v hc => by simp at hc⟩
    | cons y ys => simp [ckPOs] at h
  | cons x xs ih => cases ys with
    | nil => simp [ckPOs] at h
    | cons y ys =>
      simp only [ckPOs, Bool.and_eq_true] at h
      obtain ⟨hl, hv⟩ := ih h.2
      refine ⟨by simpa using hl, fun i c v hc hu => ?_⟩
      cases i with
      | zero => simp at hc hu; subst hc; subst hu; exact he.ev h.1
      | succ i => simp only [List.map_cons, List.getElem?_cons_succ] at hc hu; exact hv i c v hc hu
theorem ckPOs_arr (he : ER g (Safe g st w) w env a.tmps) {xs : List PO} {ys : Array Operand} (h : ckPOs xs ys.toList = true) :
    (xs.map (·.ev env)).length = (ys.map a.eval).size ∧ ∀ (i : Nat) c v, (xs.map (·.ev env))[i]? = some c → (ys.map a.eval)[i]? = some v → VR g (Safe g st w) w c v := by
  obtain ⟨h1, h2⟩ := ckPOs_ok he h
  refine ⟨by simpa using h1, fun i c v hc hv => h2 i c v hc ?_⟩
  rw [← hv, ← Array.getElem?_toList, Array.toList_map]

theorem sim_mkF (hs : SR g st w) (he : ER g (Safe g st w) w env a.tmps) {f f' : Nat} {caps : List PO} {ys : Array Operand} (ho : o.op = .makeFunc (.func f') #[] ys) (hf : f = f') (hx : ckPOs caps ys.toList = true)
    (h : x_mkF f caps cx bb tb env st = some (.val v st')) : Sim P cx kb kt g st w o a v st' := by
  unfold x_mkF at h
  simp only at h
  split at h
  · simp only [Option.some.injEq, R.val.injEq] at h
    obtain ⟨rfl, rfl⟩ := h
    subst hf
    obtain ⟨h1, h2⟩ := ckPOs_arr he hx
    exact Sim.pure hs (.func (.func f) #[] (ys.map a.eval)) (by simp [execOp, ho, Instr.makeFunc]) (.fn f _ _ h1 h2)
  · exact absurd h (by simp)

theorem VR.rows_inv {S : Nat → Nat → Prop} {x : AV} {u : Value} {rows : List (List D)} (h : VR g S w x u) (hr : x.rows = some rows) : ∃ ad cap, u = .slice ad rows.length cap ∧ DR S w (.sl rows) u := by
  cases h with
  | d y v hy =>
    cases hy with
    | sl0 ad cap => simp [AV.rows] at hr; subst hr; exact ⟨ad, cap, rfl, .sl0 _ _⟩
    | sl rows' b off cap sz vals hcap h1 h2 h3 => simp only [AV.rows, Option.some.injEq] at hr; subst hr; exact ⟨_, cap, rfl, .sl _ _ _ _ _ _ hcap h1 h2 h3⟩
    | _ => simp [AV.rows] at hr
  | own t rows' v b sz used h1 h2 h3 h4 =>
    simp only [AV.rows, Option.some.injEq] at hr; subst hr
    have h5 := h3
    cases h3 with
    | sl0 ad cap => exact ⟨ad, cap, rfl, h5⟩
    | sl rows' b off cap sz vals hcap h1 h2 h3 => exact ⟨_, cap, rfl, h5⟩
  | nilS => simp [AV.rows] at hr; subst hr; exact ⟨none, 0, rfl, .sl0 _ _⟩
  | _ => simp [AV.rows] at hr

theorem sim_lenS (hs : SR g st w) (he : ER g (Safe g st w) w env a.tmps) {x : PO} {y : Operand} {t : TypeId} (ho : o.op = .call { callee := .builtin .len, args := #[y], argTypes := #[t] }) (hx : ckPO x y = true)
    (ht : P.underlying t = some .string) (h : x_lenS x cx bb tb env st = some (.val v st')) : Sim P cx kb kt g st w o a v st' := by
  unfold x_lenS at h
  have hv := he.ev hx
  split at h
  · rename_i l e
    simp only [Option.some.injEq, R.val.injEq] at h
    obtain ⟨rfl, rfl⟩ := h
    rw [e] at hv
    obtain ⟨s, hs2, rfl⟩ := hv.str_inv
    have hl : ((natsOf s).length : Int) = (s.size : Int) := by simp [natsOf]
    exact Sim.pure hs (.int .i64 s.size) (by simp [execOp, ho, resolve, invoke, builtin, Builtin.len_, underlying, ht, hs2, goInt]) (by rw [hl]; exact .d _ _ (.int _ _))
  · exact absurd h (by simp)

theorem sim_lenL (hs : SR g st w) (he : ER g (Safe g st w) w env a.tmps) {x : PO} {y : Operand} {t e : TypeId} (ho : o.op = .call { callee := .builtin .len, args := #[y], argTypes := #[t] }) (hx : ckPO x y = true)
    (ht : P.underlying t = some (.slice e)) (h : x_lenL x cx bb tb env st = some (.val v st')) : Sim P cx kb kt g st w o a v st' := by
  unfold x_lenL at h
  have hv := he.ev hx
  have hrun : ∀ ad n cap, a.eval y = .slice ad n cap → (execOp a.eval o).run P w = .ok (.value (.int .i64 n)) w := by
    intro ad n cap hu
    simp [execOp, ho, resolve, invoke, builtin, Builtin.len_, underlying, ht, hu, goInt]
  split at h
  · rename_i id n full e2
    simp only [Option.some.injEq, R.val.injEq] at h
    obtain ⟨rfl, rfl⟩ := h
    rw [e2] at hv
    generalize hu : a.eval y = u at hv
    cases hv with | bsl _ _ _ b cap h1 h2 h3 => exact Sim.pure hs _ (hrun _ _ _ hu) (.d _ _ (.int _ _))
  · split at h
    · rename_i rows hr
      simp only [Option.some.injEq, R.val.injEq] at h
      obtain ⟨rfl, rfl⟩ := h
      obtain ⟨ad, cap, hu, _⟩ := hv.rows_inv hr
      exact Sim.pure hs _ (hrun _ _ _ hu) (.d _ _ (.int _ _))
    · exact absurd h (by simp)

theorem data_get (s : ByteArray) (i : Nat) : s.data.toList[i]? = (s[i]? : Option UInt8) := by
  rcases Nat.lt_or_ge i s.size with h | h
  · rw [getElem?_pos s i h, List.getElem?_eq_getElem (by simpa using h)]; rfl
  · rw [getElem?_neg s i (by omega), List.getElem?_eq_none (by simpa using h)]

theorem sim_idxS (hs : SR g st w) (he : ER g (Safe g st w) w env a.tmps) {x i : PO} {x' i' : Operand} {t : TypeId} (ho : o.op = .index t x' i') (hx : ckPO x x' = true) (hi : ckPO i i' = true)
    (ht : P.underlying t = some .string) (h : x_idxS x i cx bb tb env st = some (.val v st')) : Sim P cx kb kt g st w o a v st' := by
  unfold x_idxS at h
  have hxv := he.ev hx
  have hiv := he.ev hi
  split at h
  · rename_i k n l e1 e2
    split at h
    · rename_i h0
      obtain ⟨c, hc, he2⟩ := Option.map_eq_some_iff.1 h
      simp only [R.val.injEq] at he2
      obtain ⟨rfl, rfl⟩ := he2
      rw [e1] at hiv; rw [e2] at hxv
      obtain ⟨s, hs2, rfl⟩ := hxv.str_inv
      simp only [natsOf, List.getElem?_map, Option.map_eq_some_iff] at hc
      obtain ⟨b, hb, rfl⟩ := hc
      rw [data_get] at hb
      exact Sim.pure hs (.int .u8 b.toNat) (by simp [execOp, ho, Instr.index, underlying, ht, hs2, hiv.int_inv, asIntOf, h0, hb]) (.d _ _ (.int _ _))
    · exact absurd h (by simp)
  · exact absurd h (by simp)

theorem sim_fldA (hs : SR g st w) (he : ER g (Safe g st w) w env a.tmps) {off : Nat} {x : PO} {y : Operand} {t : TypeId} {n : Nat} (ho : o.op = .fieldAddr t y n) (hx : ckPO x y = true)
    (hf : ∃ fs f, P.underlying t = some (.struct fs) ∧ fs[n]? = some f ∧ f.offset = off ∧ ∃ sz, sizeOfT P f.type = some sz ∧ sz ≠ 0)
    (h : x_fldA off x cx bb tb env st = some (.val v st')) : Sim P cx kb kt g st w o a v st' := by
  unfold x_fldA at h
  have hv := he.ev hx
  obtain ⟨fs, f, h1, h2, rfl, sz, h3, h4⟩ := hf
  have hrun : ∀ b i, a.eval y = .pointer (some ⟨b, i, none⟩) → (execOp a.eval o).run P w = .ok (.value (.pointer (some ⟨b, i + f.offset, none⟩))) w := by
    intro b i hu
    have hadd : (⟨b, i, none⟩ : Addr).add f.offset = ⟨b, i + f.offset, none⟩ := by
      unfold Addr.add; split <;> simp_all
    simp [execOp, ho, hu, Instr.fieldAt, underlying, h1, h2, Instr.sureAddr, fieldPlace, run_sizeOf h3, h4, hadd]
  split at h
  · rename_i b i e
    simp only [Option.some.injEq, R.val.injEq] at h
    obtain ⟨rfl, rfl⟩ := h
    rw [e] at hv
    generalize hu : a.eval y = u at hv
    cases hv with | ptr _ _ c hb => exact Sim.pure hs _ (hrun _ _ hu) (.ptr _ _ _ hb)
  · rename_i cs e
    simp only [Option.some.injEq, R.val.injEq] at h
    obtain ⟨rfl, rfl⟩ := h
    rw [e] at hv
    generalize hu : a.eval y = u at hv
    cases hv with
    | cptr _ b i vals h5 h6 =>
      refine Sim.pure hs _ (hrun _ _ hu) (.cptr _ b (i + f.offset) (fun j => vals (f.offset + j)) (fun j c hc => ?_) (fun j c hc => ?_))
      · rw [List.getElem?_drop] at hc
        have := h5 _ c hc
        rwa [Nat.add_assoc]
      · rw [List.getElem?_drop] at hc
        exact h6 _ c hc
  · exact absurd h (by simp)
end
end Go.Rf

namespace Go.Rf
set_option linter.unusedVariables false
set_option linter.unusedSimpArgs false
section
variable {P : Program} {cx : Cx} {kb kt : Option Nat} {g : Gh} {st : St} {w : World} {o : Oper} {a : Act} {env : Env} {bb tb : Nat} {v : AV} {st' : St}

def ckOpt : Option PO → Option Operand → Bool
  | none, none => true
  | some x, some y => ckPO x y
  | _, _ => false

theorem bound_ok (he : ER g (Safe g st w) w env a.tmps) {x : Option PO} {y : Option Operand} {top d r : Nat} (hx : ckOpt x y = true) (h : bound env top x d = some r) (code : BoundsCode) :
    (match y.map a.eval with | some v => Instr.sliceBound v top code | none => pure d : Sem Nat).run P w = .ok r w ∧ (y = none → r = d) ∧ (y ≠ none → r ≤ top) := by
  cases x with
  | none =>
    cases y with
    | none => simp only [bound, Option.some.injEq] at h; subst h; exact ⟨rfl, fun _ => rfl, fun h => absurd rfl h⟩
    | some y => simp [ckOpt] at hx
  | some x =>
    cases y with
    | none => simp [ckOpt] at hx
    | some y =>
      simp only [ckOpt] at hx
      have hv := he.ev hx
      simp only [bound] at h
      split at h
      · rename_i k n e
        split at h
        · rename_i hn
          injection h with h; subst h
          rw [e] at hv
          refine ⟨?_, fun h => by simp at h, fun _ => by omega⟩
          simp [hv.int_inv, Instr.sliceBound, asIntOf, hn]
        · exact absurd h (by simp)
      · exact absurd h (by simp)

theorem bound_le {env : Env} {x : Option PO} {top d r : Nat} (h : bound env top x d = some r) (hd : d ≤ top) : r ≤ top := by
  cases x with
  | none => simp only [bound, Option.some.injEq] at h; omega
  | some x =>
    simp only [bound] at h
    split at h
    · split at h
      · injection h with h; omega
      · exact absurd h (by simp)
    · exact absurd h (by simp)

theorem bounds_run (he : ER g (Safe g st w) w env a.tmps) {lo hi : Option PO} {lo' hi' : Option Operand} {len cap l h : Nat} (isS : Bool) (hlc : len ≤ cap) (hlo : ckOpt lo lo' = true) (hhi : ckOpt hi hi' = true)
    (h1 : bound env len hi len = some h) (h2 : bound env h lo 0 = some l) :
    (Instr.sliceBounds isS len cap (lo'.map a.eval) (hi'.map a.eval) none).run P w = .ok (l, h, cap) w ∧ l ≤ h ∧ h ≤ len := by
  have hh : h ≤ len := bound_le h1 (Nat.le_refl _)
  have hl : l ≤ h := bound_le h2 (Nat.zero_le _)
  refine ⟨?_, hl, hh⟩
  have hL := fun code => (bound_ok (P := P) he hlo h2 code).1
  cases hi' with
  | none =>
    have e1 : h = len := by
      cases hi with
      | none => simp only [bound, Option.some.injEq] at h1; omega
      | some x => simp [ckOpt] at hhi
    subst e1
    cases lo' with
    | none =>
      have := hL .sliceB
      simp only [Option.map_none, Sem.run_pure, Result.ok.injEq, and_true] at this
      subst this
      simp [Instr.sliceBounds]
    | some y =>
      have := hL .sliceB
      simp only [Option.map_some] at this
      simp [Instr.sliceBounds, this]
  | some y =>
    cases hi with
    | none => simp [ckOpt] at hhi
    | some x =>
      have hX : ∀ code, (Instr.sliceBound (a.eval y) cap code).run P w = .ok h w := by
        intro code
        simp only [ckOpt] at hhi
        have hv := he.ev hhi
        simp only [bound] at h1
        split at h1
        · rename_i k n e
          split at h1
          · rename_i hn
            injection h1 with h1
            rw [e] at hv
            have hn2 : 0 ≤ n ∧ n ≤ (cap : Int) := by omega
            simp [hv.int_inv, Instr.sliceBound, asIntOf, hn2, h1]
          · exact absurd h1 (by simp)
        · exact absurd h1 (by simp)
      cases lo' with
      | none =>
        have := hL .sliceB
        simp only [Option.map_none, Sem.run_pure, Result.ok.injEq, and_true] at this
        subst this
        simp [Instr.sliceBounds, hX]
      | some y2 =>
        have := hL .sliceB
        simp only [Option.map_some] at this
        simp [Instr.sliceBounds, hX, this]

theorem natsOf_extract (s : ByteArray) (l h : Nat) : natsOf (s.extract l h) = ((natsOf s).take h).drop l := by
  simp only [natsOf, ← List.map_take, ← List.map_drop, Lib.extract_data, List.drop_take]

theorem sim_slStr (hs : SR g st w) (he : ER g (Safe g st w) w env a.tmps) {x : PO} {lo hi : Option PO} {x' : Operand} {lo' hi' : Option Operand} {t : TypeId} (ho : o.op = .slice t x' lo' hi' none) (hx : ckPO x x' = true)
    (hlo : ckOpt lo lo' = true) (hhi : ckOpt hi hi' = true) (ht : P.underlying t = some .string) (h : x_slStr x lo hi cx bb tb env st = some (.val v st')) : Sim P cx kb kt g st w o a v st' := by
  unfold x_slStr at h
  have hv := he.ev hx
  split at h
  · rename_i l e
    split at h
    · rename_i hh e1
      split at h
      · rename_i ll e2
        simp only [Option.some.injEq, R.val.injEq] at h
        obtain ⟨rfl, rfl⟩ := h
        rw [e] at hv
        obtain ⟨s, hs2, rfl⟩ := hv.str_inv
        have hlen : (natsOf s).length = s.size := by simp [natsOf]
        rw [hlen] at e1
        have hb := (bounds_run (P := P) he (len := s.size) (cap := s.size) false (Nat.le_refl _) hlo hhi e1 e2).1
        refine Sim.pure hs (.string (s.extract ll hh)) ?_ (.d _ _ (.str _ _ (natsOf_extract s ll hh)))
        simp only [execOp, ho, Instr.sliceAt, Instr.slice]
        simp [underlying, ht, hs2, hb]
      · exact absurd h (by simp)
    · exact absurd h (by simp)
  · exact absurd h (by simp)

theorem DR.slice_sub {S : Nat → Nat → Prop} {rows : List (List D)} {ad : Option Addr} {len cap l h sz : Nat} (hd : DR S w (.sl rows) (.slice ad len cap)) (hl : l ≤ h) (hh : h ≤ rows.length) (hsz : headLen sz rows = true) :
    DR S w (.sl ((rows.take h).drop l)) (.slice (if cap = l then ad else ad.map (·.add (l * sz))) (h - l) (cap - l)) := by
  rcases Nat.lt_or_ge l h with hlt | hge
  · cases hd with
    | sl0 ad cap => simp at hh; omega
    | sl _ b off cap sz2 vals hcap h1 h2 h3 =>
      have hc : cap ≠ l := by omega
      rw [if_neg hc]
      have hadd : (⟨b, off, none⟩ : Addr).add (l * sz) = ⟨b, off + l * sz, none⟩ := by
        unfold Addr.add; split <;> simp_all
      simp only [Option.map_some, hadd]
      have hzz : sz = sz2 := by
        cases rows with
        | nil => simp at hh; omega
        | cons r rows =>
          simp only [headLen, beq_iff_eq] at hsz
          rw [← hsz]
          exact h1 r (List.mem_cons_self ..)
      subst hzz
      have hlen : ((rows.take h).drop l).length = h - l := by simp; omega
      have hget : ∀ (j : Nat) r, ((rows.take h).drop l)[j]? = some r → rows[l + j]? = some r := by
        intro j r hj
        rw [List.getElem?_drop, List.getElem?_take] at hj
        split at hj
        · exact hj
        · exact absurd hj (by simp)
      rw [← hlen]
      refine .sl _ b (off + l * sz) (cap - l) sz (fun j i => vals (l + j) i) (by rw [hlen]; omega) (fun r hr => ?_) (fun j r i c hj hi => ?_) (fun j r i c hj hi => ?_)
      · exact h1 r (List.mem_of_mem_take (List.mem_of_mem_drop hr))
      · have := h2 (l + j) r i c (hget j r hj) hi
        have e : off + l * sz + j * sz + i = off + (l + j) * sz + i := by rw [Nat.add_mul]; omega
        rw [e]; exact this
      · exact h3 (l + j) r i c (hget j r hj) hi
  · have : (rows.take h).drop l = [] := by
      apply List.drop_eq_nil_of_le
      simp; omega
    rw [this]
    have e : h - l = 0 := by omega
    rw [e]
    exact .sl0 _ _

theorem DR.len_le {S : Nat → Nat → Prop} {rows : List (List D)} {ad : Option Addr} {len cap : Nat} (hd : DR S w (.sl rows) (.slice ad len cap)) : len = rows.length ∧ len ≤ cap := by
  cases hd with
  | sl0 ad cap => exact ⟨rfl, Nat.zero_le _⟩
  | sl _ b off cap sz2 vals hcap h1 h2 h3 => exact ⟨rfl, hcap⟩

theorem sim_slSl (hs : SR g st w) (he : ER g (Safe g st w) w env a.tmps) {esz : Nat} {x : PO} {lo hi : Option PO} {x' : Operand} {lo' hi' : Option Operand} {t e : TypeId} (ho : o.op = .slice t x' lo' hi' none) (hx : ckPO x x' = true)
    (hlo : ckOpt lo lo' = true) (hhi : ckOpt hi hi' = true) (ht : P.underlying t = some (.slice e)) (hz : sizeOfT P e = some esz) (h : x_slSl esz x lo hi cx bb tb env st = some (.val v st')) : Sim P cx kb kt g st w o a v st' := by
  unfold x_slSl at h
  have hv := he.ev hx
  split at h
  · rename_i rows hr
    split at h
    · rename_i hhl
      split at h
      · rename_i hh e1
        split at h
        · rename_i ll e2
          simp only [Option.some.injEq, R.val.injEq] at h
          obtain ⟨rfl, rfl⟩ := h
          obtain ⟨ad, cap, hu, hd⟩ := hv.rows_inv hr
          rw [hu] at hd
          have hc := hd.len_le
          obtain ⟨hb, hl1, hl2⟩ := bounds_run (P := P) he (len := rows.length) (cap := cap) true hc.2 hlo hhi e1 e2
          refine Sim.pure hs (.slice (if cap = ll then ad else ad.map (·.add (ll * esz))) (hh - ll) (cap - ll)) ?_ (.d _ _ (hd.slice_sub hl1 hl2 hhl))
          simp only [execOp, ho, Instr.sliceAt, Instr.slice]
          simp [underlying, ht, hu, hb, run_sizeOf hz]
        · exact absurd h (by simp)
      · exact absurd h (by simp)
    · exact absurd h (by simp)
  · exact absurd h (by simp)
end
end Go.Rf

namespace Go.Rf
set_option linter.unusedVariables false
set_option linter.unusedSimpArgs false
section
variable {P : Program} {cx : Cx} {kb kt : Option Nat} {g : Gh} {st : St} {w : World} {o : Oper} {a : Act} {env : Env} {bb tb : Nat} {v : AV} {st' : St}

theorem add_none (b i n : Nat) : (⟨b, i, none⟩ : Addr).add n = ⟨b, i + n, none⟩ := by unfold Addr.add; split <;> simp_all

theorem run_loadCellsFrom {ad : Addr} : ∀ (vs : List Value) (i : Nat) (acc : Array Value), (∀ (j : Nat) u, vs[j]? = some u → w.cell? (ad.add (i + j)) = some u) →
    (loadCellsFrom ad i vs.length acc).run P w = .ok (acc ++ vs.toArray) w
  | [], i, acc, _ => by simp [loadCellsFrom]
  | u :: vs, i, acc, h => by
    have h0 := h 0 u rfl
    simp only [List.length_cons, loadCellsFrom, Sem.run_bind, run_load]
    rw [Nat.add_zero] at h0
    rw [h0]
    simp only [Result.andThen_ok]
    rw [run_loadCellsFrom vs (i + 1) (acc.push u) (fun j u' hj => by
      have := h (j + 1) u' (by simpa using hj)
      rwa [show i + (j + 1) = i + 1 + j by omega] at this)]
    simp

theorem run_loadVar_agg {ad : Addr} {t : TypeId} (vs : List Value) (h1 : isAggOf P t = some true) (h2 : sizeOfT P t = some vs.length) (h : ∀ (j : Nat) u, vs[j]? = some u → w.cell? (ad.add j) = some u) :
    (loadVar t ad).run P w = .ok (.agg vs.toArray) w := by
  simp only [loadVar, Sem.run_bind, run_isAgg h1, Result.andThen_ok, if_true, run_sizeOf h2, loadCells]
  rw [run_loadCellsFrom vs 0 #[] (fun j u hj => by simpa using h j u hj)]
  simp
theorem run_loadVar_one {ad : Addr} {t : TypeId} {u : Value} (h1 : isAggOf P t = some false) (h : w.cell? ad = some u) : (loadVar t ad).run P w = .ok u w := by
  simp [loadVar, run_isAgg h1, h]

theorem cell_of_blk {b i : Nat} {cur : Array Value} {ty : TypeId} {fr : Nat × Nat} (h : w.heap[b]? = some (.cells cur ty fr)) : w.cell? ⟨b, i, none⟩ = cur[i]? := by
  simp [World.cell?, h]

theorem sim_load (hs : SR g st w) (he : ER g (Safe g st w) w env a.tmps) {agg : Bool} {n : Nat} {x : PO} {y : Operand} {t : TypeId} (ho : o.op = .load t y) (hx : ckPO x y = true)
    (h1 : isAggOf P t = some agg) (h2 : sizeOfT P t = some n) (h : x_load agg n x cx bb tb env st = some (.val v st')) : Sim P cx kb kt g st w o a v st' := by
  unfold x_load at h
  have hv := he.ev hx
  have hrun : ∀ ad u, a.eval y = .pointer (some ad) → (loadVar t ad).run P w = .ok u w → (execOp a.eval o).run P w = .ok (.value u) w := by
    intro ad u hu hl
    simp [execOp, ho, hu, Instr.loadAt, Instr.sureAddr, hl]
  split at h
  · rename_i id off e
    rw [e] at hv
    generalize hu : a.eval y = u at hv
    cases hv with | ptr _ _ b hb =>
    split at h
    · rename_i cs hcs
      obtain ⟨cur, ty, hblk, hsz, hcells⟩ := hs.box id b cs hb hcs
      cases agg with
      | true =>
        simp only [if_true] at h
        split at h
        · rename_i hle
          simp only [Option.some.injEq, R.val.injEq] at h
          obtain ⟨rfl, rfl⟩ := h
          have hlen : ((cur.toList.drop off).take n).length = n := by simp; omega
          refine Sim.pure hs (.agg ((cur.toList.drop off).take n).toArray) (hrun _ _ hu (run_loadVar_agg _ h1 (by rw [hlen]; exact h2) (fun j u hj => ?_))) ?_
          · rw [add_none, cell_of_blk hblk]
            rw [List.getElem?_take, List.getElem?_drop] at hj
            split at hj
            · simpa using hj
            · exact absurd hj (by simp)
          · refine .agg _ _ (by simp; omega) (fun j c u hc hu => ?_) (fun c hc => ?_)
            · rw [List.getElem?_take, List.getElem?_drop] at hc
              simp only [List.getElem?_toArray] at hu
              rw [List.getElem?_take, List.getElem?_drop] at hu
              split at hc
              · rename_i hjn
                rw [if_pos hjn] at hu
                exact hcells (off + j) c u hc (by simpa using hu)
              · exact absurd hc (by simp)
            · have hall := (hs.one id cs hcs).1
              rw [List.all_eq_true] at hall
              exact hall c (List.mem_of_mem_drop (List.mem_of_mem_take hc))
        · exact absurd h (by simp)
      | false =>
        simp only [Bool.false_eq_true, if_false] at h
        obtain ⟨c, hc, he2⟩ := Option.map_eq_some_iff.1 h
        simp only [R.val.injEq] at he2
        obtain ⟨rfl, rfl⟩ := he2
        have hi : off < cur.size := by have := (List.getElem?_eq_some_iff.1 hc).1; omega
        have hg : cur[off]? = some cur[off] := Array.getElem?_eq_getElem hi
        exact Sim.pure hs cur[off] (hrun _ _ hu (run_loadVar_one h1 (by rw [cell_of_blk hblk]; exact hg))) (hcells off _ _ hc hg)
    · exact absurd h (by simp)
  · rename_i cs e
    rw [e] at hv
    generalize hu : a.eval y = u at hv
    cases hv with | cptr _ b off vals h5 h6 =>
    cases agg with
    | true =>
      simp only [if_true] at h
      split at h
      · rename_i hle
        simp only [Option.some.injEq, R.val.injEq] at h
        obtain ⟨rfl, rfl⟩ := h
        have hlen : ((List.range n).map vals).length = n := by simp
        refine Sim.pure hs (.agg ((List.range n).map vals).toArray) (hrun _ _ hu (run_loadVar_agg _ h1 (by rw [hlen]; exact h2) (fun j u hj => ?_))) ?_
        · rw [add_none]
          simp only [List.getElem?_map, Option.map_eq_some_iff] at hj
          obtain ⟨k, hk, rfl⟩ := hj
          obtain ⟨hk1, rfl⟩ := List.getElem?_eq_some_iff.1 hk
          simp only [List.length_range] at hk1
          simp only [List.getElem_range]
          exact (h5 j _ (List.getElem?_eq_getElem (by omega))).1
        · refine .agg _ _ (by simp; omega) (fun j c u hc hu => ?_) (fun c hc => ?_)
          · simp only [List.getElem?_map, Option.map_eq_some_iff] at hc
            obtain ⟨d, hd, rfl⟩ := hc
            rw [List.getElem?_take] at hd
            split at hd
            · rename_i hjn
              simp only [List.getElem?_toArray, List.getElem?_map, Option.map_eq_some_iff] at hu
              obtain ⟨k, hk, rfl⟩ := hu
              obtain ⟨hk1, rfl⟩ := List.getElem?_eq_some_iff.1 hk
              simp only [List.getElem_range]
              exact .d _ _ (h6 j d hd)
            · exact absurd hd (by simp)
          · obtain ⟨d, hd, rfl⟩ := List.mem_map.1 hc
            obtain ⟨j, hj, rfl⟩ := List.mem_iff_getElem.1 (List.mem_of_mem_take hd)
            have := (h5 j _ (List.getElem?_eq_getElem hj)).2.2
            revert this
            cases cs[j] <;> simp [D.one, AV.isOne]
      · exact absurd h (by simp)
    | false =>
      simp only [Bool.false_eq_true, if_false] at h
      obtain ⟨c, hc, he2⟩ := Option.map_eq_some_iff.1 h
      simp only [R.val.injEq] at he2
      obtain ⟨rfl, rfl⟩ := he2
      have := (h5 0 c hc).1
      exact Sim.pure hs (vals 0) (hrun _ _ hu (run_loadVar_one h1 (by simpa using this))) (.d _ _ (h6 0 c hc))
  · exact absurd h (by simp)

/-- A part of an aggregate. -/
theorem part_ok {S : Nat → Nat → Prop} {agg : Bool} {n off : Nat} {t : TypeId} {cs : List AV} {vs : Array Value} {r : AV} (h1 : isAggOf P t = some agg) (h2 : sizeOfT P t = some n)
    (hl : cs.length = vs.size) (hv : ∀ (i : Nat) c v, cs[i]? = some c → vs[i]? = some v → VR g S w c v) (hone : ∀ c, c ∈ cs → c.isOne = true)
    (h : (if agg then (if off + n ≤ cs.length then some (AV.agg ((cs.drop off).take n)) else none) else cs[off]?) = some r) :
    ∃ u, (part t vs off).run P w = .ok u w ∧ VR g S w r u := by
  cases agg with
  | true =>
    simp only [if_true] at h
    split at h
    · rename_i hle
      injection h with h; subst h
      refine ⟨.agg (vs.extract off (off + n)), by simp [part, run_isAgg h1, run_sizeOf h2], .agg _ _ (by simp; omega) (fun j c u hc hu => ?_) (fun c hc => hone c (List.mem_of_mem_drop (List.mem_of_mem_take hc)))⟩
      rw [List.getElem?_take, List.getElem?_drop] at hc
      split at hc
      · rename_i hj
        rw [Array.getElem?_extract] at hu
        split at hu
        · exact hv _ c u hc hu
        · exact absurd hu (by simp)
      · exact absurd hc (by simp)
    · exact absurd h (by simp)
  | false =>
    simp only [Bool.false_eq_true, if_false] at h
    have hi : off < vs.size := by have := (List.getElem?_eq_some_iff.1 h).1; omega
    have hg : vs[off]? = some vs[off] := Array.getElem?_eq_getElem hi
    exact ⟨vs[off], by simp [part, run_isAgg h1, hg], hv off _ _ h hg⟩

theorem sim_fldV (hs : SR g st w) (he : ER g (Safe g st w) w env a.tmps) {agg : Bool} {off n : Nat} {x : PO} {y : Operand} {t : TypeId} {k : Nat} (ho : o.op = .field t y k) (hx : ckPO x y = true)
    (hf : ∃ fs f, P.underlying t = some (.struct fs) ∧ fs[k]? = some f ∧ f.offset = off ∧ isAggOf P f.type = some agg ∧ sizeOfT P f.type = some n)
    (h : x_fldV agg off n x cx bb tb env st = some (.val v st')) : Sim P cx kb kt g st w o a v st' := by
  unfold x_fldV at h
  have hv := he.ev hx
  obtain ⟨fs, f, h1, h2, rfl, h3, h4⟩ := hf
  split at h
  · rename_i cs e
    rw [e] at hv
    generalize hu : a.eval y = u at hv
    cases hv with | agg _ vs hl hvs hone =>
    have h5 : ∃ r, (if agg then (if f.offset + n ≤ cs.length then some (AV.agg ((cs.drop f.offset).take n)) else none) else cs[f.offset]?) = some r ∧ v = r ∧ st' = st := by
      cases agg with
      | true =>
        simp only [if_true] at h ⊢
        split at h
        · rename_i hle
          simp only [Option.some.injEq, R.val.injEq] at h
          exact ⟨_, if_pos hle, h.1.symm, h.2.symm⟩
        · exact absurd h (by simp)
      | false =>
        simp only [Bool.false_eq_true, if_false] at h ⊢
        obtain ⟨c, hc, he2⟩ := Option.map_eq_some_iff.1 h
        simp only [R.val.injEq] at he2
        exact ⟨c, hc, he2.1.symm, he2.2.symm⟩
    obtain ⟨r, hr, rfl, rfl⟩ := h5
    obtain ⟨z, hz, hzv⟩ := part_ok (P := P) h3 h4 hl hvs hone hr
    exact Sim.pure hs z (by simp [execOp, ho, hu, Instr.field, underlying, h1, h2, asAgg, hz]) hzv
  · exact absurd h (by simp)

theorem sim_idxV (hs : SR g st w) (he : ER g (Safe g st w) w env a.tmps) {agg : Bool} {esz len : Nat} {x i : PO} {x' i' : Operand} {t e : TypeId} (ho : o.op = .index t x' i') (hx : ckPO x x' = true) (hi : ckPO i i' = true)
    (ht : P.underlying t = some (.array len e)) (h3 : isAggOf P e = some agg) (h4 : sizeOfT P e = some esz)
    (h : x_idxV agg esz len x i cx bb tb env st = some (.val v st')) : Sim P cx kb kt g st w o a v st' := by
  unfold x_idxV at h
  have hxv := he.ev hx
  have hiv := he.ev hi
  split at h
  · rename_i k n cs e1 e2
    split at h
    · rename_i hn
      rw [e1] at hiv; rw [e2] at hxv
      generalize hu : a.eval x' = u at hxv
      cases hxv with | agg _ vs hl hvs hone =>
      have h5 : ∃ r, (if agg then (if n.toNat * esz + esz ≤ cs.length then some (AV.agg ((cs.drop (n.toNat * esz)).take esz)) else none) else cs[n.toNat * esz]?) = some r ∧ v = r ∧ st' = st := by
        cases agg with
        | true =>
          simp only [if_true] at h ⊢
          simp only [Option.some.injEq, R.val.injEq] at h
          refine ⟨_, if_pos ?_, h.1.symm, h.2.symm⟩
          rw [hn.2.2, ← Nat.succ_mul]
          exact Nat.mul_le_mul_right _ (by omega)
        | false =>
          simp only [Bool.false_eq_true, if_false] at h ⊢
          obtain ⟨c, hc, he2⟩ := Option.map_eq_some_iff.1 h
          simp only [R.val.injEq] at he2
          exact ⟨c, hc, he2.1.symm, he2.2.symm⟩
      obtain ⟨r, hr, rfl, rfl⟩ := h5
      obtain ⟨z, hz, hzv⟩ := part_ok (P := P) h3 h4 hl hvs hone hr
      exact Sim.pure hs z (by simp [execOp, ho, hu, hiv.int_inv, asIntOf, Instr.index, underlying, ht, hn.1, hn.2.1, run_sizeOf h4, hz]) hzv
    · exact absurd h (by simp)
  · exact absurd h (by simp)

theorem sim_idxAA (hs : SR g st w) (he : ER g (Safe g st w) w env a.tmps) {esz len : Nat} {x i : PO} {x' i' : Operand} {t e : TypeId} (ho : o.op = .indexAddr t x' i') (hx : ckPO x x' = true) (hi : ckPO i i' = true)
    (ht : P.underlying t = some (.array len e)) (h4 : sizeOfT P e = some esz)
    (h : x_idxAA esz len x i cx bb tb env st = some (.val v st')) : Sim P cx kb kt g st w o a v st' := by
  unfold x_idxAA at h
  have hxv := he.ev hx
  have hiv := he.ev hi
  split at h
  · rename_i k n id off e1 e2
    split at h
    · rename_i hn
      simp only [Option.some.injEq, R.val.injEq] at h
      obtain ⟨rfl, rfl⟩ := h
      rw [e1] at hiv; rw [e2] at hxv
      generalize hu : a.eval x' = u at hxv
      cases hxv with | ptr _ _ b hb =>
      exact Sim.pure hs (.pointer (some ⟨b, off + n.toNat * esz, none⟩)) (by simp [execOp, ho, hu, hiv.int_inv, asIntOf, Instr.indexAt, underlying, ht, Instr.sureAddr, hn.1, hn.2, run_sizeOf h4, add_none]) (.ptr _ _ _ hb)
    · exact absurd h (by simp)
  · exact absurd h (by simp)

theorem sim_idxA (hs : SR g st w) (he : ER g (Safe g st w) w env a.tmps) {esz : Nat} {x i : PO} {x' i' : Operand} {t e : TypeId} (ho : o.op = .indexAddr t x' i') (hx : ckPO x x' = true) (hi : ckPO i i' = true)
    (ht : P.underlying t = some (.slice e)) (h4 : sizeOfT P e = some esz)
    (h : x_idxA esz x i cx bb tb env st = some (.val v st')) : Sim P cx kb kt g st w o a v st' := by
  unfold x_idxA at h
  have hxv := he.ev hx
  have hiv := he.ev hi
  split at h
  · rename_i k n e1
    split at h
    · rename_i h0
      rw [e1] at hiv
      have hrun : ∀ b off len cap, a.eval x' = .slice (some ⟨b, off, none⟩) len cap → n < (len : Int) → (execOp a.eval o).run P w = .ok (.value (.pointer (some ⟨b, off + n.toNat * esz, none⟩))) w := by
        intro b off len cap hu hlt
        simp [execOp, ho, hu, hiv.int_inv, asIntOf, Instr.indexAt, underlying, ht, h0, hlt, run_sizeOf h4, add_none]
      split at h
      · rename_i id len full e2
        split at h
        · rename_i hlt
          simp only [Option.some.injEq, R.val.injEq] at h
          obtain ⟨rfl, rfl⟩ := h
          rw [e2] at hxv
          generalize hu : a.eval x' = u at hxv
          cases hxv with | bsl _ _ _ b cap hb h6 h7 =>
          refine Sim.pure hs _ (hrun _ _ _ _ hu hlt) ?_
          rw [Nat.zero_add]
          exact .ptr _ _ _ hb
        · exact absurd h (by simp)
      · split at h
        · rename_i rows hr
          split at h
          · rename_i r hrow
            split at h
            · rename_i hlen
              simp only [Option.some.injEq, R.val.injEq] at h
              obtain ⟨rfl, rfl⟩ := h
              obtain ⟨ad, cap, hu, hd⟩ := hxv.rows_inv hr
              rw [hu] at hd
              have hlt : n.toNat < rows.length := (List.getElem?_eq_some_iff.1 hrow).1
              cases hd with
              | sl0 ad cap => simp at hlt
              | sl _ b off cap sz vals hcap h5 h6 h7 =>
                have hsz : sz = esz := by rw [← hlen]; exact (h5 r (List.mem_of_getElem? hrow)).symm
                subst hsz
                refine Sim.pure hs _ (hrun _ _ _ _ hu (by omega)) (.cptr _ _ _ (fun j => vals n.toNat j) (fun j c hc => ?_) (fun j c hc => ?_))
                · have := h6 n.toNat r j c hrow hc
                  exact this
                · exact h7 n.toNat r j c hrow hc
            · exact absurd h (by simp)
          · exact absurd h (by simp)
        · exact absurd h (by simp)
    · exact absurd h (by simp)
  · exact absurd h (by simp)

/-- Fields that follow one another, all basic. -/
def ckFlat (P : Program) : List Field → List Nat → Nat → Bool
  | [], [], _ => true
  | f :: fs, k :: ks, i => f.name != "_" && f.offset == i && isAggOf P f.type == some false && (match P.underlying f.type with | some (.int _) => k == 0 | some .bool => k == 1 | some .string => k == 2 | _ => false) && ckFlat P fs ks (i + 1)
  | _, _, _ => false

theorem beqT_ok {S : Nat → Nat → Prop} {d k : Nat} {t : TypeId} {x y : D} {u v : Value} {r : Bool} (hx : DR S w x u) (hy : DR S w y v) (h : x.beqT k y = some r)
    (ht : (match P.underlying t with | some (.int _) => k == 0 | some .bool => k == 1 | some .string => k == 2 | _ => false) = true) :
    (Op.equalIn (d + 1) t u v).run P w = .ok r w := by
  unfold D.beqT at h
  split at h
  · rename_i k1 m k2 n
    cases hx; cases hy
    split at h
    · rename_i hk
      subst hk
      injection h with h; subst h
      cases hu : P.underlying t with
      | none => rw [hu] at ht; simp at ht
      | some dd =>
        rw [hu] at ht
        cases dd <;> simp at ht
        exact run_equalIn_int w d t _ _ m n hu
    · exact absurd h (by simp)
  · cases hx; cases hy
    injection h with h; subst h
    cases hu : P.underlying t with
    | none => rw [hu] at ht; simp at ht
    | some dd =>
      rw [hu] at ht
      cases dd <;> simp at ht
      exact run_equalIn_bool' w d t _ _ hu
  · cases hx with | str _ s hs' => cases hy with | str _ s' hs'' =>
    injection h with h; subst h
    subst hs'; subst hs''
    cases hu : P.underlying t with
    | none => rw [hu] at ht; simp at ht
    | some dd =>
      rw [hu] at ht
      cases dd <;> simp at ht
      rw [run_equalIn_string w d t s s' hu, beqN_map, ByteArray.toList_eq, ByteArray.toList_eq]
  · exact absurd h (by simp)

theorem eqFields_ok {S : Nat → Nat → Prop} {d : Nat} {xs ys : Array Value} : ∀ (fs : List Field) (ks : List Nat) (i : Nat) (p q : List D) (r : Bool), ckFlat P fs ks i = true → beqKs ks p q = some r →
    (∀ (j : Nat) x, p[j]? = some x → ∃ u, xs[i + j]? = some u ∧ DR S w x u) → (∀ (j : Nat) x, q[j]? = some x → ∃ u, ys[i + j]? = some u ∧ DR S w x u) →
    (Op.eqFields (d + 1) xs ys fs).run P w = .ok r w
  | [], [], i, p, q, r, _, h, _, _ => by
    unfold beqKs at h
    split at h <;> simp_all [Op.eqFields]
  | [], k :: ks, i, p, q, r, hf, _, _, _ => by simp [ckFlat] at hf
  | f :: fs, [], i, p, q, r, hf, _, _, _ => by simp [ckFlat] at hf
  | f :: fs, k :: ks, i, p, q, r, hf, h, hp, hq => by
    simp only [ckFlat, Bool.and_eq_true, bne_iff_ne, beq_iff_eq] at hf
    obtain ⟨⟨⟨⟨hn, hoff⟩, hag⟩, hty⟩, hrest⟩ := hf
    cases p with
    | nil => simp [beqKs] at h
    | cons x p => cases q with
      | nil => simp [beqKs] at h
      | cons y q =>
        simp only [beqKs] at h
        split at h
        · rename_i b1 b2 e1 e2
          injection h with h; subst h
          obtain ⟨u, hu, hxu⟩ := hp 0 x rfl
          obtain ⟨v, hv, hyv⟩ := hq 0 y rfl
          have ih := eqFields_ok (d := d) fs ks (i + 1) p q b2 hrest e2
            (fun j z hz => by have := hp (j + 1) z (by simpa using hz); rwa [show i + (j + 1) = i + 1 + j by omega] at this)
            (fun j z hz => by have := hq (j + 1) z (by simpa using hz); rwa [show i + (j + 1) = i + 1 + j by omega] at this)
          have ha : (part f.type xs f.offset).run P w = .ok u w := by rw [hoff]; simp [part, run_isAgg hag, show xs[i]? = some u from hu]
          have hb : (part f.type ys f.offset).run P w = .ok v w := by rw [hoff]; simp [part, run_isAgg hag, show ys[i]? = some v from hv]
          have hq2 := beqT_ok (P := P) (d := d) (t := f.type) hxu hyv e1 hty
          simp only [Op.eqFields, ne_eq, hn, not_false_eq_true, if_true, Sem.run_bind, ha, hb, hq2, Result.andThen_ok]
          cases b1 with
          | true => simpa using ih
          | false => simp
        · exact absurd h (by simp)

theorem sim_eqS (hs : SR g st w) (he : ER g (Safe g st w) w env a.tmps) {ks : List Nat} {neg : Bool} {x y : PO} {t t2 : TypeId} {x' y' : Operand} (ho : o.op = .binOp (if neg then .neq else .eql) t x' y' t2) (hx : ckPO x x' = true) (hy : ckPO y y' = true)
    (ht : P.underlying t = some (.struct (P.fieldsOf t))) (hp : P.stoodInHeld t = false) (hm : P.eqGuardType P.depth t = false) (hf : ckFlat P (P.fieldsOf t).toList ks 0 = true)
    (h : x_eqS ks neg x y cx bb tb env st = some (.val v st')) : Sim P cx kb kt g st w o a v st' := by
  unfold x_eqS at h
  have hxv := he.ev hx
  have hyv := he.ev hy
  split at h
  · rename_i xs ys e1 e2
    split at h
    · rename_i p q hp1 hq1
      obtain ⟨r, hr, he2⟩ := Option.map_eq_some_iff.1 h
      simp only [R.val.injEq] at he2
      obtain ⟨rfl, rfl⟩ := he2
      rw [e1] at hxv; rw [e2] at hyv
      generalize hu : a.eval x' = u at hxv
      generalize hv : a.eval y' = z at hyv
      cases hxv with | agg _ us hl1 hc1 ho1 =>
      cases hyv with | agg _ vs hl2 hc2 ho2 =>
      obtain ⟨hd1, hd2⟩ := toDs_ok hp1 hl1 hc1
      obtain ⟨hd3, hd4⟩ := toDs_ok hq1 hl2 hc2
      have hrun : (Op.equalIn 10000 t (.agg us) (.agg vs)).run P w = .ok r w := by
        rw [show (10000 : Nat) = 9998 + 1 + 1 from rfl, run_equalIn_struct w (9998 + 1) t us vs ht hp]
        refine eqFields_ok (S := Safe g st w) _ ks 0 p q r hf hr (fun j c hc => ?_) (fun j c hc => ?_)
        · have hj : j < us.size := by have := (List.getElem?_eq_some_iff.1 hc).1; omega
          rw [Nat.zero_add]
          exact ⟨us[j], Array.getElem?_eq_getElem hj, (hd2 j c _ hc (Array.getElem?_eq_getElem hj)).1⟩
        · have hj : j < vs.size := by have := (List.getElem?_eq_some_iff.1 hc).1; omega
          rw [Nat.zero_add]
          exact ⟨vs[j], Array.getElem?_eq_getElem hj, (hd4 j c _ hc (Array.getElem?_eq_getElem hj)).1⟩
      cases neg with
      | false =>
        refine Sim.pure hs (.bool r) ?_ (.d _ _ (.bool _))
        simp only [execOp, ho, hu, hv, Bool.false_eq_true, if_false, Sem.run_bind, run_eqGuard_agg w .eql t x' y' us vs hm, Result.andThen_ok, run_eql_struct, hrun, Sem.run_pure]
      | true =>
        refine Sim.pure hs (.bool (!r)) ?_ (.d _ _ (.bool _))
        simp only [execOp, ho, hu, hv, if_true, Sem.run_bind, run_eqGuard_agg w .neq t x' y' us vs hm, Result.andThen_ok, run_neq_struct, hrun, Sem.run_pure]
    · exact absurd h (by simp)
  · exact absurd h (by simp)

theorem sim_tassert (hs : SR g st w) (he : ER g (Safe g st w) w env a.tmps) {t : TypeId} {zero : AV} {zv : Value} {x : PO} {y : Operand} {xt : TypeId} (ho : o.op = .typeAssert y xt t true) (hx : ckPO x y = true)
    (ht : ∃ d, P.underlying t = some d ∧ ∀ ms, d ≠ .interface ms) (hz : (P.info? t).map (·.zero) = some (some zv)) (hzv : ∀ g S w, VR g S w zero zv)
    (h : x_tassert t zero x cx bb tb env st = some (.val v st')) : Sim P cx kb kt g st w o a v st' := by
  unfold x_tassert at h
  have hv := he.ev hx
  obtain ⟨d, hd, hni⟩ := ht
  have hzr : (zeroValue t).run P w = .ok zv w := by
    obtain ⟨i, hi, hz2⟩ := Option.map_eq_some_iff.1 hz
    simp [zeroValue, typeInfo, hi, hz2]
  have hmiss : (do pure (.tuple #[← zeroValue t, .bool false]) : Sem Value).run P w = .ok (.tuple #[zv, .bool false]) w := by simp [hzr]
  have hfalse : VR g (Safe g st w) w (.tup [zero, .d (.bool false)]) (.tuple #[zv, .bool false]) := by
    refine .tup _ _ rfl (fun i c u hc hu => ?_)
    match i with
    | 0 => simp at hc hu; subst hc; subst hu; exact hzv _ _ _
    | 1 => simp at hc hu; subst hc; subst hu; exact .d _ _ (.bool _)
    | i + 2 => simp at hc
  split at h
  · rename_i u x' e
    rw [e] at hv
    generalize hu : a.eval y = z at hv
    cases hv with | d _ _ hv => cases hv with | iface _ _ val hval =>
    split at h
    · rename_i hut
      subst hut
      simp only [Option.some.injEq, R.val.injEq] at h
      obtain ⟨rfl, rfl⟩ := h
      refine Sim.pure hs (.tuple #[val, .bool true]) ?_ (.tup _ _ rfl (fun i c z hc hz => ?_))
      · simp only [execOp, ho, hu, Instr.typeAssert, Sem.run_bind, underlying, run_program, Result.andThen_ok, hd]
        cases d <;> first | rfl | exact absurd rfl (hni _) | simp
      · match i with
        | 0 =>
          simp at hc hz; subst hc; subst hz
          cases hval with
          | agg cs vs hl h1 h2 =>
            refine .agg _ _ (by simpa using hl) (fun j c u hc hu => ?_) (fun c hc => ?_)
            · simp only [List.getElem?_map, Option.map_eq_some_iff] at hc
              obtain ⟨dd, hdd, rfl⟩ := hc
              exact .d _ _ (h1 j dd u hdd hu)
            · obtain ⟨dd, hdd, rfl⟩ := List.mem_map.1 hc
              have := h2 dd hdd
              cases dd <;> simp_all [D.one, AV.isOne]
          | int k n => exact .d _ _ (.int k n)
          | bool b => exact .d _ _ (.bool b)
          | str l s hl => exact .d _ _ (.str l s hl)
          | sl0 ad cap => exact .d _ _ (.sl0 ad cap)
          | sl rows b off cap sz vals hcap h1 h2 h3 => exact .d _ _ (.sl rows b off cap sz vals hcap h1 h2 h3)
          | iface t x v h => exact .d _ _ (.iface t x v h)
          | nilI => exact .d _ _ .nilI
          | nilP => exact .d _ _ .nilP
          | nilM => exact .d _ _ .nilM
          | nilF => exact .d _ _ .nilF
        | 1 => simp at hc hz; subst hc; subst hz; exact .d _ _ (.bool _)
        | i + 2 => simp at hc
    · rename_i hut
      simp only [Option.some.injEq, R.val.injEq] at h
      obtain ⟨rfl, rfl⟩ := h
      refine Sim.pure hs (.tuple #[zv, .bool false]) ?_ hfalse
      simp only [execOp, ho, hu, Instr.typeAssert, Sem.run_bind, underlying, run_program, Result.andThen_ok, hd]
      cases d <;> first | (simp [hut, hzr]; done) | exact absurd rfl (hni _)
  · rename_i e
    rw [e] at hv
    generalize hu : a.eval y = z at hv
    cases hv with
    | d _ _ hv =>
      cases hv
      simp only [Option.some.injEq, R.val.injEq] at h
      obtain ⟨rfl, rfl⟩ := h
      refine Sim.pure hs (.tuple #[zv, .bool false]) ?_ hfalse
      simp only [execOp, ho, hu, Instr.typeAssert, Sem.run_bind, underlying, run_program, Result.andThen_ok, hd]
      cases d <;> first | (simp [hzr]; done) | exact absurd rfl (hni _)
  · exact absurd h (by simp)
end
end Go.Rf

namespace Go.Rf
set_option linter.unusedVariables false
set_option linter.unusedSimpArgs false

theorem DR.oneCell {S : Nat → Nat → Prop} {w : World} {x : D} {v : Value} (h : DR S w x v) (ho : x.one = true) : v.oneCell' = true := by
  cases h <;> first | rfl | simp [D.one] at ho
theorem VR.oneCell {g : Gh} {S : Nat → Nat → Prop} {w : World} {x : AV} {v : Value} (h : VR g S w x v) (ho : x.isOne = true) : v.oneCell' = true := by
  cases h with
  | d y v hy => refine hy.oneCell ?_; cases y <;> simp_all [AV.isOne, D.one]
  | agg => simp [AV.isOne] at ho
  | tup => simp [AV.isOne] at ho
  | own t rows v b sz used h1 h2 h3 h4 => exact h3.oneCell rfl
  | _ => rfl

/-- Cells, one by one. -/
def CellsR (g : Gh) (S : Nat → Nat → Prop) (w : World) (cs : List AV) (vs : List Value) : Prop :=
  cs.length = vs.length ∧ ∀ (i : Nat) c v, cs[i]? = some c → vs[i]? = some v → VR g S w c v

theorem CellsR.nil {g : Gh} {S : Nat → Nat → Prop} {w : World} : CellsR g S w [] [] := ⟨rfl, fun i c v h => by simp at h⟩
theorem CellsR.append {g : Gh} {S : Nat → Nat → Prop} {w : World} {a b : List AV} {x y : List Value} (h : CellsR g S w a x) (k : CellsR g S w b y) : CellsR g S w (a ++ b) (x ++ y) := by
  refine ⟨by simp [h.1, k.1], fun i c v hc hv => ?_⟩
  have hl := h.1
  rw [List.getElem?_append] at hc hv
  split at hc
  · rename_i hi
    rw [if_pos (by omega)] at hv
    exact h.2 i c v hc hv
  · rename_i hi
    rw [if_neg (by omega)] at hv
    rw [hl] at hc
    exact k.2 _ c v hc hv
theorem CellsR.take {g : Gh} {S : Nat → Nat → Prop} {w : World} {a : List AV} {x : List Value} (h : CellsR g S w a x) (n : Nat) : CellsR g S w (a.take n) (x.take n) := by
  refine ⟨by simp [h.1], fun i c v hc hv => ?_⟩
  rw [List.getElem?_take] at hc hv
  split at hc
  · rename_i hi
    rw [if_pos hi] at hv
    exact h.2 i c v hc hv
  · exact absurd hc (by simp)
theorem CellsR.drop {g : Gh} {S : Nat → Nat → Prop} {w : World} {a : List AV} {x : List Value} (h : CellsR g S w a x) (n : Nat) : CellsR g S w (a.drop n) (x.drop n) := by
  refine ⟨by simp [h.1], fun i c v hc hv => ?_⟩
  rw [List.getElem?_drop] at hc hv
  exact h.2 _ c v hc hv
theorem CellsR.keep {g g' : Gh} {S S' : Nat → Nat → Prop} {w w' : World} (hk : Keeps g S w g' S' w') {a : List AV} {x : List Value} (h : CellsR g S w a x) : CellsR g' S' w' a x :=
  ⟨h.1, fun i c v hc hv => (h.2 i c v hc hv).keep hk⟩
theorem CellsR.one {g : Gh} {S : Nat → Nat → Prop} {w : World} {a : List AV} {x : List Value} (h : CellsR g S w a x) (ho : a.all AV.isOne = true) : ∀ v, v ∈ x → v.oneCell' = true := by
  intro v hv
  obtain ⟨i, hi, rfl⟩ := List.mem_iff_getElem.1 hv
  have hl := h.1
  rw [List.all_eq_true] at ho
  exact (h.2 i _ _ (List.getElem?_eq_getElem (by omega)) (List.getElem?_eq_getElem hi)).oneCell (ho _ (List.getElem_mem (by omega)))

/-- A value's cells. -/
theorem VR.cells {g : Gh} {S : Nat → Nat → Prop} {w : World} {x : AV} {v : Value} (h : VR g S w x v) (ho : x.cells.all AV.isOne = true) : CellsR g S w x.cells v.cells.toList := by
  have single : ∀ (y : AV) (u : Value), VR g S w y u → y.isOne = true → CellsR g S w [y] (Value.cells u).toList := by
    intro y u hy hone
    have h1 := hy.oneCell hone
    have : Value.cells u = #[u] := by cases u <;> simp_all [Value.cells, Value.oneCell']
    rw [this]
    refine ⟨rfl, fun i c z hc hz => ?_⟩
    match i with
    | 0 => simp at hc hz; subst hc; subst hz; exact hy
    | i + 1 => simp at hc
  cases hx : x with
  | agg cs =>
    rw [hx] at h
    cases h with
    | agg _ vs hl hv _ => exact ⟨by simpa [AV.cells, Value.cells] using hl, fun i c z hc hz => hv i c z hc (by simpa [Value.cells] using hz)⟩
  | _ =>
    rw [hx] at h ho
    simp only [AV.cells, List.all_cons, List.all_nil, Bool.and_true] at ho ⊢
    exact single _ _ h ho

theorem foldl_fill (off : Nat) : ∀ (l : List Value) (s : Nat) (cells : Array Value), off + s + l.length ≤ cells.size →
    ((l.zipIdx s).foldl (fun cs (p : Value × Nat) => cs.setIfInBounds (off + p.2) p.1) cells).toList = cells.toList.take (off + s) ++ l ++ cells.toList.drop (off + s + l.length)
  | [], s, cells, h => by simp
  | u :: l, s, cells, h => by
    simp only [List.zipIdx_cons, List.foldl_cons]
    rw [foldl_fill off l (s + 1) (cells.setIfInBounds (off + s) u) (by simp at h ⊢; omega)]
    have hlt : off + s < cells.toList.length := by simp only [List.length_cons] at h; rw [Array.length_toList]; omega
    rw [Array.toList_setIfInBounds]
    have e1 : off + (s + 1) = off + s + 1 := by omega
    rw [e1, List.take_succ_eq_append_getElem (by simpa using hlt), List.take_set_of_le (Nat.le_refl _)]
    rw [List.getElem_set_self, List.drop_set_of_lt (by omega)]
    simp only [List.length_cons, List.append_assoc, List.cons_append, List.nil_append]
    rw [show off + s + 1 + l.length = off + s + (l.length + 1) by omega]

theorem fill_ok {g : Gh} {S : Nat → Nat → Prop} {w : World} {place : Nat → Option (Nat × Nat)} : ∀ (parts : List (Nat × Nat × AV)) (vparts : List (Nat × Value)) (cells : List AV) (vcells : Array Value) (out : List AV),
    CellsR g S w cells vcells.toList → fillA cells parts = some out →
    parts.length = vparts.length → (∀ (i : Nat) p q, parts[i]? = some p → vparts[i]? = some q → place q.1 = some (p.1, p.2.1) ∧ VR g S w p.2.2 q.2) →
    ∃ vout, Instr.fill place vcells vparts = some vout ∧ CellsR g S w out vout.toList
  | [], [], cells, vcells, out, hc, hf, _, _ => by
    simp only [fillA, Option.some.injEq] at hf
    subst hf
    exact ⟨vcells, rfl, hc⟩
  | [], q :: qs, _, _, _, _, _, hl, _ => by simp at hl
  | p :: ps, [], _, _, _, _, _, hl, _ => by simp at hl
  | (off, size, x) :: ps, (i, v) :: qs, cells, vcells, out, hc, hf, hl, hp => by
    obtain ⟨hpl, hv⟩ := hp 0 _ _ rfl rfl
    simp only at hpl hv
    simp only [fillA] at hf
    split at hf
    · rename_i hcond
      obtain ⟨h1, h2, h3⟩ := hcond
      have hcx := hv.cells h3
      have hsz : v.cells.size = size := by have := hcx.1; rw [h1] at this; simpa using this.symm
      have hle : off + v.cells.size ≤ vcells.size := by have := hc.1; simp at this; omega
      simp only [Instr.fill, hpl]
      rw [if_neg (by simp; omega)]
      have hfold : (v.cells.zipIdx.foldl (fun cs (c, j) => cs.setIfInBounds (off + j) c) vcells).toList = vcells.toList.take off ++ v.cells.toList ++ vcells.toList.drop (off + size) := by
        have := foldl_fill off v.cells.toList 0 vcells (by simpa using hle)
        rw [← Array.foldl_toList]
        simp only [Array.toList_zipIdx]
        simp only [Nat.add_zero, Array.length_toList, hsz] at this
        exact this
      refine fill_ok ps qs _ _ out ?_ hf (by simpa using hl) (fun j p q hpj hqj => hp (j + 1) p q (by simpa using hpj) (by simpa using hqj))
      rw [hfold]
      exact ((hc.take off).append hcx).append (hc.drop (off + size))
    · exact absurd hf (by simp)
end Go.Rf

namespace Go.Rf
set_option linter.unusedVariables false
set_option linter.unusedSimpArgs false

def ckCells : List AV → List Value → Bool
  | [], [] => true
  | c :: cs, v :: vs => ckC c v && ckCells cs vs
  | _, _ => false
theorem ckCells_ok {g : Gh} {S : Nat → Nat → Prop} {w : World} : ∀ {cs : List AV} {vs : List Value}, ckCells cs vs = true → CellsR g S w cs vs
  | [], [], _ => CellsR.nil
  | [], _ :: _, h => by simp [ckCells] at h
  | _ :: _, [], h => by simp [ckCells] at h
  | c :: cs, v :: vs, h => by
    simp only [ckCells, Bool.and_eq_true] at h
    have ih := ckCells_ok (g := g) (S := S) (w := w) h.2
    refine ⟨by simp [ih.1], fun i c' v' hc hv => ?_⟩
    cases i with
    | zero => simp at hc hv; subst hc; subst hv; exact ckC_ok h.1
    | succ i => simp at hc hv; exact ih.2 i c' v' hc hv

/-- The type's zero value has these cells. -/
def ckZero (P : Program) (t : TypeId) (zero : List AV) : Bool := match P.info? t with
  | some i => match i.zero with
    | some z => ckCells zero z.cells.toList
    | none => false
  | none => false
theorem ckZero_ok {P : Program} {t : TypeId} {zero : List AV} {w : World} (h : ckZero P t zero = true) : ∃ z, (zeroValue t).run P w = .ok z w ∧ ∀ g S w', CellsR g S w' zero z.cells.toList := by
  unfold ckZero at h
  split at h
  · rename_i i hi
    split at h
    · rename_i z hz
      exact ⟨z, by simp [zeroValue, typeInfo, hi, hz], fun g S w' => ckCells_ok h⟩
    · exact absurd h (by simp)
  · exact absurd h (by simp)

def sizesOk (P : Program) (fs : List Field) : Bool := fs.all fun f => (sizeOfT P f.type).isSome
theorem run_places {P : Program} {w : World} : ∀ (fs : List Field), sizesOk P fs = true →
    (fs.mapM fun f => do pure (f.offset, ← sizeOf f.type) : Sem (List (Nat × Nat))).run P w = .ok (fs.map fun f => (f.offset, (sizeOfT P f.type).getD 0)) w
  | [], _ => by simp
  | f :: fs, h => by
    simp only [sizesOk, List.all_cons, Bool.and_eq_true] at h
    obtain ⟨n, hn⟩ := Option.isSome_iff_exists.1 h.1
    have ih := run_places (P := P) (w := w) fs h.2
    simp only [List.mapM_cons, Sem.run_bind, run_sizeOf hn, Result.andThen_ok, Sem.run_pure, ih]
    simp [hn]

/-- Parts of a struct. -/
def ckParts (P : Program) (fs : Array Field) : List (Nat × Nat × PO) → List (Nat × Operand) → Bool
  | [], [] => true
  | (off, n, x) :: ps, (i, y) :: qs => (match fs[i]? with
      | some f => f.offset == off && sizeOfT P f.type == some n
      | none => false) && ckPO x y && ckParts P fs ps qs
  | _, _ => false
/-- Parts of an array. -/
def ckPartsA (esz : Nat) : List (Nat × Nat × PO) → List (Nat × Operand) → Bool
  | [], [] => true
  | (off, n, x) :: ps, (i, y) :: qs => off == i * esz && n == esz && ckPO x y && ckPartsA esz ps qs
  | _, _ => false

section
variable {P : Program} {cx : Cx} {kb kt : Option Nat} {g : Gh} {st : St} {w : World} {o : Oper} {a : Act} {env : Env} {bb tb : Nat} {v : AV} {st' : St}

theorem ckParts_ok (he : ER g (Safe g st w) w env a.tmps) {fs : Array Field} : ∀ {ps : List (Nat × Nat × PO)} {qs : List (Nat × Operand)}, ckParts P fs ps qs = true →
    (ps.map fun (o, n, x) => (o, n, x.ev env)).length = (qs.map fun (i, x) => (i, a.eval x)).length ∧
    ∀ (i : Nat) p q, (ps.map fun (o, n, x) => (o, n, x.ev env))[i]? = some p → (qs.map fun (i, x) => (i, a.eval x))[i]? = some q →
      (fs.map fun f => (f.offset, (sizeOfT P f.type).getD 0))[q.1]? = some (p.1, p.2.1) ∧ VR g (Safe g st w) w p.2.2 q.2
  | [], [], _ => ⟨rfl, fun i p q h => by simp at h⟩
  | [], _ :: _, h => by simp [ckParts] at h
  | _ :: _, [], h => by simp [ckParts] at h
  | (off, n, x) :: ps, (j, y) :: qs, h => by
    simp only [ckParts, Bool.and_eq_true] at h
    obtain ⟨⟨h1, h2⟩, h3⟩ := h
    obtain ⟨hl, ih⟩ := ckParts_ok he h3
    refine ⟨by simpa using hl, fun i p q hp hq => ?_⟩
    cases i with
    | zero =>
      simp at hp hq; subst hp; subst hq
      refine ⟨?_, he.ev h2⟩
      split at h1
      · rename_i f hf
        simp only [Bool.and_eq_true, beq_iff_eq] at h1
        simp [hf, h1.1, h1.2]
      · exact absurd h1 (by simp)
    | succ i => simp only [List.map_cons, List.getElem?_cons_succ] at hp hq; exact ih i p q hp hq

theorem ckPartsA_ok (he : ER g (Safe g st w) w env a.tmps) {esz : Nat} : ∀ {ps : List (Nat × Nat × PO)} {qs : List (Nat × Operand)}, ckPartsA esz ps qs = true →
    (ps.map fun (o, n, x) => (o, n, x.ev env)).length = (qs.map fun (i, x) => (i, a.eval x)).length ∧
    ∀ (i : Nat) p q, (ps.map fun (o, n, x) => (o, n, x.ev env))[i]? = some p → (qs.map fun (i, x) => (i, a.eval x))[i]? = some q →
      (fun i => some (i * esz, esz)) q.1 = some (p.1, p.2.1) ∧ VR g (Safe g st w) w p.2.2 q.2
  | [], [], _ => ⟨rfl, fun i p q h => by simp at h⟩
  | [], _ :: _, h => by simp [ckPartsA] at h
  | _ :: _, [], h => by simp [ckPartsA] at h
  | (off, n, x) :: ps, (j, y) :: qs, h => by
    simp only [ckPartsA, Bool.and_eq_true, beq_iff_eq] at h
    obtain ⟨⟨⟨h0, h1⟩, h2⟩, h3⟩ := h
    obtain ⟨hl, ih⟩ := ckPartsA_ok he h3
    refine ⟨by simpa using hl, fun i p q hp hq => ?_⟩
    cases i with
    | zero => simp at hp hq; subst hp; subst hq; exact ⟨by simp [h0, h1], he.ev h2⟩
    | succ i => simp only [List.map_cons, List.getElem?_cons_succ] at hp hq; exact ih i p q hp hq

theorem sim_build (hs : SR g st w) (he : ER g (Safe g st w) w env a.tmps) {zero : List AV} {parts : List (Nat × Nat × PO)} {t : TypeId} {ps : Array (Nat × Operand)} (ho : o.op = .build t ps)
    (hz : ckZero P t zero = true)
    (ht : (∃ fs, P.underlying t = some (.struct fs) ∧ sizesOk P fs.toList = true ∧ ckParts P fs parts ps.toList = true) ∨ (∃ n e esz, P.underlying t = some (.array n e) ∧ sizeOfT P e = some esz ∧ ckPartsA esz parts ps.toList = true))
    (h : x_build zero parts cx bb tb env st = some (.val v st')) : Sim P cx kb kt g st w o a v st' := by
  unfold x_build at h
  split at h
  · rename_i cs hcs
    split at h
    · rename_i hall
      simp only [Option.some.injEq, R.val.injEq] at h
      obtain ⟨rfl, rfl⟩ := h
      obtain ⟨z, hzr, hzc⟩ := ckZero_ok (w := w) hz
      have hps : (ps.map fun (i, x) => (i, a.eval x)).toList = ps.toList.map fun (i, x) => (i, a.eval x) := Array.toList_map ..
      have hfin : ∀ (place : Nat → Option (Nat × Nat)),
          (parts.map fun (o, n, x) => (o, n, x.ev env)).length = (ps.toList.map fun (i, x) => (i, a.eval x)).length ∧
          (∀ (i : Nat) p q, (parts.map fun (o, n, x) => (o, n, x.ev env))[i]? = some p → (ps.toList.map fun (i, x) => (i, a.eval x))[i]? = some q → place q.1 = some (p.1, p.2.1) ∧ VR g (Safe g st w) w p.2.2 q.2) →
          ∃ vout, Instr.fill place z.cells (ps.map fun (i, x) => (i, a.eval x)).toList = some vout ∧ VR g (Safe g st w) w (.agg cs) (.agg vout) := by
        intro place hpl
        obtain ⟨vout, hv1, hv2⟩ := fill_ok (place := place) _ _ _ _ _ (hzc g (Safe g st w) w) hcs hpl.1 hpl.2
        rw [hps]
        refine ⟨vout, hv1, .agg _ _ (by simpa using hv2.1) (fun i c v hc hv => hv2.2 i c v hc (by simpa using hv)) (fun c hc => ?_)⟩
        rw [List.all_eq_true] at hall
        exact hall c hc
      rcases ht with ⟨fs, h1, h2, h3⟩ | ⟨n, e, esz, h1, h2, h3⟩
      · obtain ⟨vout, hv1, hv2⟩ := hfin ((fs.map fun f => (f.offset, (sizeOfT P f.type).getD 0))[·]?) (ckParts_ok he h3)
        refine Sim.pure hs (.agg vout) ?_ hv2
        have hpl : (fs.mapM fun f => do pure (f.offset, ← sizeOf f.type) : Sem (Array (Nat × Nat))).run P w = .ok (fs.map fun f => (f.offset, (sizeOfT P f.type).getD 0)) w := by
          obtain ⟨l⟩ := fs
          have := run_places (P := P) (w := w) l h2
          rw [List.mapM_toArray, Sem.run_map, this]
          simp
        simp only [execOp, ho, Instr.build, Sem.run_bind, hzr, Result.andThen_ok, underlying, run_program, h1, Sem.run_pure, hpl, hv1]
      · obtain ⟨vout, hv1, hv2⟩ := hfin (fun i => some (i * esz, esz)) (ckPartsA_ok he h3)
        refine Sim.pure hs (.agg vout) ?_ hv2
        simp only [execOp, ho, Instr.build, Sem.run_bind, hzr, Result.andThen_ok, underlying, run_program, h1, Sem.run_pure, run_sizeOf h2, hv1]
    · exact absurd h (by simp)
  · exact absurd h (by simp)
end
end Go.Rf
