/- The given functions: byte search, number reading, the closure that appends. -/
import Derived.Test.YtojhechepdlnhaaGreatDoorProg
import Derived.Test.YtojhechepdlnhaaGreatDoorMc
import Derived.Test.YtojhechepdlnhaaGreatDoorCk
import Derived.Test.YtojhechepdlnhaaGreatDoorMd
import Derived.Shelf.LaysC
import Derived.Shelf.Strconv.ParseIntPublic10
import Derived.Shelf.Strings.Search1
import Derived.Shelf.Sort.Plain
import Derived.Ground.Names2Prog
import Derived.KernelRfl
import Derived.Orders
namespace Go.Proofs
open Go.Shelf
def Tryz.laysC174_ren : Go.Shelf.Ren := ⟨fun | 174 => 226 | 247 => 230 | 245 => 231 | 287 => 238 | 279 => 239 | 280 => 240 | 281 => 241 | 282 => 242 | 321 => 250 | 322 => 251 | 316 => 252 | 171 => 254 | 205 => 253 | 243 => 258 | 246 => 227 | 283 => 232 | 284 => 233 | 285 => 234 | 286 => 235 | 129 => 156 | 317 => 243 | 318 => 244 | 319 => 245 | 320 => 246 | 337 => 255 | 338 => 256 | n => n, fun | 9 => 9 | 3 => 3 | 2 => 2 | 75 => 214 | 85 => 215 | 4 => 4 | 167 => 224 | 5 => 5 | 53 => 162 | 175 => 225 | 46 => 132 | 168 => 227 | 37 => 221 | 0 => 0 | 210 => 237 | 21 => 21 | 127 => 241 | 145 => 244 | 143 => 242 | 171 => 219 | 173 => 222 | 212 => 232 | 51 => 160 | 20 => 20 | 213 => 233 | 232 => 245 | 233 => 246 | 80 => 247 | n => n, fun | 15 => 2 | 16 => 3 | 17 => 0 | 18 => 4 | 19 => 5 | n => n⟩
theorem Tryz.laysC174 : Go.Proofs.LaysC.n174 Tryz.prog Tryz.laysC174_ren := {
  mixed := by kernel_rfl
  f129 := Tryz.func156.trans (congrArg some (by kernel_rfl))
  f171 := Tryz.func254.trans (congrArg some (by kernel_rfl))
  f174 := Tryz.func226.trans (congrArg some (by kernel_rfl))
  f205 := Tryz.func253.trans (congrArg some (by kernel_rfl))
  f243 := Tryz.func258.trans (congrArg some (by kernel_rfl))
  f245 := Tryz.func231.trans (congrArg some (by kernel_rfl))
  f246 := Tryz.func227.trans (congrArg some (by kernel_rfl))
  f247 := Tryz.func230.trans (congrArg some (by kernel_rfl))
  f279 := Tryz.func239.trans (congrArg some (by kernel_rfl))
  f280 := Tryz.func240.trans (congrArg some (by kernel_rfl))
  f281 := Tryz.func241.trans (congrArg some (by kernel_rfl))
  f282 := Tryz.func242.trans (congrArg some (by kernel_rfl))
  f283 := Tryz.func232.trans (congrArg some (by kernel_rfl))
  f284 := Tryz.func233.trans (congrArg some (by kernel_rfl))
  f285 := Tryz.func234.trans (congrArg some (by kernel_rfl))
  f286 := Tryz.func235.trans (congrArg some (by kernel_rfl))
  f287 := Tryz.func238.trans (congrArg some (by kernel_rfl))
  f316 := Tryz.func252.trans (congrArg some (by kernel_rfl))
  f317 := Tryz.func243.trans (congrArg some (by kernel_rfl))
  f318 := Tryz.func244.trans (congrArg some (by kernel_rfl))
  f319 := Tryz.func245.trans (congrArg some (by kernel_rfl))
  f320 := Tryz.func246.trans (congrArg some (by kernel_rfl))
  f321 := Tryz.func250.trans (congrArg some (by kernel_rfl))
  f322 := Tryz.func251.trans (congrArg some (by kernel_rfl))
  f337 := Tryz.func255.trans (congrArg some (by kernel_rfl))
  f338 := Tryz.func256.trans (congrArg some (by kernel_rfl))
  t0 := Tryz.underlying0
  a0 := Tryz.isAgg0
  z0 := Tryz.sizeOf0
  v0 := Tryz.zeroValue0
  t2 := Tryz.underlying2
  a2 := Tryz.isAgg2
  z2 := Tryz.sizeOf2
  v2 := Tryz.zeroValue2
  t3 := Tryz.underlying3
  a3 := Tryz.isAgg3
  z3 := Tryz.sizeOf3
  v3 := Tryz.zeroValue3
  t4 := Tryz.underlying4
  a4 := Tryz.isAgg4
  z4 := Tryz.sizeOf4
  v4 := Tryz.zeroValue4
  t5 := Tryz.underlying5
  a5 := Tryz.isAgg5
  z5 := Tryz.sizeOf5
  v5 := Tryz.zeroValue5
  t9 := Tryz.underlying9
  a9 := Tryz.isAgg9
  z9 := Tryz.sizeOf9
  v9 := Tryz.zeroValue9
  t20 := Tryz.underlying20
  a20 := Tryz.isAgg20
  z20 := Tryz.sizeOf20
  v20 := Tryz.zeroValue20
  t21 := Tryz.underlying21
  a21 := Tryz.isAgg21
  z21 := Tryz.sizeOf21
  v21 := Tryz.zeroValue21
  t37 := Tryz.underlying221
  a37 := Tryz.isAgg221
  z37 := Tryz.sizeOf221
  v37 := Tryz.zeroValue221
  t46 := Tryz.underlying132
  a46 := Tryz.isAgg132
  z46 := Tryz.sizeOf132
  v46 := Tryz.zeroValue132
  t51 := Tryz.underlying160
  a51 := Tryz.isAgg160
  z51 := Tryz.sizeOf160
  v51 := Tryz.zeroValue160
  t53 := Tryz.underlying162
  a53 := Tryz.isAgg162
  z53 := Tryz.sizeOf162
  v53 := Tryz.zeroValue162
  t75 := Tryz.underlying214
  a75 := Tryz.isAgg214
  z75 := Tryz.sizeOf214
  v75 := Tryz.zeroValue214
  t85 := Tryz.underlying215
  a85 := Tryz.isAgg215
  z85 := Tryz.sizeOf215
  v85 := Tryz.zeroValue215
  t127 := Tryz.underlying241
  a127 := Tryz.isAgg241
  z127 := Tryz.sizeOf241
  v127 := Tryz.zeroValue241
  t143 := Tryz.underlying242
  a143 := Tryz.isAgg242
  z143 := Tryz.sizeOf242
  v143 := Tryz.zeroValue242
  t145 := Tryz.underlying244
  a145 := Tryz.isAgg244
  z145 := Tryz.sizeOf244
  v145 := Tryz.zeroValue244
  t167 := Tryz.underlying224
  a167 := Tryz.isAgg224
  z167 := Tryz.sizeOf224
  v167 := Tryz.zeroValue224
  t168 := Tryz.underlying227
  a168 := Tryz.isAgg227
  z168 := Tryz.sizeOf227
  v168 := Tryz.zeroValue227
  t171 := Tryz.underlying219
  a171 := Tryz.isAgg219
  z171 := Tryz.sizeOf219
  v171 := Tryz.zeroValue219
  t173 := Tryz.underlying222
  a173 := Tryz.isAgg222
  z173 := Tryz.sizeOf222
  v173 := Tryz.zeroValue222
  t175 := Tryz.underlying225
  a175 := Tryz.isAgg225
  z175 := Tryz.sizeOf225
  v175 := Tryz.zeroValue225
  t210 := Tryz.underlying237
  a210 := Tryz.isAgg237
  z210 := Tryz.sizeOf237
  v210 := Tryz.zeroValue237
  t212 := Tryz.underlying232
  a212 := Tryz.isAgg232
  z212 := Tryz.sizeOf232
  v212 := Tryz.zeroValue232
  t213 := Tryz.underlying233
  a213 := Tryz.isAgg233
  z213 := Tryz.sizeOf233
  t232 := Tryz.underlying245
  a232 := Tryz.isAgg245
  z232 := Tryz.sizeOf245
  v232 := Tryz.zeroValue245
  t233 := Tryz.underlying246
  a233 := Tryz.isAgg246
  z233 := Tryz.sizeOf246
  v233 := Tryz.zeroValue246
  g15 := by kernel_rfl
  g16 := by kernel_rfl
  g17 := by kernel_rfl
  g18 := by kernel_rfl
  g19 := by kernel_rfl
  t80 := Tryz.underlying247
  a80 := Tryz.isAgg247
  z80 := Tryz.sizeOf247
  v80 := Tryz.zeroValue247
  i0 := by kernel_rfl
  i2 := by kernel_rfl
  i3 := by kernel_rfl
  i4 := by kernel_rfl
  i5 := by kernel_rfl
  i9 := by kernel_rfl
  i20 := by kernel_rfl
  i21 := by kernel_rfl
  i37 := by kernel_rfl
  i46 := by kernel_rfl
  i51 := by kernel_rfl
  i53 := by kernel_rfl
  i75 := by kernel_rfl
  i80 := by kernel_rfl
  i85 := by kernel_rfl
  i127 := by kernel_rfl
  i143 := by kernel_rfl
  i145 := by kernel_rfl
  i167 := by kernel_rfl
  i168 := by kernel_rfl
  i171 := by kernel_rfl
  i173 := by kernel_rfl
  i175 := by kernel_rfl
  i210 := by kernel_rfl
  i212 := by kernel_rfl
  i232 := by kernel_rfl
  i233 := by kernel_rfl
  m15 := by kernel_rfl
  m16 := by kernel_rfl
  m17 := by kernel_rfl
  m18 := by kernel_rfl
  m19 := by kernel_rfl
  c0 := by kernel_rfl
  c2 := by kernel_rfl
  c3 := by kernel_rfl
  c4 := by kernel_rfl
  c5 := by kernel_rfl
  c9 := by kernel_rfl
  c20 := by kernel_rfl
  c21 := by kernel_rfl
  c37 := by kernel_rfl
  c46 := by kernel_rfl
  c51 := by kernel_rfl
  c53 := by kernel_rfl
  c75 := by kernel_rfl
  c80 := by kernel_rfl
  c85 := by kernel_rfl
  c127 := by kernel_rfl
  c143 := by kernel_rfl
  c145 := by kernel_rfl
  c167 := by kernel_rfl
  c168 := by kernel_rfl
  c171 := by kernel_rfl
  c173 := by kernel_rfl
  c175 := by kernel_rfl
  c210 := by kernel_rfl
  c212 := by kernel_rfl
  c213 := by kernel_rfl
  c232 := by kernel_rfl
  c233 := by kernel_rfl }
def Tryz.lays217_ren : Go.Shelf.Ren := ⟨fun | 217 => 228 | 266 => 236 | n => n, fun | 9 => 9 | 5 => 5 | 3 => 3 | n => n, fun | n => n⟩
theorem Tryz.lays217 : Go.Proofs.Lays.n217 Tryz.prog Tryz.lays217_ren := {
  mixed := by kernel_rfl
  f217 := Tryz.func228.trans (congrArg some (by kernel_rfl))
  f266 := Tryz.func236.trans (congrArg some (by kernel_rfl))
  t3 := Tryz.underlying3
  a3 := Tryz.isAgg3
  z3 := Tryz.sizeOf3
  v3 := Tryz.zeroValue3
  t5 := Tryz.underlying5
  a5 := Tryz.isAgg5
  z5 := Tryz.sizeOf5
  v5 := Tryz.zeroValue5
  t9 := Tryz.underlying9
  a9 := Tryz.isAgg9
  z9 := Tryz.sizeOf9
  v9 := Tryz.zeroValue9 }
def Tryz.lays190_ren : Go.Shelf.Ren := ⟨fun | 190 => 65 | 125 => 117 | 258 => 118 | 128 => 155 | 129 => 156 | 302 => 157 | 303 => 158 | 304 => 159 | 305 => 160 | 306 => 161 | 307 => 162 | 308 => 163 | 309 => 164 | 310 => 165 | 333 => 197 | 329 => 193 | 330 => 194 | 334 => 198 | 335 => 199 | 336 => 91 | 344 => 217 | n => n, fun | 31 => 23 | 9 => 9 | 3 => 3 | 46 => 132 | 0 => 0 | 51 => 160 | 53 => 162 | 4 => 4 | 183 => 153 | 182 => 152 | 131 => 157 | 5 => 5 | 218 => 187 | 222 => 191 | 228 => 203 | 229 => 204 | n => n, fun | n => n⟩
theorem Tryz.lays190 : Go.Proofs.Lays.n190 Tryz.prog Tryz.lays190_ren := {
  mixed := by kernel_rfl
  f125 := Tryz.func117.trans (congrArg some (by kernel_rfl))
  f128 := Tryz.func155.trans (congrArg some (by kernel_rfl))
  f129 := Tryz.func156.trans (congrArg some (by kernel_rfl))
  f190 := Tryz.func65.trans (congrArg some (by kernel_rfl))
  f258 := Tryz.func118.trans (congrArg some (by kernel_rfl))
  f302 := Tryz.func157.trans (congrArg some (by kernel_rfl))
  f303 := Tryz.func158.trans (congrArg some (by kernel_rfl))
  f304 := Tryz.func159.trans (congrArg some (by kernel_rfl))
  f305 := Tryz.func160.trans (congrArg some (by kernel_rfl))
  f306 := Tryz.func161.trans (congrArg some (by kernel_rfl))
  f307 := Tryz.func162.trans (congrArg some (by kernel_rfl))
  f308 := Tryz.func163.trans (congrArg some (by kernel_rfl))
  f309 := Tryz.func164.trans (congrArg some (by kernel_rfl))
  f310 := Tryz.func165.trans (congrArg some (by kernel_rfl))
  f329 := Tryz.func193.trans (congrArg some (by kernel_rfl))
  f330 := Tryz.func194.trans (congrArg some (by kernel_rfl))
  f333 := Tryz.func197.trans (congrArg some (by kernel_rfl))
  f334 := Tryz.func198.trans (congrArg some (by kernel_rfl))
  f335 := Tryz.func199.trans (congrArg some (by kernel_rfl))
  f336 := Tryz.func91.trans (congrArg some (by kernel_rfl))
  f344 := Tryz.func217.trans (congrArg some (by kernel_rfl))
  t0 := Tryz.underlying0
  a0 := Tryz.isAgg0
  z0 := Tryz.sizeOf0
  v0 := Tryz.zeroValue0
  t3 := Tryz.underlying3
  a3 := Tryz.isAgg3
  z3 := Tryz.sizeOf3
  v3 := Tryz.zeroValue3
  t4 := Tryz.underlying4
  a4 := Tryz.isAgg4
  z4 := Tryz.sizeOf4
  v4 := Tryz.zeroValue4
  t5 := Tryz.underlying5
  a5 := Tryz.isAgg5
  z5 := Tryz.sizeOf5
  v5 := Tryz.zeroValue5
  t9 := Tryz.underlying9
  a9 := Tryz.isAgg9
  z9 := Tryz.sizeOf9
  v9 := Tryz.zeroValue9
  t31 := Tryz.underlying23
  a31 := Tryz.isAgg23
  z31 := Tryz.sizeOf23
  v31 := Tryz.zeroValue23
  t46 := Tryz.underlying132
  a46 := Tryz.isAgg132
  z46 := Tryz.sizeOf132
  v46 := Tryz.zeroValue132
  t51 := Tryz.underlying160
  a51 := Tryz.isAgg160
  z51 := Tryz.sizeOf160
  v51 := Tryz.zeroValue160
  t53 := Tryz.underlying162
  a53 := Tryz.isAgg162
  z53 := Tryz.sizeOf162
  v53 := Tryz.zeroValue162
  t131 := Tryz.underlying157
  a131 := Tryz.isAgg157
  z131 := Tryz.sizeOf157
  v131 := Tryz.zeroValue157
  t182 := Tryz.underlying152
  a182 := Tryz.isAgg152
  z182 := Tryz.sizeOf152
  v182 := Tryz.zeroValue152
  t183 := Tryz.underlying153
  a183 := Tryz.isAgg153
  z183 := Tryz.sizeOf153
  v183 := Tryz.zeroValue153
  t218 := Tryz.underlying187
  a218 := Tryz.isAgg187
  z218 := Tryz.sizeOf187
  v218 := Tryz.zeroValue187
  t222 := Tryz.underlying191
  a222 := Tryz.isAgg191
  z222 := Tryz.sizeOf191
  v222 := Tryz.zeroValue191
  t228 := Tryz.underlying203
  a228 := Tryz.isAgg203
  z228 := Tryz.sizeOf203
  v228 := Tryz.zeroValue203
  t229 := Tryz.underlying204
  a229 := Tryz.isAgg204
  z229 := Tryz.sizeOf204
  v229 := Tryz.zeroValue204 }
open Go.RowKit in
/-- strconv.ParseInt(s, 10, 64), AT EVERY STRING THAT SPELLS AN int64 ('Lib.parseIntB 64 s.data.toList = .ok v'): v, AND NO ERROR. (LAID: no walk: one application.) -/
theorem Tryz.strconv_ParseInt_10_at64_ok (s : ByteArray) (hmax : s.size ≤ 9223372036854775806) (v : Int) (h : Lib.parseIntB 64 s.data.toList = .ok v) (w : World) :
    Calls Tryz.prog 226 #[.string s, .int .i64 10, .int .i64 64] w fun e w' => e = .returned (.tuple #[.int .i64 v, .nilIface]) ∧ (w' = w ∨ ∃ t, w' = Lib.bytesWorld w 5 t) := Any.strconv_ParseInt_10_at64_ok Tryz.laysC174 s hmax v h w
open Go.RowKit Go.Lib in
/-- internal/stringslite.IndexByte (what strings.IndexByte calls): IT RETURNS 'Lib.indexByte s c'; the world is as it was. (LAID: no walk: one application.) -/
theorem Tryz.stringslite_IndexByte (s : ByteArray) (c : Int) (w : World) :
    Calls Tryz.prog 228 #[.string s, .int .u8 c] w fun e w' => e = .returned (.int .i64 (Lib.indexByte s.data.toList c.toNat.toUInt8)) ∧ w' = w := Any.stringslite_IndexByte Tryz.lays217 s c w
open Go.Sort Go.RowKit in
theorem Tryz.slices_Sort_string (blk off cap : Nat) (ss : List (List UInt8)) (w : World) (hH : Holds encStr w blk off ss.toArray) (hblk : blk < w.heap.size) (hsz : ss.length < 4611686018427387904) :
    Calls Tryz.prog 65 #[.slice (some ⟨blk, off, none⟩) ss.length cap] w fun e w' =>
      e = .returned (.tuple #[]) ∧ ∃ n os, w' = grow (putRow encStr (Sort.ahead w n) blk off (ss.mergeSort fun x y => decide (x ≤ y)).toArray) os := Any.slices_Sort_string Tryz.lays190 blk off cap ss w hH hblk hsz
end Go.Proofs

namespace Go.Rf
open Go.Proofs Go.RowKit
set_option linter.unusedVariables false
set_option linter.unusedSimpArgs false
section
variable {P : Program} {g : Gh} {st : St} {w : World} {cx : Cx}

/-- In a new block. -/
theorem grow_world (hs : SR g st w) {e : TypeId} {sz tok cap' : Nat} {rows news : List (List D)} {olds vals : List Value} {Z : Array Value}
    (o1 : olds.length = rows.length * sz) (o2 : FlatR (Safe g st w) w sz rows olds) (n1 : vals.length = news.length * sz) (n2 : FlatR (Safe g st w) w sz news vals)
    (hz : ((olds ++ vals).toArray ++ Z).size = cap' * sz) (hcap : rows.length + news.length ≤ cap') (htl : tok < g.tk.length) (hge : cx.t ≤ tok) (hold : ∀ b sz' used', g.tk[tok]? = some (some (b, sz', used')) → used' < rows.length + news.length) :
    SR (moved g tok w.heap.size sz (rows.length + news.length)) { st with toks := st.toks.set tok (rows.length + news.length, sz) } (w.alloc (.cells ((olds ++ vals).toArray ++ Z) e)) ∧
    Ext cx g st w (moved g tok w.heap.size sz (rows.length + news.length)) { st with toks := st.toks.set tok (rows.length + news.length, sz) } (w.alloc (.cells ((olds ++ vals).toArray ++ Z) e)) ∧
    VR (moved g tok w.heap.size sz (rows.length + news.length)) (Safe (moved g tok w.heap.size sz (rows.length + news.length)) { st with toks := st.toks.set tok (rows.length + news.length, sz) } (w.alloc (.cells ((olds ++ vals).toArray ++ Z) e)))
      (w.alloc (.cells ((olds ++ vals).toArray ++ Z) e)) (.own tok (rows ++ news)) (.slice (some ⟨w.heap.size, 0, none⟩) (rows.length + news.length) cap') := by
  obtain ⟨hn', hext⟩ := hs.moveTok (cx := cx) (t := tok) (sz := sz) (used := rows.length + news.length) (vs := (olds ++ vals).toArray ++ Z) (ty := e) htl hge hold
  refine ⟨hn', hext, ?_⟩
  have hflat : FlatR (Safe g st w) w sz (rows ++ news) (olds ++ vals) := o2.append o1 n2
  have hlen : (rows ++ news).length = rows.length + news.length := by simp
  have hsl : DR (Safe (moved g tok w.heap.size sz (rows.length + news.length)) { st with toks := st.toks.set tok (rows.length + news.length, sz) } (w.alloc (.cells ((olds ++ vals).toArray ++ Z) e)))
      (w.alloc (.cells ((olds ++ vals).toArray ++ Z) e)) (.sl (rows ++ news)) (.slice (some ⟨w.heap.size, 0, none⟩) (rows ++ news).length cap') := by
    refine ((hflat.keep hext.keeps.safe).more _).slice (by rw [hlen]; exact hcap) (vals := (olds ++ vals) ++ Z.toList) (fun k u hk hu => ⟨?_, ?_, .inr ⟨tok, sz, rows.length + news.length, moved_role g, moved_tk g htl, by rw [← hlen]; exact hk⟩⟩)
    · rw [cellA, cell_of_blk (show (w.alloc _).heap[w.heap.size]? = _ from alloc_new (w := w))]
      rw [← Array.getElem?_toList]
      simpa using hu
    · show w.heap.size < (w.alloc _).heap.size
      simp
  refine .own tok (rows ++ news) _ w.heap.size sz (rows.length + news.length) (moved_tk g htl) (by rw [hlen]; exact Nat.le_refl _) (by rw [hlen] at hsl; exact hsl) (fun _ => ?_)
  exact ⟨cap', _, e, by rw [hlen], alloc_new (w := w), hz, by rw [hlen]; exact hcap, hflat.1⟩

/-- Where there is room. -/
theorem room_world (hs : SR g st w) {b sz tok cap : Nat} {rows news : List (List D)} {vals : List Value} {cur : Array Value} {ty : TypeId} (g1 : g.tk[tok]? = some (some (b, sz, rows.length)))
    (g3 : DR (Safe g st w) w (.sl rows) (.slice (some ⟨b, 0, none⟩) rows.length cap)) (g6 : w.heap[b]? = some (.cells cur ty (0, 0))) (g7 : cur.size = cap * sz) (g9 : ∀ r, r ∈ rows → r.length = sz)
    (n1 : vals.length = news.length * sz) (n2 : FlatR (Safe g st w) w sz news vals) (hroom : rows.length + news.length ≤ cap) (hpos : 0 < news.length) (hge : cx.t ≤ tok) :
    SR { g with tk := g.tk.set tok (some (b, sz, rows.length + news.length)) } { st with toks := st.toks.set tok (rows.length + news.length, sz) } (w.setCells b (rows.length * sz) vals) ∧
    Ext cx g st w { g with tk := g.tk.set tok (some (b, sz, rows.length + news.length)) } { st with toks := st.toks.set tok (rows.length + news.length, sz) } (w.setCells b (rows.length * sz) vals) ∧
    VR { g with tk := g.tk.set tok (some (b, sz, rows.length + news.length)) } (Safe { g with tk := g.tk.set tok (some (b, sz, rows.length + news.length)) } { st with toks := st.toks.set tok (rows.length + news.length, sz) } (w.setCells b (rows.length * sz) vals))
      (w.setCells b (rows.length * sz) vals) (.own tok (rows ++ news)) (.slice (some ⟨b, 0, none⟩) (rows.length + news.length) cap) := by
  have hin : rows.length * sz + vals.length ≤ cur.size := by
    rw [n1, g7, ← Nat.add_mul]
    exact Nat.mul_le_mul_right _ hroom
  obtain ⟨k3, k4, k5, k6, k7, cur', k8, k9, k10⟩ := setCells_blk vals (rows.length * sz) cur w g6 hin
  have hcellnew : ∀ k, cellA (w.setCells b (rows.length * sz) vals) b k = (cur.toList.take (rows.length * sz) ++ vals ++ cur.toList.drop (rows.length * sz + vals.length))[k]? := by
    intro k
    rw [cellA, cell_of_blk k8, ← k10]; simp
  obtain ⟨hn', hext⟩ := hs.fillTok (cx := cx) (used' := rows.length + news.length) g1 hge (by omega) k3 k4 k5 k6 k7 k8 (fun off u hoff hc => by
    rw [hcellnew, List.append_assoc, List.getElem?_append_left (by simp; omega), List.getElem?_take, if_pos hoff]
    rw [cellA, cell_of_blk g6] at hc
    simpa using hc)
  refine ⟨hn', hext, ?_⟩
  have htk : ({ g with tk := g.tk.set tok (some (b, sz, rows.length + news.length)) } : Gh).tk[tok]? = some (some (b, sz, rows.length + news.length)) := by
    show (g.tk.set _ _)[_]? = _
    rw [List.getElem?_set_self (List.getElem?_eq_some_iff.1 g1).1]
  have hrole := hs.rt tok b sz _ g1
  obtain ⟨olds, o1, o2, o3, o4⟩ := g3.flat g9
  have holds : ∀ (k : Nat) u, olds[k]? = some u → cellA w b k = some u := by
    intro k u hk2
    rcases o4 with o4 | ⟨b2, off2, e2, o4⟩
    · subst o4
      have : olds = [] := List.length_eq_zero_iff.1 (by simpa using o1)
      subst this; simp at hk2
    · simp only [Option.some.injEq, Addr.mk.injEq] at e2
      obtain ⟨rfl, rfl, _⟩ := e2
      have := o4 k u hk2
      rwa [Nat.zero_add] at this
  have hflat : FlatR (Safe g st w) w sz (rows ++ news) (olds ++ vals) := o2.append o1 n2
  have hlen : (rows ++ news).length = rows.length + news.length := by simp
  refine .own tok (rows ++ news) _ b sz (rows.length + news.length) htk (by rw [hlen]; exact Nat.le_refl _) ?_ (fun _ => ?_)
  · have := (hflat.keep hext.keeps.safe).slice (b := b) (cap := cap) (by rw [hlen]; exact hroom) (fun k u hk2 hu2 => ⟨?_, ?_, .inr ⟨tok, sz, rows.length + news.length, hrole, htk, by rw [← hlen]; exact hk2⟩⟩)
    · rw [hlen] at this; exact this
    · rw [hcellnew]
      rw [List.getElem?_append] at hu2
      have hcl : (cur.toList.take (rows.length * sz)).length = rows.length * sz := by simp; omega
      split at hu2
      · rename_i hko
        rw [List.append_assoc, List.getElem?_append_left (by rw [hcl, ← o1]; exact hko), List.getElem?_take, if_pos (by rw [← o1]; exact hko)]
        have := holds k u hu2
        rw [cellA, cell_of_blk g6] at this
        simpa using this
      · rename_i hko
        have hul := (List.getElem?_eq_some_iff.1 hu2).1
        rw [List.getElem?_append_left (by simp only [List.length_append, hcl]; omega), List.getElem?_append_right (by rw [hcl]; omega), hcl, ← o1]
        exact hu2
    · rw [k6]; exact tk_lt hs g1
  · exact ⟨cap, cur', ty, by rw [hlen], k8, k9.trans g7, by rw [hlen]; exact hroom, hflat.1⟩

/-- Two blocks of a world are turned: nothing else is. -/
structure Turned (w w' : World) (b1 b2 : Nat) (c1 c2 : Obj) : Prop where
  os : w'.os = w.os
  tape : w'.tape = w.tape
  output : w'.output = w.output
  size : w'.heap.size = w.heap.size
  other : ∀ k, k ≠ b1 → k ≠ b2 → w'.heap[k]? = w.heap[k]?
  one : w'.heap[b1]? = some c1
  two : w'.heap[b2]? = some c2

/-- Both orders of two stores. -/
theorem two_stores {b1 b2 off1 off2 : Nat} {vs1 vs2 : List Value} {cur1 cur2 : Array Value} {ty1 ty2 : TypeId} (hne : b1 ≠ b2) (h1 : w.heap[b1]? = some (.cells cur1 ty1 (0, 0))) (h2 : w.heap[b2]? = some (.cells cur2 ty2 (0, 0)))
    (l1 : off1 + vs1.length ≤ cur1.size) (l2 : off2 + vs2.length ≤ cur2.size) (o1 : ∀ v ∈ vs1, v.oneCell' = true) (o2 : ∀ v ∈ vs2, v.oneCell' = true) :
    ∃ w1 w2, (storeCells ⟨b1, off1, none⟩ vs1 0).run P w = .ok () w1 ∧ (storeCells ⟨b2, off2, none⟩ vs2 0).run P w1 = .ok () w2 ∧
      ∃ c1 c2 : Array Value, c1.toList = cur1.toList.take off1 ++ vs1 ++ cur1.toList.drop (off1 + vs1.length) ∧ c2.toList = cur2.toList.take off2 ++ vs2 ++ cur2.toList.drop (off2 + vs2.length) ∧
        Turned w w2 b1 b2 (.cells c1 ty1 (0, 0)) (.cells c2 ty2 (0, 0)) := by
  obtain ⟨w1, r1, a1, a2, a3, a4, a5, c1, a6, a7, a8⟩ := run_storeCells_blk (P := P) vs1 off1 0 cur1 w h1 (by omega) o1
  have h2' : w1.heap[b2]? = some (.cells cur2 ty2 (0, 0)) := by rw [a5 b2 (Ne.symm hne)]; exact h2
  obtain ⟨w2, r2, e1, e2, e3, e4, e5, c2, e6, e7, e8⟩ := run_storeCells_blk (P := P) vs2 off2 0 cur2 w1 h2' (by omega) o2
  refine ⟨w1, w2, r1, r2, c1, c2, by simpa using a8, by simpa using e8, e1.trans a1, e2.trans a2, e3.trans a3, e4.trans a4, fun k k1 k2 => (e5 k k2).trans (a5 k k1), by rw [e5 b1 hne]; exact a6, e6⟩
end
end Go.Rf

namespace Go.Rf
open Go.Proofs
set_option maxRecDepth 100000
noncomputable def ops51 : Array Oper := match Tryz.f51.body with | some (.region _ ops _) => ops | _ => #[]
theorem body51 : Tryz.f51.body = some (.region 0 ops51 true) := by kernel_rfl
theorem hf51 : Tryz.prog.funcs[51]? = some Tryz.f51 := Tryz.func51
noncomputable def o51 (i : Nat) : Oper := ops51.getD i default
theorem get51 : ∀ i, i < 10 → ops51[i]? = some (o51 i) := by
  intro i h
  match i, h with
  | 0, _ => exact (by kernel_rfl : ops51[0]? = some (o51 0))
  | 1, _ => exact (by kernel_rfl : ops51[1]? = some (o51 1))
  | 2, _ => exact (by kernel_rfl : ops51[2]? = some (o51 2))
  | 3, _ => exact (by kernel_rfl : ops51[3]? = some (o51 3))
  | 4, _ => exact (by kernel_rfl : ops51[4]? = some (o51 4))
  | 5, _ => exact (by kernel_rfl : ops51[5]? = some (o51 5))
  | 6, _ => exact (by kernel_rfl : ops51[6]? = some (o51 6))
  | 7, _ => exact (by kernel_rfl : ops51[7]? = some (o51 7))
  | 8, _ => exact (by kernel_rfl : ops51[8]? = some (o51 8))
  | 9, _ => exact (by kernel_rfl : ops51[9]? = some (o51 9))
noncomputable def zero51 : Value := .agg #[.string { data := #[] }, .slice none 0 0, .bool false, .slice none 0 0, .int .i64 0]
theorem e1 (a : Act) (w : World) : (execOp a.eval (o51 1)).run Tryz.prog w = .ok (.value (a.eval (.tmp 0))) w := by kernel_rfl
theorem e3 (S : ByteArray) (ad : Option Addr) (n c : Nat) (u0 u1 u2 u3 u4 u5 u8 u9 u10 u11 u12 : Value) (w : World) : (execOp (Act.eval { tmps := #[u0, u1, u2, u3, u4, u5, .string S, .slice ad n c, u8, u9, u10, u11, u12], defers := [] }) (o51 3)).run Tryz.prog w = .ok (.value (.agg #[.string S, .slice ad n c, .bool false, .slice none 0 0, .int .i64 0])) w := by kernel_rfl
theorem e4 (ad : Option Addr) (n c : Nat) (u0 u1 u2 u3 u4 u6 u7 u8 u9 u10 u11 u12 : Value) (w : World) : (execOp (Act.eval { tmps := #[u0, u1, u2, u3, u4, .slice ad n c, u6, u7, u8, u9, u10, u11, u12], defers := [] }) (o51 4)).run Tryz.prog w = .ok (.value (.int .i64 (n : Int))) w := by kernel_rfl
theorem e5 (a : Act) (w : World) : (execOp a.eval (o51 5)).run Tryz.prog w = .ok (.value (.slice (some ⟨w.heap.size, 0, none⟩) 1 1)) (w.alloc (.cells #[.string { data := #[] }, .slice none 0 0, .bool false, .slice none 0 0, .int .i64 0] 36)) := by kernel_rfl
theorem h0 : (o51 0).op = .load 32 (.tmp 2) := by kernel_rfl
theorem h6 : (o51 6).op = .call { callee := .builtin .append, args := #[.tmp 5, .tmp 10], argTypes := #[32, 32] } := by kernel_rfl
theorem h7 : (o51 7).op = .indexAddr 32 (.tmp 11) (.tmp 9) := by kernel_rfl
theorem h8 : (o51 8).op = .store 36 (.tmp 12) (.tmp 8) := by kernel_rfl
theorem h9 : (o51 9).op = .store 32 (.tmp 2) (.tmp 11) := by kernel_rfl
theorem a32 : isAggOf Tryz.prog 32 = some false := by kernel_rfl
theorem z32 : sizeOfT Tryz.prog 32 = some 1 := by kernel_rfl
theorem z36 : sizeOfT Tryz.prog 36 = some 5 := by kernel_rfl
theorem u32 : Tryz.prog.underlying 32 = some (.slice 36) := by kernel_rfl
theorem k36 : elemOk Tryz.prog 36 5 80 = true := by kernel_rfl
theorem r0 {a : Act} {ad : Addr} {v : Value} {w : World} (ha : a.eval (.tmp 2) = .pointer (some ad)) (hv : w.cell? ad = some v) : (execOp a.eval (o51 0)).run Tryz.prog w = .ok (.value v) w := by
  simp [execOp, h0, ha, Instr.loadAt, Instr.sureAddr, run_loadVar_one a32 hv]
theorem r7 {a : Act} {b n c : Nat} {w : World} (ha : a.eval (.tmp 11) = .slice (some ⟨b, 0, none⟩) (n + 1) c) (hi : a.eval (.tmp 9) = .int .i64 (n : Int)) : (execOp a.eval (o51 7)).run Tryz.prog w = .ok (.value (.pointer (some ⟨b, n * 5, none⟩))) w := by
  have h1 : (0 : Int) ≤ (n : Int) ∧ (n : Int) < ((n + 1 : Nat) : Int) := by omega
  simp [execOp, h7, ha, hi, asIntOf, Instr.indexAt, underlying, run_sizeOf z36, add_none]
theorem r6 {a : Act} {w w' : World} {x y v : Value} (hx : a.eval (.tmp 5) = x) (hy : a.eval (.tmp 10) = y) (h : (Builtin.append_ #[32, 32] (o51 6).type #[x, y]).run Tryz.prog w = .ok v w') : (execOp a.eval (o51 6)).run Tryz.prog w = .ok (.value v) w' := by
  simp [execOp, h6, hx, hy, resolve, invoke, builtin, h]
theorem r8 {a : Act} {w w' : World} {ad : Addr} {cs : Array Value} (hx : a.eval (.tmp 12) = .pointer (some ad)) (hy : a.eval (.tmp 8) = .agg cs) (hc : cs.size = 5) (h : (storeCells ad cs.toList 0).run Tryz.prog w = .ok () w') : (execOp a.eval (o51 8)).run Tryz.prog w = .ok .skip w' := by
  have : ¬ ((Value.agg cs).cells.size ≠ 5) := by simp [Value.cells, hc]
  simp only [execOp, h8, hx, hy, Instr.storeAt, Instr.sureAddr, Sem.run_bind, Sem.run_pure, Result.andThen_ok, storeVar, run_sizeOf z36, Sem.run_ite]
  rw [if_neg this]
  simp only [Result.andThen_ok, Value.cells, h]
theorem r9 {a : Act} {w w' : World} {ad : Addr} {v : Value} (hx : a.eval (.tmp 2) = .pointer (some ad)) (hy : a.eval (.tmp 11) = v) (hc : v.cells = #[v]) (h : (storeCells ad [v] 0).run Tryz.prog w = .ok () w') : (execOp a.eval (o51 9)).run Tryz.prog w = .ok .skip w' := by
  have : ¬ (v.cells.size ≠ 1) := by simp [hc]
  simp only [execOp, h9, hx, hy, Instr.storeAt, Instr.sureAddr, Sem.run_bind, Sem.run_pure, Result.andThen_ok, storeVar, run_sizeOf z32, Sem.run_ite]
  rw [if_neg this]
  simp only [Result.andThen_ok, hc, h]

theorem guard51 : ∀ i, i < 10 → (o51 i).guard = none := by
  intro i h
  match i, h with
  | 0, _ => exact (by kernel_rfl : (o51 0).guard = none)
  | 1, _ => exact (by kernel_rfl : (o51 1).guard = none)
  | 2, _ => exact (by kernel_rfl : (o51 2).guard = none)
  | 3, _ => exact (by kernel_rfl : (o51 3).guard = none)
  | 4, _ => exact (by kernel_rfl : (o51 4).guard = none)
  | 5, _ => exact (by kernel_rfl : (o51 5).guard = none)
  | 6, _ => exact (by kernel_rfl : (o51 6).guard = none)
  | 7, _ => exact (by kernel_rfl : (o51 7).guard = none)
  | 8, _ => exact (by kernel_rfl : (o51 8).guard = none)
  | 9, _ => exact (by kernel_rfl : (o51 9).guard = none)
section
variable {Q : Exit → Act → World → Prop} {K : Act → World → Prop} {a : Act} {w w' : World} {v : Value}
theorem wanted51 {i : Nat} (h : i < 10) (f : Nat → Option Bool) : Region.wanted (o51 i) f = true := by simp [Region.wanted, guard51 i h]
theorem op_val {i : Nat} (h : i < 10) (hr : (execOp a.eval (o51 i)).run Tryz.prog w = .ok (.value v) w') (hk : K (a.put (o51 i).dst v) w') : wpOp Tryz.prog ops51 Q i K a w := by
  unfold wpOp
  simp only [get51 i h, wanted51 h, if_true, Oper.wp, hr, Oper.upon]
  exact .inl hk
theorem op_skip {i : Nat} (h : i < 10) (hr : (execOp a.eval (o51 i)).run Tryz.prog w = .ok .skip w') (hk : K (a.put (o51 i).dst undef) w') : wpOp Tryz.prog ops51 Q i K a w := by
  unfold wpOp
  simp only [get51 i h, wanted51 h, if_true, Oper.wp, hr, Oper.upon]
  exact .inl hk
theorem op_yields {i : Nat} (h : i < 10) (hr : ∀ w, (execOp a.eval (o51 i)).run Tryz.prog w = .ok (.value v) w) : Yields Tryz.prog ops51 (o51 i) v a := .inl ⟨wanted51 h _, hr⟩
theorem nosel : Region.noSelect ops51 = true := by kernel_rfl
def L6 : Array Bool := #[true, true, true, true, true, true, false, false, false, false]
theorem d6 : (o51 6).dst = some 11 := by kernel_rfl
theorem d7 : (o51 7).dst = some 12 := by kernel_rfl
theorem d8 : (o51 8).dst = none := by kernel_rfl
theorem d9 : (o51 9).dst = none := by kernel_rfl
/-- From the append on. -/
theorem tail51 (S : Value) (A H Z : Value) (bb blk n cap' : Nat) (row : Array Value) (hrow : row.size = 5) {w6 : World} {cb c6 : Array Value} {tb t6 : TypeId} (hQ' : ∀ c a d u w, Q (.panic c) (a.put d u) w → Q (.panic c) a w)
    (happ : (Builtin.append_ #[32, 32] (o51 6).type #[H, Z]).run Tryz.prog w = .ok (.slice (some ⟨blk, 0, none⟩) (n + 1) cap') w6) (hb : w6.heap[bb]? = some (.cells cb tb (0, 0))) (hk : w6.heap[blk]? = some (.cells c6 t6 (0, 0))) (hne : bb ≠ blk) (hcb : 1 ≤ cb.size) (hc6 : n * 5 + 5 ≤ c6.size)
    (hone : ∀ v ∈ row.toList, v.oneCell' = true)
    (fin : ∀ a' wf c1 c2, a'.defers = [] → c1.toList = [Value.slice (some ⟨blk, 0, none⟩) (n + 1) cap'] ++ cb.toList.drop 1 → c2.toList = c6.toList.take (n * 5) ++ row.toList ++ c6.toList.drop (n * 5 + 5) → Turned w6 wf bb blk (.cells c1 tb (0, 0)) (.cells c2 t6 (0, 0)) → Q .normal a' wf) :
    wpAny Tryz.prog .any ops51 Q 4 L6 { tmps := #[S, A, .pointer (some ⟨bb, 0, none⟩), undef, undef, H, S, A, .agg row, .int .i64 (n : Int), Z, undef, undef], defers := [] } w := by
  have ready6 : Region.ready .any ops51 L6 = [6] := by kernel_rfl
  refine wpAny_all ready6 (by simp) fun i hi => ?_
  obtain rfl : i = 6 := by simpa using hi
  refine op_val (by omega) (r6 rfl rfl happ) ?_
  rw [d6]
  refine wpAny_take (i := 7) (v := .pointer (some ⟨blk, n * 5, none⟩)) (get51 7 (by omega)) nosel (by kernel_rfl) (by kernel_rfl) (fun c a w h => hQ' c a _ _ w h) (op_yields (by omega) fun w => r7 rfl rfl) ?_
  rw [d7]
  have ready7 : Region.ready .any ops51 ((L6.setIfInBounds 6 true).setIfInBounds 7 true) = [8, 9] := by kernel_rfl
  refine wpAny_all ready7 (by simp) fun i hi => ?_
  have hi : i = 8 ∨ i = 9 := by simpa using hi
  have hl : row.toList.length = 5 := by simpa using hrow
  rcases hi with rfl | rfl
  · obtain ⟨w1, w2, s1, s2, c2, c1, q1, q2, q3⟩ := two_stores (P := Tryz.prog) (w := w6) (b1 := blk) (b2 := bb) (off1 := n * 5) (off2 := 0) (vs1 := row.toList) (vs2 := [.slice (some ⟨blk, 0, none⟩) (n + 1) cap']) (Ne.symm hne) hk hb (by omega) (by simpa using hcb) hone (by simp [Value.oneCell'])
    refine op_skip (by omega) (r8 rfl rfl hrow s1) ?_
    rw [d8]
    have ready8 : Region.ready .any ops51 (((L6.setIfInBounds 6 true).setIfInBounds 7 true).setIfInBounds 8 true) = [9] := by kernel_rfl
    refine wpAny_all ready8 (by simp) fun i hi => ?_
    obtain rfl : i = 9 := by simpa using hi
    refine op_skip (by omega) (r9 rfl rfl rfl s2) ?_
    rw [d9]
    refine wpAny_done (by kernel_rfl) ?_ 0
    exact fin _ _ c1 c2 rfl (by simpa using q2) (by rw [hl] at q1; exact q1) ⟨q3.os, q3.tape, q3.output, q3.size, fun k k1 k2 => q3.other k k2 k1, q3.two, q3.one⟩
  · obtain ⟨w1, w2, s1, s2, c1, c2, q1, q2, q3⟩ := two_stores (P := Tryz.prog) (w := w6) (b1 := bb) (b2 := blk) (off1 := 0) (off2 := n * 5) (vs1 := [.slice (some ⟨blk, 0, none⟩) (n + 1) cap']) (vs2 := row.toList) hne hb hk (by simpa using hcb) (by omega) (by simp [Value.oneCell']) hone
    refine op_skip (by omega) (r9 rfl rfl rfl s1) ?_
    rw [d9]
    have ready9 : Region.ready .any ops51 (((L6.setIfInBounds 6 true).setIfInBounds 7 true).setIfInBounds 9 true) = [8] := by kernel_rfl
    refine wpAny_all ready9 (by simp) fun i hi => ?_
    obtain rfl : i = 8 := by simpa using hi
    refine op_skip (by omega) (r8 rfl rfl hrow s2) ?_
    rw [d8]
    refine wpAny_done (by kernel_rfl) ?_ 0
    exact fin _ _ c1 c2 rfl (by simpa using q1) (by rw [hl] at q2; exact q2) q3
theorem d0 : (o51 0).dst = some 5 := by kernel_rfl
theorem d1 : (o51 1).dst = some 6 := by kernel_rfl
theorem d2 : (o51 2).dst = some 7 := by kernel_rfl
theorem d3 : (o51 3).dst = some 8 := by kernel_rfl
theorem d4 : (o51 4).dst = some 9 := by kernel_rfl
theorem d5 : (o51 5).dst = some 10 := by kernel_rfl
theorem e2 (a : Act) (w : World) : (execOp a.eval (o51 2)).run Tryz.prog w = .ok (.value (a.eval (.tmp 1))) w := by kernel_rfl
def zs51 : Array Value := #[.string { data := #[] }, .slice none 0 0, .bool false, .slice none 0 0, .int .i64 0]
/-- Up to the append. -/
theorem head51 (s : ByteArray) (ad : Option Addr) (na ca bb n cap : Nat) (base : Option Addr) (hQ' : ∀ c a d u w, Q (.panic c) (a.put d u) w → Q (.panic c) a w) (hc : w.cell? ⟨bb, 0, none⟩ = some (.slice base n cap))
    (ht : wpAny Tryz.prog .any ops51 Q 4 L6 { tmps := #[.string s, .slice ad na ca, .pointer (some ⟨bb, 0, none⟩), undef, undef, .slice base n cap, .string s, .slice ad na ca, .agg #[.string s, .slice ad na ca, .bool false, .slice none 0 0, .int .i64 0], .int .i64 (n : Int), .slice (some ⟨w.heap.size, 0, none⟩) 1 1, undef, undef], defers := [] } (w.alloc (.cells zs51 36))) :
    wpAny Tryz.prog .any ops51 Q 10 (Array.replicate 10 false) { tmps := #[.string s, .slice ad na ca, .pointer (some ⟨bb, 0, none⟩), undef, undef, undef, undef, undef, undef, undef, undef, undef, undef], defers := [] } w := by
  refine wpAny_take (i := 1) (v := .string s) (get51 1 (by omega)) nosel (by kernel_rfl) (by kernel_rfl) (fun c a w h => hQ' c a _ _ w h) (op_yields (by omega) fun w => e1 _ w) ?_
  rw [d1]
  refine wpAny_take (i := 2) (v := .slice ad na ca) (get51 2 (by omega)) nosel (by kernel_rfl) (by kernel_rfl) (fun c a w h => hQ' c a _ _ w h) (op_yields (by omega) fun w => e2 _ w) ?_
  rw [d2]
  refine wpAny_take (i := 3) (v := .agg #[.string s, .slice ad na ca, .bool false, .slice none 0 0, .int .i64 0]) (get51 3 (by omega)) nosel (by kernel_rfl) (by kernel_rfl) (fun c a w h => hQ' c a _ _ w h) (op_yields (by omega) fun w => e3 s ad na ca _ _ _ _ _ _ _ _ _ _ _ w) ?_
  rw [d3]
  have ready : Region.ready .any ops51 ((((Array.replicate 10 false).setIfInBounds 1 true).setIfInBounds 2 true).setIfInBounds 3 true) = [0, 5] := by kernel_rfl
  refine wpAny_all ready (by simp) fun i hi => ?_
  have hi : i = 0 ∨ i = 5 := by simpa using hi
  rcases hi with rfl | rfl
  · refine op_val (by omega) (r0 rfl hc) ?_
    rw [d0]
    refine wpAny_take (i := 4) (v := .int .i64 (n : Int)) (get51 4 (by omega)) nosel (by kernel_rfl) (by kernel_rfl) (fun c a w h => hQ' c a _ _ w h) (op_yields (by omega) fun w => e4 base n cap _ _ _ _ _ _ _ _ _ _ _ _ w) ?_
    rw [d4]
    have ready2 : Region.ready .any ops51 ((((((Array.replicate 10 false).setIfInBounds 1 true).setIfInBounds 2 true).setIfInBounds 3 true).setIfInBounds 0 true).setIfInBounds 4 true) = [5] := by kernel_rfl
    refine wpAny_all ready2 (by simp) fun i hi => ?_
    obtain rfl : i = 5 := by simpa using hi
    refine op_val (by omega) (e5 _ _) ?_
    rw [d5]
    have hl : ((((((Array.replicate 10 false).setIfInBounds 1 true).setIfInBounds 2 true).setIfInBounds 3 true).setIfInBounds 0 true).setIfInBounds 4 true).setIfInBounds 5 true = L6 := by kernel_rfl
    rw [hl]
    exact ht
  · refine op_val (by omega) (e5 _ _) ?_
    rw [d5]
    have ready2 : Region.ready .any ops51 (((((Array.replicate 10 false).setIfInBounds 1 true).setIfInBounds 2 true).setIfInBounds 3 true).setIfInBounds 5 true) = [0] := by kernel_rfl
    refine wpAny_all ready2 (by simp) fun i hi => ?_
    obtain rfl : i = 0 := by simpa using hi
    refine op_val (by omega) (r0 rfl (Lib.cell?_alloc_some _ hc)) ?_
    rw [d0]
    refine wpAny_take (i := 4) (v := .int .i64 (n : Int)) (get51 4 (by omega)) nosel (by kernel_rfl) (by kernel_rfl) (fun c a w h => hQ' c a _ _ w h) (op_yields (by omega) fun w => e4 base n cap _ _ _ _ _ _ _ _ _ _ _ _ w) ?_
    rw [d4]
    have hl : ((((((Array.replicate 10 false).setIfInBounds 1 true).setIfInBounds 2 true).setIfInBounds 3 true).setIfInBounds 5 true).setIfInBounds 0 true).setIfInBounds 4 true = L6 := by kernel_rfl
    rw [hl]
    exact ht
end
end Go.Rf

namespace Go.Rf
open Go.Proofs Go.RowKit
set_option maxRecDepth 100000
set_option linter.unusedVariables false
set_option linter.unusedSimpArgs false
theorem mixedP : Tryz.prog.follows .mixedOrders = true := by kernel_rfl
def g51 : List AV → Cx → St → Option (Out × St)
  | [.d (.str s), v, .ptr b 0], cx, st => match v.rows, st.boxes[b]? with
    | some rs, some [.nilS] => if cx.b ≤ b then some (.ret (.tup []), { boxes := st.boxes.set b [.own st.toks.length [[.str s, .sl rs, .bool false, .sl [], .int .i64 0]]], toks := st.toks ++ [(1, 5)], maps := st.maps }) else none
    | some rs, some [.own t rows] => match st.toks[t]? with
      | some (used, sz) => if cx.b ≤ b ∧ used = rows.length ∧ sz = 5 ∧ cx.t ≤ t ∧ (rows.length + 1) * 80 ≤ maxBytes then
          some (.ret (.tup []), { boxes := st.boxes.set b [.own t (rows ++ [[.str s, .sl rs, .bool false, .sl [], .int .i64 0]])], toks := st.toks.set t (rows.length + 1, 5), maps := st.maps }) else none
      | none => none
    | _, _ => none
  | _, _, _ => none
section
variable {g : Gh} {st : St} {w : World} {cx : Cx}
theorem finish51 {gm : Gh} {stm : St} {wm wf : World} {b bb tok : Nat} {u : AV} {rows' : List (List D)} {hdr : Value} {c1 : Array Value} {ty : TypeId} (hsm : SR gm stm wm) (hxm : Ext cx g st w gm stm wm) (hcxm : CxOk cx stm) (rsv : Rsv none none g st gm stm)
    (hid : gm.bx[b]? = some (some bb)) (hgb : g.bx[b]? = some (some bb)) (hcs : stm.boxes[b]? = some [u]) (hge : cx.b ≤ b) (hv : VR gm (Safe gm stm wm) wm (.own tok rows') hdr)
    (h3 : wf.os = wm.os) (h4 : wf.tape = wm.tape) (h5 : wf.output = wm.output) (h6 : wf.heap.size = wm.heap.size) (h7 : ∀ k, k ≠ bb → wf.heap[k]? = wm.heap[k]?) (h8 : wf.heap[bb]? = some (.cells c1 ty (0, 0))) (hc1 : c1.toList = [hdr]) :
    ∃ g', SR g' { stm with boxes := stm.boxes.set b [.own tok rows'] } wf ∧ Ext cx g st w g' { stm with boxes := stm.boxes.set b [.own tok rows'] } wf ∧ Rsv none none g st g' { stm with boxes := stm.boxes.set b [.own tok rows'] } := by
  obtain ⟨q1, q2⟩ := box_store hsm hcxm (cs' := [.own tok rows']) hid hcs hge h3 h4 h5 h6 h7 h8 (by rw [hc1]; exact ⟨rfl, fun i c v hc hv' => by
    cases i with
    | zero => simp at hc hv'; subst hc; subst hv'; exact hv
    | succ i => simp at hc⟩) rfl rfl
  refine ⟨gm, q1, hxm.trans q2, ⟨fun i hi _ => ?_, rsv.t⟩⟩
  obtain ⟨p1, p2⟩ := rsv.b i hi (by simp)
  refine ⟨p1, ?_⟩
  show (stm.boxes.set _ _)[i]? = _
  rw [List.getElem?_set_ne (fun e => by subst e; rw [hgb] at hi; simp at hi)]
  exact p2
theorem giv51 {args : List AV} {st' : St} {o : Out} (h : g51 args cx st = some (o, st')) : ∀ g w vs, SR g st w → CxOk cx st → ArgsR g (Safe g st w) w args vs → CallR Tryz.prog cx g st w 51 vs o st' := by
  intro g w vs hs hcx hargs
  have key : ∃ s v b rs u tok rows toks', args = [.d (.str s), v, .ptr b 0] ∧ v.rows = some rs ∧ st.boxes[b]? = some [u] ∧ cx.b ≤ b ∧ o = .ret (.tup []) ∧ st' = { boxes := st.boxes.set b [.own tok (rows ++ [[.str s, .sl rs, .bool false, .sl [], .int .i64 0]])], toks := toks', maps := st.maps } ∧
      ((u = .nilS ∧ tok = st.toks.length ∧ rows = [] ∧ toks' = st.toks ++ [(1, 5)]) ∨ (u = .own tok rows ∧ st.toks[tok]? = some (rows.length, 5) ∧ cx.t ≤ tok ∧ (rows.length + 1) * 80 ≤ maxBytes ∧ toks' = st.toks.set tok (rows.length + 1, 5))) := by
    unfold g51 at h
    split at h
    · rename_i s v b
      split at h
      · rename_i rs e1 e2
        split at h
        · rename_i hge
          simp only [Option.some.injEq, Prod.mk.injEq] at h
          obtain ⟨rfl, rfl⟩ := h
          exact ⟨s, v, b, rs, _, _, [], _, rfl, e1, e2, hge, rfl, rfl, .inl ⟨rfl, rfl, rfl, rfl⟩⟩
        · exact absurd h (by simp)
      · rename_i rs t rows e1 e2
        split at h
        · rename_i used sz e3
          split at h
          · rename_i hc
            obtain ⟨c1, rfl, rfl, c4, c5⟩ := hc
            simp only [Option.some.injEq, Prod.mk.injEq] at h
            obtain ⟨rfl, rfl⟩ := h
            exact ⟨s, v, b, rs, _, t, rows, _, rfl, e1, e2, c1, rfl, rfl, .inr ⟨rfl, e3, c4, c5, rfl⟩⟩
          · exact absurd h (by simp)
        · exact absurd h (by simp)
      · exact absurd h (by simp)
    · exact absurd h (by simp)
  obtain ⟨sl, v, b, rs, u, tok, rows, toks', rfl, hrs, hbox, hge, rfl, rfl, hcase⟩ := key
  obtain ⟨x1, x2, x3, rfl, hv1, hv2, hv3⟩ := args3 hargs
  obtain ⟨s, rfl, hsl⟩ := vr_str hv1
  obtain ⟨ad, ca, rfl, hdr⟩ := hv2.rows_inv hrs
  cases hv3 with | ptr _ _ bb hid =>
  obtain ⟨cur, ty, hblk, hsz, hcells⟩ := hs.box b bb [u] hid hbox
  obtain ⟨c0, hcur⟩ : ∃ c0, cur = #[c0] := by
    obtain ⟨l⟩ := cur
    match l, hsz with
    | [x], _ => exact ⟨x, rfl⟩
    | [], h => simp at h
    | _ :: _ :: _, h => simp at h
  subst hcur
  have hu := hcells 0 u c0 rfl rfl
  have hbb := blk_lt hblk
  -- the world behind the literal
  obtain ⟨wz, hwz⟩ : ∃ wz, wz = ({ w with drawn := w.drawn + 1 } : World).alloc (.cells zs51 36) := ⟨_, rfl⟩
  have hbel : Below w.heap.size w wz := by
    rw [hwz]
    exact ⟨rfl, rfl, rfl, by simp, fun k hk => alloc_get (w := { w with drawn := w.drawn + 1 }) hk⟩
  obtain ⟨hs1, hx1, hfree⟩ := over_below hcx hs hbel
  have hzsz : wz.heap.size = w.heap.size + 1 := by rw [hwz]; simp
  have hznew : wz.heap[w.heap.size]? = some (.cells zs51 36 (0, 0)) := by rw [hwz]; exact alloc_new (w := { w with drawn := w.drawn + 1 })
  have hzold : ∀ k, k < w.heap.size → wz.heap[k]? = w.heap[k]? := hbel.block
  -- the zero row, the new row
  have hZ : DR (fun _ _ => True) wz (.sl [[.str [], .sl [], .bool false, .sl [], .int .i64 0]]) (.slice (some ⟨w.heap.size, 0, none⟩) 1 1) := by
    refine .sl _ _ 0 1 5 (fun _ i => zs51.getD i undef) (by simp) (by simp) (fun j r i c hj hi => ?_) (fun j r i c hj hi => ?_)
    · match j with
      | 0 =>
        simp only [List.getElem?_cons_zero, Option.some.injEq] at hj
        subst hj
        have hi5 := (List.getElem?_eq_some_iff.1 hi).1
        refine ⟨?_, trivial, ?_⟩
        · rw [cellA, cell_of_blk hznew]
          match i, hi5 with
          | 0, _ => rfl
          | 1, _ => rfl
          | 2, _ => rfl
          | 3, _ => rfl
          | 4, _ => rfl
        · match i, hi5, hi with
          | 0, _, hi => simp at hi; subst hi; rfl
          | 1, _, hi => simp at hi; subst hi; rfl
          | 2, _, hi => simp at hi; subst hi; rfl
          | 3, _, hi => simp at hi; subst hi; rfl
          | 4, _, hi => simp at hi; subst hi; rfl
      | j + 1 => simp at hj
    · match j with
      | 0 =>
        simp only [List.getElem?_cons_zero, Option.some.injEq] at hj
        subst hj
        have hi5 := (List.getElem?_eq_some_iff.1 hi).1
        match i, hi5, hi with
        | 0, _, hi => simp at hi; subst hi; exact .str _ _ rfl
        | 1, _, hi => simp at hi; subst hi; exact .sl0 _ _
        | 2, _, hi => simp at hi; subst hi; exact .bool _
        | 3, _, hi => simp at hi; subst hi; exact .sl0 _ _
        | 4, _, hi => simp at hi; subst hi; exact .int _ _
      | j + 1 => simp at hj
  obtain ⟨zv, src, -, hzl⟩ := src_ok (P := Tryz.prog) (sz := 5) u32 hZ rfl (by simp)
  have hzl : zv.length = 5 := by simpa using hzl
  have hrow : FlatR (Safe (clean w.heap.size g) st wz) wz 5 [[.str sl, .sl rs, .bool false, .sl [], .int .i64 0]] ([.string s, .slice ad rs.length ca, .bool false, .slice none 0 0, .int .i64 0] : List Value) := by
    refine ⟨by simp, fun j r i c hj hi => ?_⟩
    match j with
    | 0 =>
      simp only [List.getElem?_cons_zero, Option.some.injEq] at hj
      subst hj
      have hi5 := (List.getElem?_eq_some_iff.1 hi).1
      match i, hi5, hi with
      | 0, _, hi => simp at hi; subst hi; exact ⟨_, rfl, .str _ _ hsl, rfl⟩
      | 1, _, hi => simp at hi; subst hi; exact ⟨_, rfl, hdr.keep hx1.keeps.safe, rfl⟩
      | 2, _, hi => simp at hi; subst hi; exact ⟨_, rfl, .bool _, rfl⟩
      | 3, _, hi => simp at hi; subst hi; exact ⟨_, rfl, .sl0 _ _, rfl⟩
      | 4, _, hi => simp at hi; subst hi; exact ⟨_, rfl, .int _ _, rfl⟩
    | j + 1 => simp at hj
  obtain ⟨ei, ez, hei, hez, hesize, heby, hezs⟩ := elemOk_ok k36
  have hone : ∀ v ∈ ([.string s, .slice ad rs.length ca, .bool false, .slice none 0 0, .int .i64 0] : List Value), v.oneCell' = true := by
    intro v hv
    simp only [List.mem_cons, List.not_mem_nil, or_false] at hv
    rcases hv with rfl | rfl | rfl | rfl | rfl <;> rfl
  unfold CallR
  refine calls_of_wp hf51 body51 ?_
  refine wp_region_any mixedP ?_
  have hn10 : ops51.size = 10 := by kernel_rfl
  have hact : ({ tmps := #[.string s, .slice ad rs.length ca, .pointer (some ⟨bb, 0, none⟩)] ++ Array.replicate (Tryz.f51.ntmps - (#[.string s, .slice ad rs.length ca, .pointer (some ⟨bb, 0, none⟩)] : Array Value).size) undef, defers := [] } : Act) = { tmps := #[.string s, .slice ad rs.length ca, .pointer (some ⟨bb, 0, none⟩), undef, undef, undef, undef, undef, undef, undef, undef, undef, undef], defers := [] } := by kernel_rfl
  rw [hn10, hact]
  have hres : ∀ tm w', (results Tryz.f51 tm).run Tryz.prog w' = .ok (.tuple #[]) w' := fun tm w' => by kernel_rfl
  have hcell : ({ w with drawn := w.drawn + 1 } : World).cell? ⟨bb, 0, none⟩ = some c0 := by
    rw [cell_of_blk (show ({ w with drawn := w.drawn + 1 } : World).heap[bb]? = _ from hblk)]
    simp
  have hvend : ∀ g' (st1 : St) w', EndR g' st1 w' (.returned (.tuple #[])) (.ret (.tup [])) := fun g' st1 w' => .tup [] #[] rfl (fun i c v h => by simp at h)
  have hzb : wz.heap[bb]? = some (.cells #[c0] ty (0, 0)) := (hzold bb hbb).trans hblk
  have hQ' : ∀ c a d u w', bodyPost Tryz.prog Tryz.f51 (fun e w' => ∃ g', SR g' { boxes := st.boxes.set b [.own tok (rows ++ [[.str sl, .sl rs, .bool false, .sl [], .int .i64 0]])], toks := toks', maps := st.maps } w' ∧ Ext cx g st w g' { boxes := st.boxes.set b [.own tok (rows ++ [[.str sl, .sl rs, .bool false, .sl [], .int .i64 0]])], toks := toks', maps := st.maps } w' ∧ Rsv none none g st g' { boxes := st.boxes.set b [.own tok (rows ++ [[.str sl, .sl rs, .bool false, .sl [], .int .i64 0]])], toks := toks', maps := st.maps } ∧ EndR g' { boxes := st.boxes.set b [.own tok (rows ++ [[.str sl, .sl rs, .bool false, .sl [], .int .i64 0]])], toks := toks', maps := st.maps } w' e (.ret (.tup []))) (.panic c) (Act.put a d u) w' → bodyPost Tryz.prog Tryz.f51 (fun e w' => ∃ g', SR g' { boxes := st.boxes.set b [.own tok (rows ++ [[.str sl, .sl rs, .bool false, .sl [], .int .i64 0]])], toks := toks', maps := st.maps } w' ∧ Ext cx g st w g' { boxes := st.boxes.set b [.own tok (rows ++ [[.str sl, .sl rs, .bool false, .sl [], .int .i64 0]])], toks := toks', maps := st.maps } w' ∧ Rsv none none g st g' { boxes := st.boxes.set b [.own tok (rows ++ [[.str sl, .sl rs, .bool false, .sl [], .int .i64 0]])], toks := toks', maps := st.maps } ∧ EndR g' { boxes := st.boxes.set b [.own tok (rows ++ [[.str sl, .sl rs, .bool false, .sl [], .int .i64 0]])], toks := toks', maps := st.maps } w' e (.ret (.tup []))) (.panic c) a w' := by
    intro c a d u w' h
    cases d <;> exact h
  -- a new block
  have grow : ∀ (g2 : Gh) (st2 : St) (base : Option Addr) (cap : Nat) (olds : List Value), c0 = .slice base rows.length cap → SR g2 st2 wz → Ext cx g st w g2 st2 wz → Rsv none none g st g2 st2 → CxOk cx st2 → (∀ b' off, Safe (clean w.heap.size g) st wz b' off → Safe g2 st2 wz b' off) →
      g2.bx[b]? = some (some bb) → st2.boxes[b]? = some [u] → tok < g2.tk.length → cx.t ≤ tok → (∀ b' sz' used', g2.tk[tok]? = some (some (b', sz', used')) → used' < rows.length + 1) → (g.tk[tok]? = some none → False) →
      olds.length = rows.length * 5 → FlatR (Safe g2 st2 wz) wz 5 rows olds → (Builtin.firstCells 5 rows.length (.slice base rows.length cap)).run Tryz.prog wz.drew = .ok olds.toArray wz.drew → cap < rows.length + 1 → (rows.length + 1) * 80 ≤ maxBytes →
      ({ boxes := st2.boxes.set b [.own tok (rows ++ [[.str sl, .sl rs, .bool false, .sl [], .int .i64 0]])], toks := st2.toks.set tok (rows.length + 1, 5), maps := st2.maps } : St) = { boxes := st.boxes.set b [.own tok (rows ++ [[.str sl, .sl rs, .bool false, .sl [], .int .i64 0]])], toks := toks', maps := st.maps } →
      wpAny Tryz.prog .any ops51 (bodyPost Tryz.prog Tryz.f51 fun e w' => ∃ g', SR g' { boxes := st.boxes.set b [.own tok (rows ++ [[.str sl, .sl rs, .bool false, .sl [], .int .i64 0]])], toks := toks', maps := st.maps } w' ∧ Ext cx g st w g' { boxes := st.boxes.set b [.own tok (rows ++ [[.str sl, .sl rs, .bool false, .sl [], .int .i64 0]])], toks := toks', maps := st.maps } w' ∧ Rsv none none g st g' { boxes := st.boxes.set b [.own tok (rows ++ [[.str sl, .sl rs, .bool false, .sl [], .int .i64 0]])], toks := toks', maps := st.maps } ∧ EndR g' { boxes := st.boxes.set b [.own tok (rows ++ [[.str sl, .sl rs, .bool false, .sl [], .int .i64 0]])], toks := toks', maps := st.maps } w' e (.ret (.tup []))) 10 (Array.replicate 10 false)
        { tmps := #[.string s, .slice ad rs.length ca, .pointer (some ⟨bb, 0, none⟩), undef, undef, undef, undef, undef, undef, undef, undef, undef, undef], defers := [] } { w with drawn := w.drawn + 1 } := by
    intro g2 st2 base cap olds hc0 hs2 hx2 hrsv hcx2 hsafe hid2 hbox2 htl htge hold hnone ol of ofc hroom hmax hst
    subst hc0
    refine head51 s ad rs.length ca bb rows.length cap base hQ' hcell ?_
    rw [← hwz]
    have h63 : ((rows.length + 1 : Nat) : Int) ≤ 9223372036854775807 := by simp only [maxBytes] at hmax; omega
    have hfit := growslice_fits hroom (bytes := ei.bytes) (by rw [heby]; simpa [maxBytes] using hmax)
    have hrun := run_append_grow_src (P := Tryz.prog) wz 32 32 (o51 6).type 36 ei ez u32 hei hez base rows.length cap olds (by rw [hesize]; exact ofc) (.slice (some ⟨w.heap.size, 0, none⟩) 1 1) 1 zv (by rw [hesize]; exact src) hroom h63 hfit
    have hcapge := grownCap_ge wz (rows.length + 1) cap 36
    generalize hZs : Builtin.zeroCells ez.cells (grownCap wz (rows.length + 1) cap 36 - (rows.length + 1)) = Zs at hrun
    generalize hgc : grownCap wz (rows.length + 1) cap 36 = gc at *
    have hZsize : Zs.size = (gc - (rows.length + 1)) * 5 := by rw [← hZs, size_zeroCells, hezs]
    have hbz : bb < wz.heap.size := by omega
    refine tail51 (.string s) (.slice ad rs.length ca) (.slice base rows.length cap) (.slice (some ⟨w.heap.size, 0, none⟩) 1 1) bb wz.heap.size rows.length gc #[.string s, .slice ad rs.length ca, .bool false, .slice none 0 0, .int .i64 0] rfl hQ' hrun
      (cb := #[.slice base rows.length cap]) (tb := ty) ((alloc_get (w := wz.drew) hbz).trans hzb) (alloc_new (w := wz.drew)) (by omega) (by simp) (by simp [ol, hzl]) hone (fun a' wf c1 c2 hd hc1 hc2 ht => ?_)
    have hdrew : SR g2 st2 wz.drew := hs2.drew
    obtain ⟨m1, m2, m3⟩ := grow_world (cx := cx) hdrew (e := 36) (sz := 5) (tok := tok) (cap' := gc) (rows := rows) (news := [[.str sl, .sl rs, .bool false, .sl [], .int .i64 0]]) (olds := olds) (vals := ([.string s, .slice ad rs.length ca, .bool false, .slice none 0 0, .int .i64 0] : List Value)) (Z := Zs)
      ol (of.keep Same.drew.keeps.safe) rfl ((hrow.keep (fun b' off h => ⟨hsafe b' off h, fun _ h => h⟩)).keep Same.drew.keeps.safe) (by simp [ol, hZsize]; omega) hcapge htl htge hold
    have hwm : (wz.drew.alloc (.cells ((olds ++ ([.string s, .slice ad rs.length ca, .bool false, .slice none 0 0, .int .i64 0] : List Value)).toArray ++ Zs) 36)).heap.size = wz.heap.size + 1 := by simp
    have hc2' : c2 = (olds ++ ([.string s, .slice ad rs.length ca, .bool false, .slice none 0 0, .int .i64 0] : List Value)).toArray ++ Zs := by
      apply Array.ext'
      rw [hc2]
      simp only [Array.toList_append, List.toList_toArray]
      rw [List.append_assoc olds zv, List.take_append_of_le_length (by omega), List.take_of_length_le (by omega), List.drop_append, List.drop_of_length_le (by omega), List.nil_append, List.drop_append, List.drop_of_length_le (by omega), List.nil_append]
      simp [ol, hzl]
    obtain ⟨g', p1, p2, p3⟩ := finish51 (g := g) (st := st) (w := w) (wf := wf) (b := b) (bb := bb) (c1 := c1) (ty := ty) m1 (hx2.trans ((Same.drew.ext (cx := cx) hs2 (fun _ _ => rfl) (fun _ _ => rfl) (fun _ _ => rfl) (Nat.le_refl _) (Nat.le_refl _) (Nat.le_refl _)).trans m2)) ⟨hcx2.b, by simpa using hcx2.t, hcx2.m⟩
      ⟨fun i hi hk => hrsv.b i hi hk, fun i hi hk => by
        obtain ⟨y1, y2⟩ := hrsv.t i hi hk
        have hne : tok ≠ i := fun e => hnone (by rw [e]; exact hi)
        exact ⟨(List.getElem?_set_ne hne).trans y1, (List.getElem?_set_ne hne).trans y2⟩⟩
      hid2 hid hbox2 hge m3 (by rw [ht.os]; rfl) (by rw [ht.tape]; rfl) (by rw [ht.output]; rfl) (by rw [ht.size]; simp) (fun k hk => by
        by_cases hkb : k = wz.heap.size
        · subst hkb
          rw [ht.two, hc2']
          exact (alloc_new (w := wz.drew)).symm
        · rw [ht.other k hk hkb]
          by_cases hlt : k < wz.heap.size
          · rw [alloc_get (w := wz.drew) hlt, alloc_get (w := wz.drew) hlt]
          · rw [Array.getElem?_eq_none (by simp; omega), Array.getElem?_eq_none (by simp; omega)]) ht.one (by rw [hc1]; simp)
    have hst' : ({ boxes := st2.boxes.set b [.own tok (rows ++ [[.str sl, .sl rs, .bool false, .sl [], .int .i64 0]])], toks := st2.toks.set tok (rows.length + [[D.str sl, .sl rs, .bool false, .sl [], .int .i64 0]].length, 5), maps := st2.maps } : St) = _ := hst
    rw [hst'] at p1 p2 p3
    exact ⟨hd, _, hres _ _, g', p1, p2, p3, hvend _ _ _⟩
  have hcg : (clean w.heap.size g).bx[b]? = some (some bb) := hid
  rcases hcase with ⟨rfl, rfl, rfl, rfl⟩ | ⟨rfl, htok, hget, hmax, rfl⟩
  · cases hu
    obtain ⟨hs2, hsame2⟩ := hs1.reserve [] [(1, 5)] (by simp)
    refine grow _ _ none 0 [] rfl hs2 (hx1.trans (hsame2.ext hs1 (fun i _ => by simp) (fun i hi => push_get hcx.t hi) (fun _ _ => rfl) (by simp) (by simp) (Nat.le_refl _))) ⟨fun i hi _ => ⟨by have hi' : (clean w.heap.size g).bx[i]? = some none := hi; simpa using hi', by simp⟩, fun i hi _ => ?_⟩ ⟨by simpa using hcx.b, by have := hcx.t; simp; omega, hcx.m⟩ (fun b' off h => (hsame2.keeps.safe b' off h).1)
      (by simpa using hcg) (by simpa using hbox) (by simp [hs1.lt]) hcx.t (fun b' sz' used' h => ?_) (fun h => ?_) rfl .nil (run_firstCells_none wz.drew 5 0 0 0) (by simp) (by simp [maxBytes]) ?_
    · have hi' : (clean w.heap.size g).tk[i]? = some none := hi
      have hil := (List.getElem?_eq_some_iff.1 hi').1
      refine ⟨?_, ?_⟩
      · show ((clean w.heap.size g).tk ++ _)[i]? = _
        rw [List.getElem?_append_left hil]; exact hi'
      · show (st.toks ++ _)[i]? = _
        rw [List.getElem?_append_left (by rw [← hs1.lt]; exact hil)]
    · have : ((clean w.heap.size g).tk ++ [none])[st.toks.length]? = some none := by rw [← hs1.lt]; simp
      have h' : ((clean w.heap.size g).tk ++ [none])[st.toks.length]? = some (some (b', sz', used')) := h
      rw [this] at h'; simp at h'
    · have := (List.getElem?_eq_some_iff.1 h).1
      rw [hs.lt] at this; omega
    · simp
  · cases hu with | own _ _ _ blk sz used g1 g2 g3 g4 =>
    obtain ⟨cur0, ty0, g5, _⟩ := hs.tok tok blk sz used g1
    rw [htok] at g5
    simp only [Option.some.injEq, Prod.mk.injEq] at g5
    obtain ⟨rfl, rfl⟩ := g5
    obtain ⟨cap, cur, tyb, rfl, g6, g7, g8, g9⟩ := g4 rfl
    have g3' := g3.keep hx1.keeps.safe
    have g1' : (clean w.heap.size g).tk[tok]? = some (some (blk, 5, rows.length)) := g1
    have htl := (List.getElem?_eq_some_iff.1 g1').1
    rcases Nat.lt_or_ge cap (rows.length + 1) with hlt | hroom
    · obtain ⟨olds, o1, o2, o3⟩ := firstCells_flat (P := Tryz.prog) g3' g9
      exact grow (clean w.heap.size g) st _ cap olds rfl hs1 hx1 ⟨fun i hi _ => ⟨hi, rfl⟩, fun i hi _ => ⟨hi, rfl⟩⟩ hcx (fun b' off h => h) hcg hbox htl hget (fun b' sz' used' h => by
        rw [g1'] at h
        simp only [Option.some.injEq, Prod.mk.injEq] at h
        omega) (fun h => by rw [g1] at h; simp at h) o1 o2 o3 hlt hmax rfl
    · have hbk : blk < w.heap.size := tk_lt hs g1
      have g6' : wz.heap[blk]? = some (.cells cur tyb (0, 0)) := (hzold blk hbk).trans g6
      have hne : bb ≠ blk := by
        rintro rfl
        have r1 := hs.rb b bb hid
        rw [hs.rt tok bb 5 _ g1] at r1
        simp at r1
      refine head51 s ad rs.length ca bb rows.length cap _ hQ' hcell ?_
      rw [← hwz]
      have hin : (rows.length + 1) * 5 ≤ cur.size := by rw [g7]; exact Nat.mul_le_mul_right _ hroom
      have hrun := run_append_room_src (P := Tryz.prog) wz 32 32 (o51 6).type 36 ei u32 hei blk 0 rows.length cap (.slice (some ⟨w.heap.size, 0, none⟩) 1 1) 1 zv (by rw [hesize]; exact src) hroom
        (fun k hk2 => by rw [cell_of_blk g6', Array.getElem?_eq_getElem (by rw [hesize]; omega)]; rfl)
        (fun k hk2 => by simp [World.frozen?, g6'])
      rw [Nat.zero_add, hesize] at hrun
      obtain ⟨k3, k4, k5, k6, k7, cur6, k8, k9, k10⟩ := setCells_blk zv (rows.length * 5) cur wz g6' (by omega)
      refine tail51 (.string s) (.slice ad rs.length ca) (.slice (some ⟨blk, 0, none⟩) rows.length cap) (.slice (some ⟨w.heap.size, 0, none⟩) 1 1) bb blk rows.length cap #[.string s, .slice ad rs.length ca, .bool false, .slice none 0 0, .int .i64 0] rfl hQ' hrun
        (cb := #[.slice (some ⟨blk, 0, none⟩) rows.length cap]) (tb := ty) ((k7 bb hne).trans hzb) k8 hne (by simp) (by omega) hone (fun a' wf c1 c2 hd hc1 hc2 ht => ?_)
      obtain ⟨m1, m2, m3⟩ := room_world (cx := cx) hs1 (tok := tok) (vals := ([.string s, .slice ad rs.length ca, .bool false, .slice none 0 0, .int .i64 0] : List Value)) (news := [[.str sl, .sl rs, .bool false, .sl [], .int .i64 0]]) g1' g3' g6' g7 g9 rfl hrow (by simpa using hroom) (by simp) hget
      obtain ⟨n3, n4, n5, n6, n7, curm, n8, n9, n10⟩ := setCells_blk ([.string s, .slice ad rs.length ca, .bool false, .slice none 0 0, .int .i64 0] : List Value) (rows.length * 5) cur wz g6' (by simp; omega)
      have hc2' : c2 = curm := by
        apply Array.ext'
        rw [hc2, n10, k10]
        have e1 : (cur.toList.take (rows.length * 5)).length = rows.length * 5 := by simp; omega
        rw [List.append_assoc (cur.toList.take _) zv, List.take_append_of_le_length (by omega), List.take_of_length_le (by omega), List.drop_append, List.drop_of_length_le (by omega), List.nil_append, e1, List.drop_append, List.drop_of_length_le (by omega), List.nil_append]
        simp [hzl]
      obtain ⟨g', p1, p2, p3⟩ := finish51 (g := g) (st := st) (w := w) (wf := wf) (b := b) (bb := bb) (c1 := c1) (ty := ty) m1 (hx1.trans m2) ⟨hcx.b, by simpa using hcx.t, hcx.m⟩
        ⟨fun i hi _ => ⟨hi, rfl⟩, fun i hi _ => by
          have hne : tok ≠ i := fun e => by subst e; rw [g1] at hi; simp at hi
          exact ⟨(List.getElem?_set_ne hne).trans hi, List.getElem?_set_ne hne⟩⟩
        hcg hid hbox hge m3 (by rw [ht.os, k3, n3]) (by rw [ht.tape, k4, n4]) (by rw [ht.output, k5, n5]) (by rw [ht.size, k6, n6]) (fun k hk => by
          by_cases hkb : k = blk
          · subst hkb
            rw [ht.two, hc2', n8]
          · rw [ht.other k hk hkb, k7 k hkb, n7 k hkb]) ht.one (by rw [hc1]; simp)
      exact ⟨hd, _, hres _ _, g', p1, p2, p3, hvend _ _ _⟩
end
end Go.Rf

namespace Go.Rf
open Go.Proofs Go.RowKit
set_option maxRecDepth 100000
set_option linter.unusedVariables false
set_option linter.unusedSimpArgs false
noncomputable def idxB (c : Nat) (l : List Nat) : Nat → Option Nat := List.rec (fun _ => none) (fun a _ ih i => ite2 (Nat.beq a c) (some i) (ih (Nat.add i 1))) l
noncomputable def g228 : List AV → Cx → St → Option (Out × St)
  | [.d (.str l), .d (.int .u8 (.ofNat c))], _, st => ite2 (Nat.blt c 256) (match idxB c l 0 with
    | some i => fNat i fun i => some (.ret (.d (.int .i64 (.ofNat i))), st)
    | none => some (.ret (.d (.int .i64 (.negSucc 0))), st)) none
  | _, _, _ => none
noncomputable def g226 : List AV → Cx → St → Option (Out × St)
  | [.d (.str l), .d (.int .i64 (.ofNat 10)), .d (.int .i64 (.ofNat 64))], _, st => match Lib.parseIntB 64 (l.map UInt8.ofNat) with
    | .ok v => fInt v fun v => ite2 (Nat.ble l.length 1000) (some (.ret (.tup [.d (.int .i64 v), .d .nilI]), st)) none
    | _ => none
  | _, _, _ => none
theorem idxB_eq (c : UInt8) : ∀ (l : List UInt8) (i : Nat), (match idxB c.toNat (l.map UInt8.toNat) i with | some j => (j : Int) - i | none => -1) = Lib.indexByte l c ∧ ∀ j, idxB c.toNat (l.map UInt8.toNat) i = some j → i ≤ j
  | [], i => ⟨rfl, fun j h => by cases h⟩
  | a :: r, i => by
    have hdef : idxB c.toNat ((a :: r).map UInt8.toNat) i = ite2 (Nat.beq a.toNat c.toNat) (some i) (idxB c.toNat (r.map UInt8.toNat) (i + 1)) := rfl
    rw [hdef]
    obtain ⟨ih1, ih2⟩ := idxB_eq c r (i + 1)
    by_cases h : a = c
    · subst h
      have : Nat.beq a.toNat a.toNat = true := by rw [Nat.beq_eq]
      rw [this, ite2_t]
      exact ⟨by simp [Lib.indexByte], fun j hj => by injection hj with hj; omega⟩
    · have : Nat.beq a.toNat c.toNat = false := by
        rw [Bool.eq_false_iff]
        intro hh
        rw [Nat.beq_eq] at hh
        exact h (UInt8.toNat_inj.1 hh)
      rw [this, ite2_f]
      refine ⟨?_, fun j hj => by have := ih2 j hj; omega⟩
      simp only [Lib.indexByte]
      rw [if_neg (by simpa using h), ← ih1]
      cases hx : idxB c.toNat (r.map UInt8.toNat) (i + 1) with
      | none => simp
      | some j =>
        have := ih2 j hx
        simp only
        rw [if_neg (by simp; omega)]
        omega
theorem map_ofNat (l : List UInt8) : (l.map UInt8.toNat).map UInt8.ofNat = l := by
  rw [List.map_map]
  conv => rhs; rw [← List.map_id l]
  refine List.map_congr_left fun a _ => ?_
  simp

theorem giv228 {args : List AV} {cx : Cx} {st st' : St} {o : Out} (h : g228 args cx st = some (o, st')) : st' = st ∧ ∀ g w vs, SR g st w → CxOk cx st → ArgsR g (Safe g st w) w args vs → CallR Tryz.prog cx g st w 228 vs o st' := by
  unfold g228 at h
  split at h
  · rename_i l c
    cases hc : Nat.blt c 256 with
    | false => rw [hc, ite2_f] at h; exact absurd h (by simp)
    | true =>
      rw [hc, ite2_t] at h
      have hc := blt_lt hc
      have key : ∃ v : Int, (o, st') = (Out.ret (.d (.int .i64 v)), st) ∧ v = match idxB c l 0 with | some i => (i : Int) | none => -1 := by
        cases hx : idxB c l 0 with
        | some i => rw [hx] at h; simp only [fNat_eq, Option.some.injEq] at h; exact ⟨_, h.symm, rfl⟩
        | none => rw [hx] at h; simp only [Option.some.injEq] at h; exact ⟨_, h.symm, rfl⟩
      obtain ⟨v, he, hv⟩ := key
      simp only [Prod.mk.injEq] at he
      obtain ⟨rfl, rfl⟩ := he
      refine ⟨rfl, fun g w vs hs hcx ha => ?_⟩
      obtain ⟨u1, u2, rfl, h1, h2⟩ := args2 ha
      obtain ⟨s, rfl, hsl⟩ := vr_str h1
      obtain rfl := vr_int h2
      refine callR_below hs hcx ((Tryz.stringslite_IndexByte s (Int.ofNat c) w).mono fun e w' ⟨he, hw⟩ => ?_)
      subst he; subst hw
      refine ⟨Below.refl _ _, _, rfl, fun g' hg' => ?_⟩
      have : Lib.indexByte s.data.toList (Int.ofNat c).toNat.toUInt8 = v := by
        rw [hv, ← hsl]
        have hct : ((Int.ofNat c).toNat.toUInt8).toNat = c := by simp; omega
        have := (idxB_eq ((Int.ofNat c).toNat.toUInt8) s.data.toList 0).1
        rw [hct] at this
        rw [← this]
        cases idxB c (s.data.toList.map UInt8.toNat) 0 <;> simp
      rw [this]
      exact .d _ _ (.int _ _)
  · exact absurd h (by simp)

theorem giv226 {args : List AV} {cx : Cx} {st st' : St} {o : Out} (h : g226 args cx st = some (o, st')) : st' = st ∧ ∀ g w vs, SR g st w → CxOk cx st → ArgsR g (Safe g st w) w args vs → CallR Tryz.prog cx g st w 226 vs o st' := by
  unfold g226 at h
  split at h
  · rename_i l
    split at h
    · rename_i v hv
      rw [fInt_eq] at h
      cases hc : Nat.ble l.length 1000 with
      | false => rw [hc, ite2_f] at h; exact absurd h (by simp)
      | true =>
        rw [hc, ite2_t] at h
        simp only [Option.some.injEq, Prod.mk.injEq] at h
        obtain ⟨rfl, rfl⟩ := h
        refine ⟨rfl, fun g w vs hs hcx ha => ?_⟩
        obtain ⟨u1, u2, u3, rfl, h1, h2, h3⟩ := args3 ha
        obtain ⟨s, rfl, hsl⟩ := vr_str h1
        obtain rfl := vr_int h2
        obtain rfl := vr_int h3
        have hl := Nat.ble_eq.mp hc
        have hlen : s.size ≤ 9223372036854775806 := by
          have : s.size = l.length := by rw [← hsl]; simp
          omega
        rw [← hsl, map_ofNat] at hv
        refine callR_below hs hcx ((Tryz.strconv_ParseInt_10_at64_ok s hlen v hv w).mono fun e w' ⟨he, hw⟩ => ?_)
        subst he
        have hb : Below w.heap.size w w' := by
          rcases hw with rfl | ⟨t, rfl⟩
          · exact Below.refl _ _
          · exact Lib.bytesWorld_below _ _ _
        refine ⟨hb, _, rfl, fun g' hg' => .tup _ _ rfl fun i c u hc hu => ?_⟩
        match i with
        | 0 => simp only [List.getElem?_cons_zero, Option.some.injEq] at hc; simp only [List.getElem?_toArray, List.getElem?_cons_zero, Option.some.injEq] at hu; subst hc; subst hu; exact .d _ _ (.int _ _)
        | 1 => simp only [List.getElem?_cons_zero, List.getElem?_cons_succ, Option.some.injEq] at hc; simp only [List.getElem?_toArray, List.getElem?_cons_zero, List.getElem?_cons_succ, Option.some.injEq] at hu; subst hc; subst hu; exact .d _ _ .nilI
        | n + 2 => simp at hc
    · exact absurd h (by simp)
  · exact absurd h (by simp)


noncomputable def giv1 : Nat → Option (List AV → Cx → St → Option (Out × St))
  | 228 => some g228
  | 226 => some g226
  | 51 => some g51
  | _ => none
theorem giv1_ok : GivOk Tryz.prog loud giv1 := by
  intro f gf hf args cx st o st' h
  unfold giv1 at hf
  split at hf
  · injection hf with hf; subst hf
    exact ⟨by kernel_rfl, fun _ => (giv228 h).1, (giv228 h).2⟩
  · injection hf with hf; subst hf
    exact ⟨by kernel_rfl, fun _ => (giv226 h).1, (giv226 h).2⟩
  · injection hf with hf; subst hf
    exact ⟨by kernel_rfl, fun hl => absurd hl (by decide), giv51 h⟩
  · exact absurd hf (by simp)
end Go.Rf
