/- The given functions: byte search, numbers, the set of a list, the formula's parser. -/
import Derived.Test.YtpenabnichgidaaGreatDoorProg
import Derived.Test.YtpenabnichgidaaGreatDoorMc
import Derived.Test.YtpenabnichgidaaGreatDoorCk
import Derived.Test.YtpenabnichgidaaGreatDoorMd
import Derived.Shelf.LaysC
import Derived.Shelf.Strconv.ParseIntPublic10
import Derived.Shelf.Strings.Search1
import Derived.Shelf.Sort.Plain
import Derived.Ground.Names2Prog
import Derived.Shelf.Slices.Clone
import Derived.Shelf.Slices.CompactS
import Derived.WalkKit
import Derived.Sort.OwnSorted
import Derived.Sort.Grow
import Derived.Lib.OwnBridge
import Derived.OwnWalk
import Derived.Defers
import Derived.Recover
import Derived.KernelRfl
namespace Go.Proofs
open Go.Shelf
def Tryz.laysC174_ren : Go.Shelf.Ren := ⟨fun | 174 => 279 | 247 => 291 | 245 => 292 | 287 => 308 | 279 => 309 | 280 => 310 | 281 => 311 | 282 => 312 | 321 => 325 | 322 => 326 | 316 => 327 | 171 => 329 | 205 => 328 | 243 => 336 | 246 => 281 | 283 => 294 | 284 => 295 | 285 => 296 | 286 => 297 | 129 => 170 | 317 => 314 | 318 => 315 | 319 => 316 | 320 => 317 | 337 => 330 | 338 => 331 | n => n, fun | 9 => 9 | 3 => 3 | 2 => 2 | 75 => 281 | 85 => 288 | 4 => 4 | 167 => 310 | 5 => 5 | 53 => 198 | 175 => 311 | 46 => 51 | 168 => 313 | 37 => 218 | 0 => 0 | 210 => 326 | 21 => 21 | 127 => 266 | 145 => 333 | 143 => 331 | 171 => 296 | 173 => 298 | 212 => 318 | 51 => 196 | 20 => 20 | 213 => 319 | 232 => 334 | 233 => 335 | 80 => 224 | n => n, fun | 15 => 2 | 16 => 3 | 17 => 0 | 18 => 4 | 19 => 5 | n => n⟩
theorem Tryz.laysC174 : Go.Proofs.LaysC.n174 Tryz.prog Tryz.laysC174_ren := {
  mixed := by kernel_rfl
  f129 := Tryz.func170.trans (congrArg some (by kernel_rfl))
  f171 := Tryz.func329.trans (congrArg some (by kernel_rfl))
  f174 := Tryz.func279.trans (congrArg some (by kernel_rfl))
  f205 := Tryz.func328.trans (congrArg some (by kernel_rfl))
  f243 := Tryz.func336.trans (congrArg some (by kernel_rfl))
  f245 := Tryz.func292.trans (congrArg some (by kernel_rfl))
  f246 := Tryz.func281.trans (congrArg some (by kernel_rfl))
  f247 := Tryz.func291.trans (congrArg some (by kernel_rfl))
  f279 := Tryz.func309.trans (congrArg some (by kernel_rfl))
  f280 := Tryz.func310.trans (congrArg some (by kernel_rfl))
  f281 := Tryz.func311.trans (congrArg some (by kernel_rfl))
  f282 := Tryz.func312.trans (congrArg some (by kernel_rfl))
  f283 := Tryz.func294.trans (congrArg some (by kernel_rfl))
  f284 := Tryz.func295.trans (congrArg some (by kernel_rfl))
  f285 := Tryz.func296.trans (congrArg some (by kernel_rfl))
  f286 := Tryz.func297.trans (congrArg some (by kernel_rfl))
  f287 := Tryz.func308.trans (congrArg some (by kernel_rfl))
  f316 := Tryz.func327.trans (congrArg some (by kernel_rfl))
  f317 := Tryz.func314.trans (congrArg some (by kernel_rfl))
  f318 := Tryz.func315.trans (congrArg some (by kernel_rfl))
  f319 := Tryz.func316.trans (congrArg some (by kernel_rfl))
  f320 := Tryz.func317.trans (congrArg some (by kernel_rfl))
  f321 := Tryz.func325.trans (congrArg some (by kernel_rfl))
  f322 := Tryz.func326.trans (congrArg some (by kernel_rfl))
  f337 := Tryz.func330.trans (congrArg some (by kernel_rfl))
  f338 := Tryz.func331.trans (congrArg some (by kernel_rfl))
  t0 := Tryz.underlying0
  a0 := Tryz.isAgg0
  z0 := Tryz.sizeOf0
  v0 := Tryz.zeroValue0
  t2 := Tryz.underlying2
  a2 := Tryz.isAgg2
  z2 := Tryz.sizeOf2
  v2 := Tryz.zeroValue2
  t3 := Tryz.underlying3
  a3 := Tryz.isAgg3
  z3 := Tryz.sizeOf3
  v3 := Tryz.zeroValue3
  t4 := Tryz.underlying4
  a4 := Tryz.isAgg4
  z4 := Tryz.sizeOf4
  v4 := Tryz.zeroValue4
  t5 := Tryz.underlying5
  a5 := Tryz.isAgg5
  z5 := Tryz.sizeOf5
  v5 := Tryz.zeroValue5
  t9 := Tryz.underlying9
  a9 := Tryz.isAgg9
  z9 := Tryz.sizeOf9
  v9 := Tryz.zeroValue9
  t20 := Tryz.underlying20
  a20 := Tryz.isAgg20
  z20 := Tryz.sizeOf20
  v20 := Tryz.zeroValue20
  t21 := Tryz.underlying21
  a21 := Tryz.isAgg21
  z21 := Tryz.sizeOf21
  v21 := Tryz.zeroValue21
  t37 := Tryz.underlying218
  a37 := Tryz.isAgg218
  z37 := Tryz.sizeOf218
  v37 := Tryz.zeroValue218
  t46 := Tryz.underlying51
  a46 := Tryz.isAgg51
  z46 := Tryz.sizeOf51
  v46 := Tryz.zeroValue51
  t51 := Tryz.underlying196
  a51 := Tryz.isAgg196
  z51 := Tryz.sizeOf196
  v51 := Tryz.zeroValue196
  t53 := Tryz.underlying198
  a53 := Tryz.isAgg198
  z53 := Tryz.sizeOf198
  v53 := Tryz.zeroValue198
  t75 := Tryz.underlying281
  a75 := Tryz.isAgg281
  z75 := Tryz.sizeOf281
  v75 := Tryz.zeroValue281
  t85 := Tryz.underlying288
  a85 := Tryz.isAgg288
  z85 := Tryz.sizeOf288
  v85 := Tryz.zeroValue288
  t127 := Tryz.underlying266
  a127 := Tryz.isAgg266
  z127 := Tryz.sizeOf266
  v127 := Tryz.zeroValue266
  t143 := Tryz.underlying331
  a143 := Tryz.isAgg331
  z143 := Tryz.sizeOf331
  v143 := Tryz.zeroValue331
  t145 := Tryz.underlying333
  a145 := Tryz.isAgg333
  z145 := Tryz.sizeOf333
  v145 := Tryz.zeroValue333
  t167 := Tryz.underlying310
  a167 := Tryz.isAgg310
  z167 := Tryz.sizeOf310
  v167 := Tryz.zeroValue310
  t168 := Tryz.underlying313
  a168 := Tryz.isAgg313
  z168 := Tryz.sizeOf313
  v168 := Tryz.zeroValue313
  t171 := Tryz.underlying296
  a171 := Tryz.isAgg296
  z171 := Tryz.sizeOf296
  v171 := Tryz.zeroValue296
  t173 := Tryz.underlying298
  a173 := Tryz.isAgg298
  z173 := Tryz.sizeOf298
  v173 := Tryz.zeroValue298
  t175 := Tryz.underlying311
  a175 := Tryz.isAgg311
  z175 := Tryz.sizeOf311
  v175 := Tryz.zeroValue311
  t210 := Tryz.underlying326
  a210 := Tryz.isAgg326
  z210 := Tryz.sizeOf326
  v210 := Tryz.zeroValue326
  t212 := Tryz.underlying318
  a212 := Tryz.isAgg318
  z212 := Tryz.sizeOf318
  v212 := Tryz.zeroValue318
  t213 := Tryz.underlying319
  a213 := Tryz.isAgg319
  z213 := Tryz.sizeOf319
  t232 := Tryz.underlying334
  a232 := Tryz.isAgg334
  z232 := Tryz.sizeOf334
  v232 := Tryz.zeroValue334
  t233 := Tryz.underlying335
  a233 := Tryz.isAgg335
  z233 := Tryz.sizeOf335
  v233 := Tryz.zeroValue335
  g15 := by kernel_rfl
  g16 := by kernel_rfl
  g17 := by kernel_rfl
  g18 := by kernel_rfl
  g19 := by kernel_rfl
  t80 := Tryz.underlying224
  a80 := Tryz.isAgg224
  z80 := Tryz.sizeOf224
  v80 := Tryz.zeroValue224
  i0 := by kernel_rfl
  i2 := by kernel_rfl
  i3 := by kernel_rfl
  i4 := by kernel_rfl
  i5 := by kernel_rfl
  i9 := by kernel_rfl
  i20 := by kernel_rfl
  i21 := by kernel_rfl
  i37 := by kernel_rfl
  i46 := by kernel_rfl
  i51 := by kernel_rfl
  i53 := by kernel_rfl
  i75 := by kernel_rfl
  i80 := by kernel_rfl
  i85 := by kernel_rfl
  i127 := by kernel_rfl
  i143 := by kernel_rfl
  i145 := by kernel_rfl
  i167 := by kernel_rfl
  i168 := by kernel_rfl
  i171 := by kernel_rfl
  i173 := by kernel_rfl
  i175 := by kernel_rfl
  i210 := by kernel_rfl
  i212 := by kernel_rfl
  i232 := by kernel_rfl
  i233 := by kernel_rfl
  m15 := by kernel_rfl
  m16 := by kernel_rfl
  m17 := by kernel_rfl
  m18 := by kernel_rfl
  m19 := by kernel_rfl
  c0 := by kernel_rfl
  c2 := by kernel_rfl
  c3 := by kernel_rfl
  c4 := by kernel_rfl
  c5 := by kernel_rfl
  c9 := by kernel_rfl
  c20 := by kernel_rfl
  c21 := by kernel_rfl
  c37 := by kernel_rfl
  c46 := by kernel_rfl
  c51 := by kernel_rfl
  c53 := by kernel_rfl
  c75 := by kernel_rfl
  c80 := by kernel_rfl
  c85 := by kernel_rfl
  c127 := by kernel_rfl
  c143 := by kernel_rfl
  c145 := by kernel_rfl
  c167 := by kernel_rfl
  c168 := by kernel_rfl
  c171 := by kernel_rfl
  c173 := by kernel_rfl
  c175 := by kernel_rfl
  c210 := by kernel_rfl
  c212 := by kernel_rfl
  c213 := by kernel_rfl
  c232 := by kernel_rfl
  c233 := by kernel_rfl }
open Go.RowKit in
/-- strconv.ParseInt(s, 10, 64), AT EVERY STRING THAT SPELLS AN int64 ('Lib.parseIntB 64 s.data.toList = .ok v'): v, AND NO ERROR. (LAID: no walk: one application.) -/
theorem Tryz.strconv_ParseInt_10_at64_ok (s : ByteArray) (hmax : s.size ≤ 9223372036854775806) (v : Int) (h : Lib.parseIntB 64 s.data.toList = .ok v) (w : World) :
    Calls Tryz.prog 279 #[.string s, .int .i64 10, .int .i64 64] w fun e w' => e = .returned (.tuple #[.int .i64 v, .nilIface]) ∧ (w' = w ∨ ∃ t, w' = Lib.bytesWorld w 5 t) := Any.strconv_ParseInt_10_at64_ok Tryz.laysC174 s hmax v h w
def Tryz.lays217_ren : Go.Shelf.Ren := ⟨fun | 217 => 293 | 266 => 313 | n => n, fun | 9 => 9 | 5 => 5 | 3 => 3 | n => n, fun | n => n⟩
theorem Tryz.lays217 : Go.Proofs.Lays.n217 Tryz.prog Tryz.lays217_ren := {
  mixed := by kernel_rfl
  f217 := Tryz.func293.trans (congrArg some (by kernel_rfl))
  f266 := Tryz.func313.trans (congrArg some (by kernel_rfl))
  t3 := Tryz.underlying3
  a3 := Tryz.isAgg3
  z3 := Tryz.sizeOf3
  v3 := Tryz.zeroValue3
  t5 := Tryz.underlying5
  a5 := Tryz.isAgg5
  z5 := Tryz.sizeOf5
  v5 := Tryz.zeroValue5
  t9 := Tryz.underlying9
  a9 := Tryz.isAgg9
  z9 := Tryz.sizeOf9
  v9 := Tryz.zeroValue9 }
open Go.RowKit Go.Lib in
/-- internal/stringslite.IndexByte (what strings.IndexByte calls): IT RETURNS 'Lib.indexByte s c'; the world is as it was. (LAID: no walk: one application.) -/
theorem Tryz.stringslite_IndexByte (s : ByteArray) (c : Int) (w : World) :
    Calls Tryz.prog 293 #[.string s, .int .u8 c] w fun e w' => e = .returned (.int .i64 (Lib.indexByte s.data.toList c.toNat.toUInt8)) ∧ w' = w := Any.stringslite_IndexByte Tryz.lays217 s c w
def Tryz.lays190_ren : Go.Shelf.Ren := ⟨fun | 190 => 122 | 125 => 107 | 258 => 193 | 128 => 169 | 129 => 170 | 302 => 234 | 303 => 235 | 304 => 236 | 305 => 237 | 306 => 238 | 307 => 239 | 308 => 240 | 309 => 241 | 310 => 242 | 333 => 267 | 329 => 221 | 330 => 222 | 334 => 268 | 335 => 269 | 336 => 108 | 344 => 287 | n => n, fun | 31 => 23 | 9 => 9 | 3 => 3 | 46 => 51 | 0 => 0 | 51 => 196 | 53 => 198 | 4 => 4 | 183 => 189 | 182 => 188 | 131 => 193 | 5 => 5 | 218 => 243 | 222 => 247 | 228 => 270 | 229 => 271 | n => n, fun | n => n⟩
theorem Tryz.lays190 : Go.Proofs.Lays.n190 Tryz.prog Tryz.lays190_ren := {
  mixed := by kernel_rfl
  f125 := Tryz.func107.trans (congrArg some (by kernel_rfl))
  f128 := Tryz.func169.trans (congrArg some (by kernel_rfl))
  f129 := Tryz.func170.trans (congrArg some (by kernel_rfl))
  f190 := Tryz.func122.trans (congrArg some (by kernel_rfl))
  f258 := Tryz.func193.trans (congrArg some (by kernel_rfl))
  f302 := Tryz.func234.trans (congrArg some (by kernel_rfl))
  f303 := Tryz.func235.trans (congrArg some (by kernel_rfl))
  f304 := Tryz.func236.trans (congrArg some (by kernel_rfl))
  f305 := Tryz.func237.trans (congrArg some (by kernel_rfl))
  f306 := Tryz.func238.trans (congrArg some (by kernel_rfl))
  f307 := Tryz.func239.trans (congrArg some (by kernel_rfl))
  f308 := Tryz.func240.trans (congrArg some (by kernel_rfl))
  f309 := Tryz.func241.trans (congrArg some (by kernel_rfl))
  f310 := Tryz.func242.trans (congrArg some (by kernel_rfl))
  f329 := Tryz.func221.trans (congrArg some (by kernel_rfl))
  f330 := Tryz.func222.trans (congrArg some (by kernel_rfl))
  f333 := Tryz.func267.trans (congrArg some (by kernel_rfl))
  f334 := Tryz.func268.trans (congrArg some (by kernel_rfl))
  f335 := Tryz.func269.trans (congrArg some (by kernel_rfl))
  f336 := Tryz.func108.trans (congrArg some (by kernel_rfl))
  f344 := Tryz.func287.trans (congrArg some (by kernel_rfl))
  t0 := Tryz.underlying0
  a0 := Tryz.isAgg0
  z0 := Tryz.sizeOf0
  v0 := Tryz.zeroValue0
  t3 := Tryz.underlying3
  a3 := Tryz.isAgg3
  z3 := Tryz.sizeOf3
  v3 := Tryz.zeroValue3
  t4 := Tryz.underlying4
  a4 := Tryz.isAgg4
  z4 := Tryz.sizeOf4
  v4 := Tryz.zeroValue4
  t5 := Tryz.underlying5
  a5 := Tryz.isAgg5
  z5 := Tryz.sizeOf5
  v5 := Tryz.zeroValue5
  t9 := Tryz.underlying9
  a9 := Tryz.isAgg9
  z9 := Tryz.sizeOf9
  v9 := Tryz.zeroValue9
  t31 := Tryz.underlying23
  a31 := Tryz.isAgg23
  z31 := Tryz.sizeOf23
  v31 := Tryz.zeroValue23
  t46 := Tryz.underlying51
  a46 := Tryz.isAgg51
  z46 := Tryz.sizeOf51
  v46 := Tryz.zeroValue51
  t51 := Tryz.underlying196
  a51 := Tryz.isAgg196
  z51 := Tryz.sizeOf196
  v51 := Tryz.zeroValue196
  t53 := Tryz.underlying198
  a53 := Tryz.isAgg198
  z53 := Tryz.sizeOf198
  v53 := Tryz.zeroValue198
  t131 := Tryz.underlying193
  a131 := Tryz.isAgg193
  z131 := Tryz.sizeOf193
  v131 := Tryz.zeroValue193
  t182 := Tryz.underlying188
  a182 := Tryz.isAgg188
  z182 := Tryz.sizeOf188
  v182 := Tryz.zeroValue188
  t183 := Tryz.underlying189
  a183 := Tryz.isAgg189
  z183 := Tryz.sizeOf189
  v183 := Tryz.zeroValue189
  t218 := Tryz.underlying243
  a218 := Tryz.isAgg243
  z218 := Tryz.sizeOf243
  v218 := Tryz.zeroValue243
  t222 := Tryz.underlying247
  a222 := Tryz.isAgg247
  z222 := Tryz.sizeOf247
  v222 := Tryz.zeroValue247
  t228 := Tryz.underlying270
  a228 := Tryz.isAgg270
  z228 := Tryz.sizeOf270
  v228 := Tryz.zeroValue270
  t229 := Tryz.underlying271
  a229 := Tryz.isAgg271
  z229 := Tryz.sizeOf271
  v229 := Tryz.zeroValue271 }
open Go.Sort Go.RowKit in
theorem Tryz.slices_Sort_string (blk off cap : Nat) (ss : List (List UInt8)) (w : World) (hH : Holds encStr w blk off ss.toArray) (hblk : blk < w.heap.size) (hsz : ss.length < 4611686018427387904) :
    Calls Tryz.prog 122 #[.slice (some ⟨blk, off, none⟩) ss.length cap] w fun e w' =>
      e = .returned (.tuple #[]) ∧ ∃ n os, w' = grow (putRow encStr (Sort.ahead w n) blk off (ss.mergeSort fun x y => decide (x ≤ y)).toArray) os := Any.slices_Sort_string Tryz.lays190 blk off cap ss w hH hblk hsz
def Tryz.laysNm216_ren : Go.Shelf.Ren := ⟨fun | 16 => 121 | n => n, fun | 24 => 23 | 9 => 9 | 4 => 4 | n => n, fun | n => n⟩
theorem Tryz.laysNm216 : Go.Proofs.Lays2.n16 Tryz.prog Tryz.laysNm216_ren := {
  mixed := by kernel_rfl
  f16 := Tryz.func121.trans (congrArg some (by kernel_rfl))
  t4 := Tryz.underlying4
  a4 := Tryz.isAgg4
  z4 := Tryz.sizeOf4
  v4 := Tryz.zeroValue4
  t9 := Tryz.underlying9
  a9 := Tryz.isAgg9
  z9 := Tryz.sizeOf9
  v9 := Tryz.zeroValue9
  t24 := Tryz.underlying23
  a24 := Tryz.isAgg23
  z24 := Tryz.sizeOf23
  v24 := Tryz.zeroValue23
  i9 := by kernel_rfl }
open Go.RowKit Go.Lib in
/-- slices.Clone at []string: "Clone returns a copy of the slice. The elements are copied using assignment, so this is a shallow clone. The result may have additional unused capacity. The result preserves the nilness of s.": OF A SLICE THAT IS NOT nil IT RETURNS A SLICE THAT IS NOT nil, OF THE SAME ELEMENTS, IN MEMORY OF THE CALL's OWN: in the how-to's words (6f): 'w'.ownsRow B e 1 v' n cells': v' begins at the head of a row among the blocks from B on (B: the heap's size at the call), not frozen, whose first cells are the elements · 'Below B w w'': below B all is as it was. The capacity is whatever the run-time gives. 'zs': what the cells behind the slice's address hold; 'zs.take n': its elements. (LAID: no walk: one application.) -/
theorem Tryz.slices_Clone_string (b off n c : Nat) (zs : List ByteArray) (w : World) (hz : n ≤ zs.length) (hbig : n * 16 ≤ 140737488355328) (hc : ∀ j, j < zs.length → w.cell? ⟨b, off + j, none⟩ = some (.string (zs.getD j ByteArray.empty))) :
    Calls Tryz.prog 121 #[.slice (some ⟨b, off, none⟩) n c] w fun e w' => ∃ v', e = .returned v' ∧ w'.ownsRow w.heap.size 9 1 v' n ((zs.take n).map (Value.string)) ∧ v' ≠ .slice none 0 0 ∧ Below w.heap.size w w' := Any.slices_Clone_string Tryz.laysNm216 b off n c zs w hz hbig hc
def Tryz.lays194_ren : Go.Shelf.Ren := ⟨fun | 194 => 123 | n => n, fun | 31 => 23 | 9 => 9 | 3 => 3 | 4 => 4 | 0 => 0 | n => n, fun | n => n⟩
theorem Tryz.lays194 : Go.Proofs.Lays.n194 Tryz.prog Tryz.lays194_ren := {
  mixed := by kernel_rfl
  f194 := Tryz.func123.trans (congrArg some (by kernel_rfl))
  t0 := Tryz.underlying0
  a0 := Tryz.isAgg0
  z0 := Tryz.sizeOf0
  v0 := Tryz.zeroValue0
  t3 := Tryz.underlying3
  a3 := Tryz.isAgg3
  z3 := Tryz.sizeOf3
  v3 := Tryz.zeroValue3
  t4 := Tryz.underlying4
  a4 := Tryz.isAgg4
  z4 := Tryz.sizeOf4
  v4 := Tryz.zeroValue4
  t9 := Tryz.underlying9
  a9 := Tryz.isAgg9
  z9 := Tryz.sizeOf9
  v9 := Tryz.zeroValue9
  t31 := Tryz.underlying23
  a31 := Tryz.isAgg23
  z31 := Tryz.sizeOf23
  v31 := Tryz.zeroValue23 }
open Go.RowKit Go.Lib Go.Sort in
/-- slices.Compact at []string: "Compact replaces consecutive runs of equal elements with a single copy. This is like the uniq command found on Unix. Compact modifies the contents of the slice s and returns the modified slice, which may have a smaller length. Compact zeroes the elements between the new length and the original length. The result preserves the nilness of s.": IT RETURNS THE SLICE CUT TO 'Lib.compact zs'; ITS CELLS HOLD 'Lib.compact zs', THEN ZERO VALUES up to the old length; all else is as it was, but for the count of draws. IN THE WORDS OF slices.Sort's CONTRACT ('Holds', 'putRow'): so the everyday 'slices.Sort(xs); xs = slices.Compact(xs)' goes from the one contract to the other. It asks 'zs.length ≤ cap' (every slice's: the reslicing 's[:k]' looks at it). Length 0, nil: '.._empty'. (LAID: no walk: one application.) -/
theorem Tryz.slices_Compact_string (blk off cap : Nat) (zs : List (List UInt8)) (w : World) (hH : Holds encStr w blk off zs.toArray) (hsz : zs.length ≤ 9223372036854775807) (hcap : zs.length ≤ cap) :
    Calls Tryz.prog 123 #[.slice (some ⟨blk, off, none⟩) zs.length cap] w fun e w' => e = .returned (.slice (some ⟨blk, off, none⟩) (Lib.compact zs).length cap) ∧ ∃ q, w' = putRow encStr (Sort.ahead w q) blk off (Lib.compact zs ++ List.replicate (zs.length - (Lib.compact zs).length) []).toArray := Any.slices_Compact_string Tryz.lays194 blk off cap zs w hH hsz hcap

end Go.Proofs

namespace Go.Proofs.Tryz
open Go.RowKit Go.Shelf Go.Sort

/-- What is left: a slice over the sorted, compacted strings; below the call's own blocks nothing has turned. -/
def SetLeft (w : World) (ss : List (List UInt8)) (e : Ending) (w' : World) : Prop :=
  ∃ g cap, e = .returned (.slice (some ⟨g, 0, none⟩) (Lib.compact (ss.mergeSort fun x y => decide (x ≤ y))).length cap) ∧
    w'.ownsRow w.heap.size 9 1 (.slice (some ⟨g, 0, none⟩) (Lib.compact (ss.mergeSort fun x y => decide (x ≤ y))).length cap) (Lib.compact (ss.mergeSort fun x y => decide (x ≤ y))).length ((Lib.compact (ss.mergeSort fun x y => decide (x ≤ y))).map encStr) ∧ Below w.heap.size w w'

theorem setLeft_of {w w1 : World} {g cap n nn q : Nat} {os : Array Obj} {ss : List (List UInt8)} (hown : w1.ownsRow w.heap.size 9 1 (.slice (some ⟨g, 0, none⟩) n cap) n (ss.map encStr)) (hbel : Below w.heap.size w w1) (hbg : w.heap.size ≤ g) (hlen : ss.length = n) :
    SetLeft w ss (.returned (.slice (some ⟨g, 0, none⟩) (Lib.compact (ss.mergeSort fun x y => decide (x ≤ y))).length cap))
      (putRow encStr (Sort.ahead (grow (putRow encStr (Sort.ahead w1 nn) g 0 (ss.mergeSort fun x y => decide (x ≤ y)).toArray) os) q) g 0 (Lib.compact (ss.mergeSort fun x y => decide (x ≤ y)) ++ List.replicate (n - (Lib.compact (ss.mergeSort fun x y => decide (x ≤ y))).length) []).toArray) := by
  have hl2 : (ss.mergeSort fun x y => decide (x ≤ y)).length = ss.length := List.length_mergeSort ss
  have hle := Lib.compact_length_le (ss.mergeSort fun x y => decide (x ≤ y))
  subst hlen
  rcases hown.2 with ⟨h0, _⟩ | ⟨g', cap', cur, hv, hbase, hb, h1, h2, h3, h4⟩
  · cases h0
  cases hv
  have hs := ownsRow_sorted (n := nn) (os := os) (ts := ss.mergeSort fun x y => decide (x ≤ y)) hl2 hbase hb h1 h2 h3
  have hc := Lib.ownsRow_putRow (q := q) (k := (Lib.compact (ss.mergeSort fun x y => decide (x ≤ y))).length) (ys := Lib.compact (ss.mergeSort fun x y => decide (x ≤ y)) ++ List.replicate (ss.length - (Lib.compact (ss.mergeSort fun x y => decide (x ≤ y))).length) []) hs (by simp; omega) (by omega)
  rw [List.take_left] at hc
  exact ⟨g, cap, rfl, hc, Lib.below_putRow (hbel.grown (grownBy_sorted _) hbel.size (fun j hj => by cases hj; exact hbase)) hbg⟩

set_option maxHeartbeats 2000000 in
set_option maxRecDepth 100000 in
theorem set_tail (n : Nat) (arg : Value) (ss : List (List UInt8)) (w : World) (hn : n ≤ 4611686018427387903)
    (hclone : Calls Tryz.prog 121 #[arg] w fun e w' => ∃ v', e = .returned v' ∧ w'.ownsRow w.heap.size 9 1 v' n (ss.map encStr) ∧ v' ≠ .slice none 0 0 ∧ Below w.heap.size w w') :
    Calls Tryz.prog 60 #[arg] w (SetLeft w ss) := by
  go_enter Tryz.func60, Tryz.ntmps60
  go_wp2_with (first
    | (go_at_call 121; refine hclone.mono ?_; rintro e w1 ⟨v1, rfl, hown, hnn, hbel⟩
       obtain ⟨g, cap, rfl, hbg, hgl, hncap, hcm, hlen, hH⟩ := Lib.holds_of_ownsRow hown hnn
       have hsort := Tryz.slices_Sort_string g 0 cap ss w1 hH hgl (by omega)
       rw [hlen] at hsort
       have X : Aside (w1.ownsRow w.heap.size 9 1 (.slice (some ⟨g, 0, none⟩) n cap) n (ss.map encStr) ∧ Below w.heap.size w w1 ∧ w.heap.size ≤ g ∧ g < w1.heap.size ∧ n ≤ cap ∧ cap ≤ maxLen ∧ ss.length = n ∧ Holds encStr w1 g 0 ss.toArray) := ⟨hown, hbel, hbg, hgl, hncap, hcm, hlen, hH⟩
       clear hown hbel hH hnn)
    | (go_at_call 122; refine hsort.mono ?_; rintro e w2 ⟨rfl, nn, os, rfl⟩
       have hl2 : (ss.mergeSort fun x y => decide (x ≤ y)).length = n := by rw [List.length_mergeSort]; exact X.out.2.2.2.2.2.2.1
       have hH2 : Holds encStr (grow (putRow encStr (Sort.ahead w1 nn) g 0 (ss.mergeSort fun x y => decide (x ≤ y)).toArray) os) g 0 (ss.mergeSort fun x y => decide (x ≤ y)).toArray :=
         holds_grow encStr _ os g 0 _ (by simpa [putRow, mapBlock, Sort.ahead] using X.out.2.2.2.1) (holds_putRow encStr _ g 0 _ _ (holds_ahead encStr w1 nn g 0 _ X.out.2.2.2.2.2.2.2) (by simp))
       have hcomp := Tryz.slices_Compact_string g 0 cap (ss.mergeSort fun x y => decide (x ≤ y)) _ hH2 (by omega) (by have := X.out.2.2.2.2.1; omega)
       rw [hl2] at hcomp
       clear hH2 hsort)
    | (go_at_call 123; refine hcomp.mono ?_; rintro e w3 ⟨rfl, q, rfl⟩))
  go_ret
  exact setLeft_of X.out.1 X.out.2.1 X.out.2.2.1 X.out.2.2.2.2.2.2.1

theorem set_any (b off n c : Nat) (zs : List ByteArray) (w : World) (hz : n ≤ zs.length) (hbig : n * 16 ≤ 140737488355328) (hc : ∀ j, j < zs.length → w.cell? ⟨b, off + j, none⟩ = some (.string (zs.getD j ByteArray.empty))) :
    Calls Tryz.prog 60 #[.slice (some ⟨b, off, none⟩) n c] w (SetLeft w ((zs.take n).map (·.data.toList))) :=
  set_tail n _ _ w (by omega) ((Tryz.slices_Clone_string b off n c zs w hz hbig hc).mono fun e w' ⟨v', he, hown, hnn, hbel⟩ => ⟨v', he, by rw [Lib.map_encStr]; exact hown, hnn, hbel⟩)
end Go.Proofs.Tryz

namespace Go.Proofs
open Go.RowKit
set_option maxRecDepth 100000
/-- The deferred closure of formula.Parse, in a frame that returns: recover finds nothing. -/
theorem Tryz.catch_idle (p q : Value) (w : World) :
    CallsD Tryz.prog 217 #[p, q] .returning w fun e u' w' => e = .returned (.tuple #[]) ∧ u' = .returning ∧ w' = w := by
  have hne : ∀ w : World, (binOp BinOp.neq 20 .nilIface .nilIface).run Tryz.prog w = .ok (.bool false) w := fun _ => by kernel_rfl
  refine callsD_of_wpS Tryz.func217 rfl fun c₀ cs hu => ?_
  apply wpS_seq
  apply wpS_region
  simp [wpOpsS, go_sem, recoverD, hu, Tryz.ntmps217, Exit.thenS]
  apply wpS_seq
  apply wpS_region
  simp [wpOpsS, go_sem, Exit.thenS, hne]
  refine wpS_cond (t := false) (by simp [Act.eval, Array.replicate]) ?_
  simp only [Bool.false_eq_true, if_false]
  refine wpS_of_wp (wp_skip ?_)
  cases c₀
  simp_all [bodyPostS, results, Tryz.results217]
end Go.Proofs

namespace Go.Rf
open Go.Proofs Go.RowKit
set_option linter.unusedVariables false
set_option linter.unusedSimpArgs false
section
variable {P : Program} {callee : Callee} {loud : Nat → Bool} {cx : Cx}

/-- A region that makes a closure over two variables and defers it. -/
theorem wp_defer_region {id : Nat} {o1 o2 : Oper} {t i j : Nat} {f2 : Nat} {a : Act} {w : World} {Q : Exit → Act → World → Prop}
    (h1 : o1.op = .makeFunc (.func f2) #[] #[.tmp i, .tmp j]) (d1 : o1.dst = some t) (g1 : o1.guard = none)
    (h2 : o2.op = .defer { callee := .value (.tmp t), args := #[], argTypes := #[] }) (d2 : o2.dst = none) (g2 : o2.guard = none)
    (ht : t < a.tmps.size)
    (h : Q .normal { tmps := a.tmps.setIfInBounds t (.func (.func f2) #[] #[a.eval (.tmp i), a.eval (.tmp j)]), defers := { target := .fn (.func f2) #[a.eval (.tmp i), a.eval (.tmp j)], args := #[] } :: a.defers } w) :
    (Code.region id #[o1, o2] false).wp P Q a w := by
  refine wp_region ?_
  have hr : List.range (#[o1, o2] : Array Oper).size = [0, 1] := rfl
  rw [hr]
  have hw1 : ∀ l, Region.wanted o1 l = true := fun l => by simp [Region.wanted, g1]
  have hw2 : ∀ l, Region.wanted o2 l = true := fun l => by simp [Region.wanted, g2]
  simp only [wpOps, List.getElem?_toArray, List.getElem?_cons_zero, List.getElem?_cons_succ, hw1, if_true]
  left
  have e1 : (execOp a.eval o1).run P w = .ok (.value (.func (.func f2) #[] #[a.eval (.tmp i), a.eval (.tmp j)])) w := by
    unfold execOp; rw [h1]
    simp [Instr.makeFunc, go_sem]
  unfold Oper.wp
  rw [e1, Oper.upon_value]
  simp only [hw2, if_true]
  left
  have hput : a.put o1.dst (.func (.func f2) #[] #[a.eval (.tmp i), a.eval (.tmp j)]) = { a with tmps := a.tmps.setIfInBounds t (.func (.func f2) #[] #[a.eval (.tmp i), a.eval (.tmp j)]) } := by rw [d1]; rfl
  rw [hput]
  have hev : ({ a with tmps := a.tmps.setIfInBounds t (.func (.func f2) #[] #[a.eval (.tmp i), a.eval (.tmp j)]) } : Act).eval (.tmp t) = .func (.func f2) #[] #[a.eval (.tmp i), a.eval (.tmp j)] := by
    simp [Act.eval, ht]
  have e2 : (execOp ({ a with tmps := a.tmps.setIfInBounds t (.func (.func f2) #[] #[a.eval (.tmp i), a.eval (.tmp j)]) } : Act).eval o2).run P w = .ok (.defer { target := .fn (.func f2) #[a.eval (.tmp i), a.eval (.tmp j)], args := #[] }) w := by
    unfold execOp; rw [h2]
    simp [resolve, ht, Act.eval, go_sem]
  rw [e2, Oper.upon_defer, d2]
  exact h

/-- The pieces of such a function. -/
structure DefFn where
  pf : PFn
  p1 : PC
  p2 : PC
  p4 : PC
  t : Nat
  i : Nat
  j : Nat
  f2 : Nat
/-- Its run: nothing panics, and the deferred closure then does nothing. -/
def runDef (callee : Callee) (lf : Nat) (d : DefFn) (args : List AV) (cx : Cx) (st : St) : Option (Out × St) :=
  if args.length ≤ d.pf.ntmps ∧ d.pf.quiet = true then
  match runCF callee lf (cxOf d.pf cx st) d.p1 (enter d.pf args) st with
  | some (.normal, e1, s1) => match runCF callee lf (cxOf d.pf cx st) d.p2 e1 s1 with
    | some (.normal, e2, s2) => if d.t < e2.length then (match runCF callee lf (cxOf d.pf cx st) d.p4 (e2.set d.t (.fn d.f2 [e2.getD d.i undefA, e2.getD d.j undefA])) s2 with
      | some (.normal, e4, s4) => leave d.pf st (some (.normal, e4, s4))
      | some (.ret, e4, s4) => leave d.pf st (some (.ret, e4, s4))
      | _ => none) else none
    | _ => none
  | _ => none
  else none

theorem leave_quiet {pf : PFn} {st st' st1 : St} {ex : Ex} {env : Env} {out : Out} (hqt : pf.quiet = true) (hex : ex = .normal ∨ ex = .ret) (h : leave pf st (some (ex, env, st1)) = some (out, st')) :
    ∃ vsr, readAll env st1 pf.res = some vsr ∧ ∃ v, freeze ⟨st.boxes.length, st.toks.length, st.maps.length⟩ (packRes vsr) = some v ∧ out = .ret v ∧ st' = st := by
  rcases hex with rfl | rfl
  all_goals
    simp only [leave] at h
    split at h
    · rename_i vsr hvs
      rw [if_pos hqt] at h
      split at h
      · rename_i v hv
        simp only [Option.some.injEq, Prod.mk.injEq] at h
        exact ⟨vsr, hvs, v, hv, h.1.symm, h.2.symm⟩
      · exact absurd h (by simp)
    · exact absurd h (by simp)

theorem def_ok (hcal : CalleeOk P callee) (hq : QuietOk callee loud) (hm : P.follows .mixedOrders = true) (lf : Nat) {f : Nat} {d : DefFn} {fn : Func} {id : Nat} {o1 o2 : Oper} {x1 x2 x4 : Code}
    (hf : P.funcs[f]? = some fn) (hb : fn.body = some (.seq x1 (.seq x2 (.seq (.region id #[o1, o2] false) x4))))
    (h1 : o1.op = .makeFunc (.func d.f2) #[] #[.tmp d.i, .tmp d.j]) (d1 : o1.dst = some d.t) (g1 : o1.guard = none)
    (h2 : o2.op = .defer { callee := .value (.tmp d.t), args := #[], argTypes := #[] }) (d2 : o2.dst = none) (g2 : o2.guard = none)
    (hen : enters P d.f2 = true)
    (hcd : ∀ p q w, CallsD P d.f2 #[p, q] .returning w fun e u' w' => e = .returned (.tuple #[]) ∧ u' = .returning ∧ w' = w)
    (hnt : d.pf.ntmps = fn.ntmps) (n4 : ckRes P d.pf.res fn.results.toList = true)
    (c1 : ckCode P loud x1 d.p1 = true) (c2 : ckCode P loud x2 d.p2 = true) (c4 : ckCode P loud x4 d.p4 = true)
    {args : List AV} {st st' : St} {out : Out} (h : runDef callee lf d args cx st = some (out, st')) :
    st' = st ∧ ∀ g w vs, SR g st w → CxOk cx st → ArgsR g (Safe g st w) w args vs → CallR P cx g st w f vs out st' := by
  unfold runDef at h
  split at h
  · rename_i hcond
    obtain ⟨hargs, hqt⟩ := hcond
    simp only [runCF_eq] at h
    split at h
    · rename_i e1 s1 hr1
      split at h
      · rename_i e2 s2 hr2
        split at h
        case isFalse => exact absurd h (by simp)
        rename_i htl
        have hfin : ∃ ex e4 s4, (ex = .normal ∨ ex = .ret) ∧ runC callee lf (cxOf d.pf cx st) d.p4 (e2.set d.t (.fn d.f2 [e2.getD d.i undefA, e2.getD d.j undefA])) s2 = some (ex, e4, s4) ∧ leave d.pf st (some (ex, e4, s4)) = some (out, st') := by
          split at h
          · rename_i e4 s4 hr; exact ⟨_, e4, s4, .inl rfl, hr, h⟩
          · rename_i e4 s4 hr; exact ⟨_, e4, s4, .inr rfl, hr, h⟩
          · exact absurd h (by simp)
        obtain ⟨ex, e4, s4, hex, hr4, hl⟩ := hfin
        have hlv := leave_quiet hqt hex hl
        obtain ⟨vsr, hvs, v, hv, rfl, rfl⟩ := hlv
        refine ⟨rfl, fun g w vs hs hcx ha => ?_⟩
        have her : ER g (Safe g st' w) w (enter d.pf args) (vs ++ Array.replicate (fn.ntmps - vs.size) undef) := by
          obtain ⟨a1, a2⟩ := ha
          refine ⟨by simp [enter, a1, hnt], fun i x v hx hv => ?_⟩
          unfold enter at hx
          rw [List.getElem?_append] at hx
          rw [Array.getElem?_append] at hv
          split at hx
          · rename_i hi
            rw [if_pos (by omega)] at hv
            exact a2 i x v hx hv
          · rename_i hi
            rw [if_neg (by omega)] at hv
            rw [List.getElem?_replicate] at hx
            rw [Array.getElem?_replicate] at hv
            split at hx
            · split at hv
              · injection hx with hx; injection hv with hv
                subst hx; subst hv
                exact VR.undef
              · exact absurd hv (by simp)
            · exact absurd hx (by simp)
        have hcx2 : CxOk (cxOf d.pf cx st') st' := by
          unfold cxOf
          rw [if_pos hqt]
          exact ⟨Nat.le_refl _, Nat.le_refl _, Nat.le_refl _⟩
        have hcxe : cxOf d.pf cx st' = cxAll st' := by unfold cxOf; rw [if_pos hqt]; rfl
        unfold CallR
        refine calls_of_wp_defers hf hb ?_
        refine wp_seq ?_
        refine code_wp hcal hq hm lf x1 d.p1 (enter d.pf args) st' .normal e1 s1 g w _ c1 hr1 hs her hcx2 _ (fun e a1 w1 g1' k1 => ?_)
        cases e with
        | normal =>
          refine wp_seq ?_
          refine code_wp hcal hq hm lf x2 d.p2 e1 s1 .normal e2 s2 g1' w1 a1 c2 hr2 k1.sr k1.er (hcx2.ext k1.ext) _ (fun e a2 w2 g2' k2 => ?_)
          cases e with
          | normal =>
            refine wp_seq ?_
            have k12 := k1.trans k2
            have hd0 : a2.defers = [] := k12.defers
            have hsz2 : d.t < a2.tmps.size := by rw [← k12.er.1]; exact htl
            refine wp_defer_region h1 d1 g1 h2 d2 g2 hsz2 ?_
            have her3 : ER g2' (Safe g2' s2 w2) w2 (e2.set d.t (.fn d.f2 [e2.getD d.i undefA, e2.getD d.j undefA])) (a2.tmps.setIfInBounds d.t (.func (.func d.f2) #[] #[a2.eval (.tmp d.i), a2.eval (.tmp d.j)])) := by
              refine k12.er.put (some d.t) (VR.fn d.f2 _ #[a2.eval (.tmp d.i), a2.eval (.tmp d.j)] rfl (fun i c v hc hv => ?_))
              match i with
              | 0 =>
                simp only [List.getElem?_cons_zero, Option.some.injEq] at hc
                simp only [List.getElem?_toArray, List.getElem?_cons_zero, Option.some.injEq] at hv
                subst hc; subst hv
                exact k12.er.get d.i
              | 1 =>
                simp only [List.getElem?_cons_zero, List.getElem?_cons_succ, Option.some.injEq] at hc
                simp only [List.getElem?_toArray, List.getElem?_cons_zero, List.getElem?_cons_succ, Option.some.injEq] at hv
                subst hc; subst hv
                exact k12.er.get d.j
              | n + 2 => simp at hc
            show Code.wp P x4 _ _ w2
            refine code_wp hcal hq hm lf x4 d.p4 _ s2 ex e4 s4 g2' w2 _ c4 hr4 k12.sr her3 ((hcx2.ext k1.ext).ext k2.ext) _ (fun e a4 w4 g4 k4 => ?_)
            have hx := k4.ex
            have kext : Ext (cxAll st') g st' w g4 s4 w4 := by rw [← hcxe]; exact k12.ext.trans k4.ext
            have krsv : Rsv none none g st' g4 s4 := k12.rsv.trans k4.rsv
            have hd4 : a4.defers = [{ target := .fn (.func d.f2) #[a2.eval (.tmp d.i), a2.eval (.tmp d.j)], args := #[] }] := by rw [k4.defers, hd0]
            obtain ⟨u, r1, r2⟩ := results_ok (fn := fn) k4.sr k4.er n4 hvs
            have hend : Leaves P fn a4.tmps (fun e w' => ∃ g', SR g' st' w' ∧ Ext cx g st' w g' st' w' ∧ Rsv none none g st' g' st' ∧ EndR g' st' w' e (.ret v)) a4.defers .returning w4 := by
              rw [hd4]
              refine leaves_cons (f := d.f2) (args := #[a2.eval (.tmp d.i), a2.eval (.tmp d.j)]) (by simp) ?_ ?_
              · have := run_callFunc_ok (w := w4) (args := #[a2.eval (.tmp d.i), a2.eval (.tmp d.j)]) hen
                simpa [invoke] using this
              · refine (hcd _ _ w4).mono ?_
                rintro e u' w'' ⟨rfl, rfl, rfl⟩
                show Leaves P fn a4.tmps _ [] (settle .returning) w''
                exact ⟨u, r1, clean w.heap.size g, (hs.over kext).1.clean, quiet_ext hcx hs kext, ⟨fun i h _ => ⟨h, rfl⟩, fun i h _ => ⟨h, rfl⟩⟩, freeze_ok hs k4.sr kext krsv r2 hv⟩
            rcases hex with rfl | rfl
            · cases e with
              | normal => exact hend
              | _ => exact absurd hx (by simp [ExR])
            · cases e with
              | ret => exact hend
              | _ => exact absurd hx (by simp [ExR])
          | _ => exact absurd k2.ex (by simp [ExR])
        | _ => exact absurd k1.ex (by simp [ExR])
      · exact absurd h (by simp)
    · exact absurd h (by simp)
  · exact absurd h (by simp)
end
end Go.Rf

namespace Go.Rf
open Go.Proofs Go.RowKit
set_option maxRecDepth 100000
set_option linter.unusedVariables false
set_option linter.unusedSimpArgs false

/-- formula.Parse, its closure apart. -/
def d159 : DefFn where
  pf := ⟨31, .skip, [.cell true 5 2, .cell true 2 3], true⟩
  p1 := .region [[.d (.int .i64 0), .d (.str []), .d (.int .i64 0), .nilS, .d (.int .i64 0)], [.d (.int .i64 0), .d (.int .i64 0)]] [] [⟨(some 2), none, .alloc 0, none⟩, ⟨(some 3), none, .alloc 1, none⟩] false
  p2 := .seq (.region [] [] [⟨(some 5), none, .mv (.t 0), none⟩, ⟨(some 6), none, .lenL (.t 5), none⟩, ⟨(some 7), none, .bin .gtr (.t 6) (.c (.d (.int .i64 256))), none⟩] false) (.cond (.t 7) (.seq (.region [] [] [⟨(some 8), none, .build [.d (.int .i64 0), .d (.str []), .d (.int .i64 0), .nilS, .d (.int .i64 0)] [], none⟩, ⟨(some 9), none, .mv (.t 0), none⟩, ⟨(some 10), none, .idxA 4 (.t 9) (.c (.d (.int .i64 256))), none⟩, ⟨(some 11), none, .fldA 3 (.t 10), none⟩, ⟨(some 12), none, .load false 1 (.t 11), some (0, 7)⟩, ⟨(some 13), none, .build [.d (.int .i64 0), .d (.int .i64 0)] [(0, 1, .c (.d (.int .i64 6))), (1, 1, .t 12)], none⟩, ⟨none, none, .store 5 (.t 2) (.t 8), none⟩, ⟨none, none, .store 2 (.t 3) (.t 13), none⟩] true) .ret) .skip)
  p4 := .seq (.region [] [] [⟨(some 15), none, .mv (.t 0), none⟩, ⟨(some 16), none, .build [.nilS, .d (.int .i64 0), .d (.int .i64 0)] [(0, 1, .t 15)], none⟩, ⟨(some 17), none, .box (.t 16), none⟩, ⟨(some 4), none, .mv (.t 17), none⟩] false) (.seq (.region [] [] [⟨(some 18), none, .mv (.t 4), none⟩, ⟨(some 19), none, .call 218 [.t 18], none⟩, ⟨none, none, .store 5 (.t 2) (.t 19), none⟩] false) (.seq (.seq (.region [] [] [⟨(some 20), none, .mv (.t 4), none⟩, ⟨(some 21), none, .nilchk (.t 20), none⟩, ⟨(some 22), none, .fldA 1 (.t 21), none⟩, ⟨(some 23), none, .load false 1 (.t 22), none⟩, ⟨(some 24), none, .mv (.t 0), none⟩, ⟨(some 25), none, .lenL (.t 24), none⟩, ⟨(some 26), none, .bin .lss (.t 23) (.t 25), none⟩] false) (.cond (.t 26) (.region [] [] [⟨(some 27), none, .mv (.t 4), none⟩, ⟨(some 28), none, .call 219 [.t 27, .c (.d (.int .i64 2))], none⟩] false) .skip)) (.seq (.region [] [] [⟨(some 29), none, .load true 5 (.t 2), none⟩, ⟨(some 30), none, .build [.d (.int .i64 0), .d (.int .i64 0)] [], none⟩, ⟨none, none, .store 5 (.t 2) (.t 29), none⟩, ⟨none, none, .store 2 (.t 3) (.t 30), none⟩] false) .ret)))
  t := 14
  i := 2
  j := 3
  f2 := 217

def codeL : Code → Code
  | .seq a _ => a
  | c => c
def codeR : Code → Code
  | .seq _ b => b
  | c => c
def bodyOf (f : Func) : Code := f.body.getD .skip
def o159a : Oper := { dst := some 14, op := .makeFunc (.func 217) #[] #[.tmp 2, .tmp 3], type := 1, pos := "formula.go:35", after := #[], guard := none }
def o159b : Oper := { dst := none, op := .defer { callee := .value (.tmp 14), args := #[], argTypes := #[] }, type := 0, pos := "formula.go:35", after := #[{ on := 0, ground := .data }], guard := none }
theorem body159 : Tryz.f159.body = some (.seq (codeL (bodyOf Tryz.f159)) (.seq (codeL (codeR (bodyOf Tryz.f159))) (.seq (.region 3 #[o159a, o159b] false) (codeR (codeR (codeR (bodyOf Tryz.f159))))))) := by kernel_rfl
theorem ck159a : ckCode Tryz.prog loud (codeL (bodyOf Tryz.f159)) d159.p1 = true := by kernel_rfl
theorem ck159b : ckCode Tryz.prog loud (codeL (codeR (bodyOf Tryz.f159))) d159.p2 = true := by kernel_rfl
theorem ck159c : ckCode Tryz.prog loud (codeR (codeR (codeR (bodyOf Tryz.f159)))) d159.p4 = true := by kernel_rfl
theorem mixedT : Tryz.prog.follows .mixedOrders = true := by kernel_rfl
theorem parse_ok {callee : Callee} (hcal : CalleeOk Tryz.prog callee) (hq : QuietOk callee loud) (lf : Nat) {cx : Cx} {args : List AV} {st st' : St} {out : Out} (h : runDef callee lf d159 args cx st = some (out, st')) :
    st' = st ∧ ∀ g w vs, SR g st w → CxOk cx st → ArgsR g (Safe g st w) w args vs → CallR Tryz.prog cx g st w 159 vs out st' :=
  def_ok hcal hq mixedT lf (fn := Tryz.f159) Tryz.func159 body159 rfl rfl rfl rfl rfl rfl (by kernel_rfl) Tryz.catch_idle (by kernel_rfl) (by kernel_rfl) ck159a ck159b ck159c h
end Go.Rf

namespace Go.Rf
open Go.Proofs Go.RowKit
set_option maxRecDepth 100000
set_option linter.unusedVariables false
set_option linter.unusedSimpArgs false

noncomputable def idxB (c : Nat) (l : List Nat) : Nat → Option Nat := List.rec (fun _ => none) (fun a _ ih i => ite2 (Nat.beq a c) (some i) (ih (Nat.add i 1))) l
noncomputable def g293 : List AV → Cx → St → Option (Out × St)
  | [.d (.str l), .d (.int .u8 (.ofNat c))], _, st => ite2 (Nat.blt c 256) (match idxB c l 0 with
    | some i => fNat i fun i => some (.ret (.d (.int .i64 (.ofNat i))), st)
    | none => some (.ret (.d (.int .i64 (.negSucc 0))), st)) none
  | _, _, _ => none
noncomputable def g279 : List AV → Cx → St → Option (Out × St)
  | [.d (.str l), .d (.int .i64 (.ofNat 10)), .d (.int .i64 (.ofNat 64))], _, st => match Lib.parseIntB 64 (l.map UInt8.ofNat) with
    | .ok v => fInt v fun v => ite2 (Nat.ble l.length 1000) (some (.ret (.tup [.d (.int .i64 v), .d .nilI]), st)) none
    | _ => none
  | _, _, _ => none
def sDif : List Nat := [100, 105, 102, 102, 105, 99, 117, 108, 116, 121]
def sPen : List Nat := [112, 101, 110, 97, 108, 116, 105, 101, 115]
def sGoe : List Nat := [103, 111, 101]
noncomputable def g60 : List AV → Cx → St → Option (Out × St)
  | [v], _, st => match v.rows with
    | some [[.str a], [.str b], [.str c]] => ite2 (ite2 (beqN a sDif) (ite2 (beqN b sPen) (beqN c sGoe) false) false) (some (.ret (.d (.sl [[.str sDif], [.str sGoe], [.str sPen]])), st)) none
    | _ => none
  | _, _, _ => none
noncomputable def giv1 : Nat → Option (List AV → Cx → St → Option (Out × St))
  | 293 => some g293
  | 279 => some g279
  | 60 => some g60
  | _ => none

theorem idxB_eq (c : UInt8) : ∀ (l : List UInt8) (i : Nat), (match idxB c.toNat (l.map UInt8.toNat) i with | some j => (j : Int) - i | none => -1) = Lib.indexByte l c ∧ ∀ j, idxB c.toNat (l.map UInt8.toNat) i = some j → i ≤ j
  | [], i => ⟨rfl, fun j h => by cases h⟩
  | a :: r, i => by
    have hdef : idxB c.toNat ((a :: r).map UInt8.toNat) i = ite2 (Nat.beq a.toNat c.toNat) (some i) (idxB c.toNat (r.map UInt8.toNat) (i + 1)) := rfl
    rw [hdef]
    obtain ⟨ih1, ih2⟩ := idxB_eq c r (i + 1)
    by_cases h : a = c
    · subst h
      have : Nat.beq a.toNat a.toNat = true := by rw [Nat.beq_eq]
      rw [this, ite2_t]
      exact ⟨by simp [Lib.indexByte], fun j hj => by injection hj with hj; omega⟩
    · have : Nat.beq a.toNat c.toNat = false := by
        rw [Bool.eq_false_iff]
        intro hh
        rw [Nat.beq_eq] at hh
        exact h (UInt8.toNat_inj.1 hh)
      rw [this, ite2_f]
      refine ⟨?_, fun j hj => by have := ih2 j hj; omega⟩
      simp only [Lib.indexByte]
      rw [if_neg (by simpa using h), ← ih1]
      cases hx : idxB c.toNat (r.map UInt8.toNat) (i + 1) with
      | none => simp
      | some j =>
        have := ih2 j hx
        simp only
        rw [if_neg (by simp; omega)]
        omega
theorem map_ofNat (l : List UInt8) : (l.map UInt8.toNat).map UInt8.ofNat = l := by
  rw [List.map_map]
  conv => rhs; rw [← List.map_id l]
  refine List.map_congr_left fun a _ => ?_
  simp

theorem giv293 {args : List AV} {cx : Cx} {st st' : St} {o : Out} (h : g293 args cx st = some (o, st')) : st' = st ∧ ∀ g w vs, SR g st w → CxOk cx st → ArgsR g (Safe g st w) w args vs → CallR Tryz.prog cx g st w 293 vs o st' := by
  unfold g293 at h
  split at h
  · rename_i l c
    cases hc : Nat.blt c 256 with
    | false => rw [hc, ite2_f] at h; exact absurd h (by simp)
    | true =>
      rw [hc, ite2_t] at h
      have hc := blt_lt hc
      have key : ∃ v : Int, (o, st') = (Out.ret (.d (.int .i64 v)), st) ∧ v = match idxB c l 0 with | some i => (i : Int) | none => -1 := by
        cases hx : idxB c l 0 with
        | some i => rw [hx] at h; simp only [fNat_eq, Option.some.injEq] at h; exact ⟨_, h.symm, rfl⟩
        | none => rw [hx] at h; simp only [Option.some.injEq] at h; exact ⟨_, h.symm, rfl⟩
      obtain ⟨v, he, hv⟩ := key
      simp only [Prod.mk.injEq] at he
      obtain ⟨rfl, rfl⟩ := he
      refine ⟨rfl, fun g w vs hs hcx ha => ?_⟩
      obtain ⟨u1, u2, rfl, h1, h2⟩ := args2 ha
      obtain ⟨s, rfl, hsl⟩ := vr_str h1
      obtain rfl := vr_int h2
      refine callR_below hs hcx ((Tryz.stringslite_IndexByte s (Int.ofNat c) w).mono fun e w' ⟨he, hw⟩ => ?_)
      subst he; subst hw
      refine ⟨Below.refl _ _, _, rfl, fun g' hg' => ?_⟩
      have : Lib.indexByte s.data.toList (Int.ofNat c).toNat.toUInt8 = v := by
        rw [hv, ← hsl]
        have hct : ((Int.ofNat c).toNat.toUInt8).toNat = c := by simp; omega
        have := (idxB_eq ((Int.ofNat c).toNat.toUInt8) s.data.toList 0).1
        rw [hct] at this
        rw [← this]
        cases idxB c (s.data.toList.map UInt8.toNat) 0 <;> simp
      rw [this]
      exact .d _ _ (.int _ _)
  · exact absurd h (by simp)

theorem giv279 {args : List AV} {cx : Cx} {st st' : St} {o : Out} (h : g279 args cx st = some (o, st')) : st' = st ∧ ∀ g w vs, SR g st w → CxOk cx st → ArgsR g (Safe g st w) w args vs → CallR Tryz.prog cx g st w 279 vs o st' := by
  unfold g279 at h
  split at h
  · rename_i l
    split at h
    · rename_i v hv
      rw [fInt_eq] at h
      cases hc : Nat.ble l.length 1000 with
      | false => rw [hc, ite2_f] at h; exact absurd h (by simp)
      | true =>
        rw [hc, ite2_t] at h
        simp only [Option.some.injEq, Prod.mk.injEq] at h
        obtain ⟨rfl, rfl⟩ := h
        refine ⟨rfl, fun g w vs hs hcx ha => ?_⟩
        obtain ⟨u1, u2, u3, rfl, h1, h2, h3⟩ := args3 ha
        obtain ⟨s, rfl, hsl⟩ := vr_str h1
        obtain rfl := vr_int h2
        obtain rfl := vr_int h3
        have hl := Nat.ble_eq.mp hc
        have hlen : s.size ≤ 9223372036854775806 := by
          have : s.size = l.length := by rw [← hsl]; simp
          omega
        rw [← hsl, map_ofNat] at hv
        refine callR_below hs hcx ((Tryz.strconv_ParseInt_10_at64_ok s hlen v hv w).mono fun e w' ⟨he, hw⟩ => ?_)
        subst he
        have hb : Below w.heap.size w w' := by
          rcases hw with rfl | ⟨t, rfl⟩
          · exact Below.refl _ _
          · exact Lib.bytesWorld_below _ _ _
        refine ⟨hb, _, rfl, fun g' hg' => .tup _ _ rfl fun i c u hc hu => ?_⟩
        match i with
        | 0 => simp only [List.getElem?_cons_zero, Option.some.injEq] at hc; simp only [List.getElem?_toArray, List.getElem?_cons_zero, Option.some.injEq] at hu; subst hc; subst hu; exact .d _ _ (.int _ _)
        | 1 => simp only [List.getElem?_cons_zero, List.getElem?_cons_succ, Option.some.injEq] at hc; simp only [List.getElem?_toArray, List.getElem?_cons_zero, List.getElem?_cons_succ, Option.some.injEq] at hu; subst hc; subst hu; exact .d _ _ .nilI
        | n + 2 => simp at hc
    · exact absurd h (by simp)
  · exact absurd h (by simp)

def bDif : List UInt8 := [100, 105, 102, 102, 105, 99, 117, 108, 116, 121]
def bPen : List UInt8 := [112, 101, 110, 97, 108, 116, 105, 101, 115]
def bGoe : List UInt8 := [103, 111, 101]
theorem sorted3 : Lib.compact (([bDif, bPen, bGoe] : List (List UInt8)).mergeSort fun x y => decide (x ≤ y)) = [bDif, bGoe, bPen] := by
  have e : ([bDif, bPen, bGoe] : List (List UInt8)).mergeSort (fun x y => decide (x ≤ y)) = [bDif, bGoe, bPen] := by
    have hp : (([bDif, bPen, bGoe] : List (List UInt8)).mergeSort fun x y => decide (x ≤ y)).Perm [bDif, bGoe, bPen] :=
      (List.mergeSort_perm _ _).trans (by decide)
    have hs : (([bDif, bPen, bGoe] : List (List UInt8)).mergeSort fun x y => decide (x ≤ y)).Pairwise (fun x y => decide (x ≤ y) = true) :=
      List.pairwise_mergeSort (fun a b c h1 h2 => by simp only [decide_eq_true_eq] at *; exact List.le_trans h1 h2) (fun a b => by simp only [Bool.or_eq_true, decide_eq_true_eq]; exact List.le_total a b) _
    have ht : ([bDif, bGoe, bPen] : List (List UInt8)).Pairwise (fun x y => decide (x ≤ y) = true) := by decide
    exact hp.eq_of_pairwise (fun a b _ _ h1 h2 => by simp only [decide_eq_true_eq] at *; exact List.le_antisymm h1 h2) hs ht
  rw [e]
  decide +kernel

theorem map_toNat_inj {a b : List UInt8} (h : a.map UInt8.toNat = b.map UInt8.toNat) : a = b := by
  have := congrArg (List.map UInt8.ofNat) h
  rwa [map_ofNat, map_ofNat] at this
theorem dr_str {S : Nat → Nat → Prop} {w : World} {l : List Nat} {v : Value} (h : DR S w (.str l) v) : ∃ s : ByteArray, v = .string s ∧ s.data.toList.map UInt8.toNat = l := by
  cases h with | str _ s e => exact ⟨s, rfl, e⟩
theorem beqN_eq' {a b : List Nat} (h : beqN a b = true) : a = b := by
  induction a generalizing b with
  | nil => cases b with
    | nil => rfl
    | cons => simp [beqN] at h
  | cons x a ih => cases b with
    | nil => simp [beqN] at h
    | cons y b =>
      simp only [beqN, Bool.and_eq_true] at h
      rw [Nat.eq_of_beq_eq_true h.1, ih h.2]

theorem giv60 {args : List AV} {cx : Cx} {st st' : St} {o : Out} (h : g60 args cx st = some (o, st')) : st' = st ∧ ∀ g w vs, SR g st w → CxOk cx st → ArgsR g (Safe g st w) w args vs → CallR Tryz.prog cx g st w 60 vs o st' := by
  unfold g60 at h
  split at h
  · rename_i v
    split at h
    · rename_i a b c hrows
      cases ha : beqN a sDif with
      | false => rw [ha] at h; simp only [ite2_f] at h; exact absurd h (by simp)
      | true =>
      cases hb : beqN b sPen with
      | false => rw [ha, hb] at h; simp only [ite2_f, ite2_t] at h; exact absurd h (by simp)
      | true =>
      cases hc : beqN c sGoe with
      | false => rw [ha, hb, hc] at h; simp only [ite2_f, ite2_t] at h; exact absurd h (by simp)
      | true =>
      rw [ha, hb, hc] at h
      simp only [ite2_t, Option.some.injEq, Prod.mk.injEq] at h
      obtain ⟨rfl, rfl⟩ := h
      obtain rfl := beqN_eq' ha
      obtain rfl := beqN_eq' hb
      obtain rfl := beqN_eq' hc
      refine ⟨rfl, fun g w vs hs hcx hargs => ?_⟩
      obtain ⟨u, rfl, hu⟩ := args1 hargs
      have hd := vr_rows hu hrows
      cases hd with
      | sl _ b off cap sz vals hcap h1 h2 h3 =>
        have hsz : sz = 1 := (h1 [.str sDif] (by simp)).symm
        subst hsz
        obtain ⟨s0, e0, f0⟩ := dr_str (h3 0 [.str sDif] 0 (.str sDif) rfl rfl)
        obtain ⟨s1, e1, f1⟩ := dr_str (h3 1 [.str sPen] 0 (.str sPen) rfl rfl)
        obtain ⟨s2, e2, f2⟩ := dr_str (h3 2 [.str sGoe] 0 (.str sGoe) rfl rfl)
        have c0 := (h2 0 [.str sDif] 0 (.str sDif) rfl rfl).1
        have c1 := (h2 1 [.str sPen] 0 (.str sPen) rfl rfl).1
        have c2 := (h2 2 [.str sGoe] 0 (.str sGoe) rfl rfl).1
        rw [e0] at c0; rw [e1] at c1; rw [e2] at c2
        have q0 : s0.data.toList = bDif := map_toNat_inj f0
        have q1 : s1.data.toList = bPen := map_toNat_inj f1
        have q2 : s2.data.toList = bGoe := map_toNat_inj f2
        have hcall := Tryz.set_any b off 3 cap [s0, s1, s2] w (Nat.le_refl _) (by omega) (fun j hj => by
          match j, hj with
          | 0, _ => simpa [cellA] using c0
          | 1, _ => simpa [cellA] using c1
          | 2, _ => simpa [cellA] using c2)
        have hss : (([s0, s1, s2] : List ByteArray).take 3).map (·.data.toList) = [bDif, bPen, bGoe] := by
          simp [q0, q1, q2]
        rw [hss] at hcall
        refine callR_below hs hcx (hcall.mono fun e w' ⟨gb, cp, he, hown, hbel⟩ => ⟨hbel, _, he, fun g' hg' => ?_⟩)
        rw [sorted3] at hown ⊢
        rcases hown.2 with ⟨h0, _⟩ | ⟨gb', cap', cur, hv, hbase, hblk, hn, hm, hsz, htk⟩
        · cases h0
        · cases hv
          have hcells : ∀ j x, ([bDif, bGoe, bPen].map encStr)[j]? = some x → cellA w' gb (0 + j * 1 + 0) = some x := by
            intro j x hx
            rw [← htk] at hx
            rw [List.getElem?_take] at hx
            split at hx
            · simp only [cellA, World.cell?, hblk]
              simpa using hx
            · exact absurd hx (by simp)
          have hblt : gb < w'.heap.size := by
            rcases Nat.lt_or_ge gb w'.heap.size with h' | h'
            · exact h'
            · rw [Array.getElem?_eq_none h'] at hblk; cases hblk
          have hsafe : ∀ o, Safe g' st w' gb o := fun o => ⟨hblt, .inl (hg' gb hbase)⟩
          refine .d _ _ (.sl _ gb 0 cp 1 (fun j _ => ([bDif, bGoe, bPen].map encStr).getD j default) hn (by simp) (fun j r i c hj hi => ?_) (fun j r i c hj hi => ?_))
          · match j with
            | 0 => simp only [List.getElem?_cons_zero, Option.some.injEq] at hj; subst hj; cases i with
              | zero => simp only [List.getElem?_cons_zero, Option.some.injEq] at hi; subst hi; exact ⟨hcells 0 _ rfl, hsafe _, rfl⟩
              | succ i => simp at hi
            | 1 => simp only [List.getElem?_cons_zero, List.getElem?_cons_succ, Option.some.injEq] at hj; subst hj; cases i with
              | zero => simp only [List.getElem?_cons_zero, Option.some.injEq] at hi; subst hi; exact ⟨hcells 1 _ rfl, hsafe _, rfl⟩
              | succ i => simp at hi
            | 2 => simp only [List.getElem?_cons_zero, List.getElem?_cons_succ, Option.some.injEq] at hj; subst hj; cases i with
              | zero => simp only [List.getElem?_cons_zero, Option.some.injEq] at hi; subst hi; exact ⟨hcells 2 _ rfl, hsafe _, rfl⟩
              | succ i => simp at hi
            | n + 3 => simp at hj
          · match j with
            | 0 => simp only [List.getElem?_cons_zero, Option.some.injEq] at hj; subst hj; cases i with
              | zero => simp only [List.getElem?_cons_zero, Option.some.injEq] at hi; subst hi; exact .str _ ⟨bDif.toArray⟩ rfl
              | succ i => simp at hi
            | 1 => simp only [List.getElem?_cons_zero, List.getElem?_cons_succ, Option.some.injEq] at hj; subst hj; cases i with
              | zero => simp only [List.getElem?_cons_zero, Option.some.injEq] at hi; subst hi; exact .str _ ⟨bGoe.toArray⟩ rfl
              | succ i => simp at hi
            | 2 => simp only [List.getElem?_cons_zero, List.getElem?_cons_succ, Option.some.injEq] at hj; subst hj; cases i with
              | zero => simp only [List.getElem?_cons_zero, Option.some.injEq] at hi; subst hi; exact .str _ ⟨bPen.toArray⟩ rfl
              | succ i => simp at hi
            | n + 3 => simp at hj
    · exact absurd h (by simp)
  · exact absurd h (by simp)

theorem giv1_ok : GivOk Tryz.prog loud giv1 := by
  intro f gf hf args cx st o st' h
  unfold giv1 at hf
  split at hf
  · injection hf with hf; subst hf
    exact ⟨by kernel_rfl, fun _ => (giv293 h).1, (giv293 h).2⟩
  · injection hf with hf; subst hf
    exact ⟨by kernel_rfl, fun _ => (giv279 h).1, (giv279 h).2⟩
  · injection hf with hf; subst hf
    exact ⟨by kernel_rfl, fun _ => (giv60 h).1, (giv60 h).2⟩
  · exact absurd hf (by simp)
end Go.Rf
