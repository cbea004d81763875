/- The printed terms are the loaded functions. -/
import Derived.Test.YtpenabnichgidaaGreatDoorTb
import Derived.Test.YtpenabnichgidaaGreatDoorProg
import Derived.KernelRfl
namespace Go.Rf
open Go.Proofs
set_option maxRecDepth 100000
theorem ck5 : ckFn Tryz.prog loud 5 pf5 = true := by kernel_rfl
theorem ck6 : ckFn Tryz.prog loud 6 pf6 = true := by kernel_rfl
theorem ck11 : ckFn Tryz.prog loud 11 pf11 = true := by kernel_rfl
theorem ck15 : ckFn Tryz.prog loud 15 pf15 = true := by kernel_rfl
theorem ck18 : ckFn Tryz.prog loud 18 pf18 = true := by kernel_rfl
theorem ck19 : ckFn Tryz.prog loud 19 pf19 = true := by kernel_rfl
theorem ck20 : ckFn Tryz.prog loud 20 pf20 = true := by kernel_rfl
theorem ck21 : ckFn Tryz.prog loud 21 pf21 = true := by kernel_rfl
theorem ck22 : ckFn Tryz.prog loud 22 pf22 = true := by kernel_rfl
theorem ck28 : ckFn Tryz.prog loud 28 pf28 = true := by kernel_rfl
theorem ck36 : ckFn Tryz.prog loud 36 pf36 = true := by kernel_rfl
theorem ck42 : ckFn Tryz.prog loud 42 pf42 = true := by kernel_rfl
theorem ck43 : ckFn Tryz.prog loud 43 pf43 = true := by kernel_rfl
theorem ck44 : ckFn Tryz.prog loud 44 pf44 = true := by kernel_rfl
theorem ck45 : ckFn Tryz.prog loud 45 pf45 = true := by kernel_rfl
theorem ck46 : ckFn Tryz.prog loud 46 pf46 = true := by kernel_rfl
theorem ck47 : ckFn Tryz.prog loud 47 pf47 = true := by kernel_rfl
theorem ck48 : ckFn Tryz.prog loud 48 pf48 = true := by kernel_rfl
theorem ck49 : ckFn Tryz.prog loud 49 pf49 = true := by kernel_rfl
theorem ck50 : ckFn Tryz.prog loud 50 pf50 = true := by kernel_rfl
theorem ck51 : ckFn Tryz.prog loud 51 pf51 = true := by kernel_rfl
theorem ck58 : ckFn Tryz.prog loud 58 pf58 = true := by kernel_rfl
theorem ck67 : ckFn Tryz.prog loud 67 pf67 = true := by kernel_rfl
theorem ck75 : ckFn Tryz.prog loud 75 pf75 = true := by kernel_rfl
theorem ck84 : ckFn Tryz.prog loud 84 pf84 = true := by kernel_rfl
theorem ck91 : ckFn Tryz.prog loud 91 pf91 = true := by kernel_rfl
theorem ck92 : ckFn Tryz.prog loud 92 pf92 = true := by kernel_rfl
theorem ck93 : ckFn Tryz.prog loud 93 pf93 = true := by kernel_rfl
theorem ck94 : ckFn Tryz.prog loud 94 pf94 = true := by kernel_rfl
theorem ck95 : ckFn Tryz.prog loud 95 pf95 = true := by kernel_rfl
theorem ck96 : ckFn Tryz.prog loud 96 pf96 = true := by kernel_rfl
theorem ck97 : ckFn Tryz.prog loud 97 pf97 = true := by kernel_rfl
theorem ck98 : ckFn Tryz.prog loud 98 pf98 = true := by kernel_rfl
theorem ck99 : ckFn Tryz.prog loud 99 pf99 = true := by kernel_rfl
theorem ck100 : ckFn Tryz.prog loud 100 pf100 = true := by kernel_rfl
theorem ck101 : ckFn Tryz.prog loud 101 pf101 = true := by kernel_rfl
theorem ck102 : ckFn Tryz.prog loud 102 pf102 = true := by kernel_rfl
theorem ck103 : ckFn Tryz.prog loud 103 pf103 = true := by kernel_rfl
theorem ck104 : ckFn Tryz.prog loud 104 pf104 = true := by kernel_rfl
theorem ck105 : ckFn Tryz.prog loud 105 pf105 = true := by kernel_rfl
theorem ck106 : ckFn Tryz.prog loud 106 pf106 = true := by kernel_rfl
theorem ck107 : ckFn Tryz.prog loud 107 pf107 = true := by kernel_rfl
theorem ck108 : ckFn Tryz.prog loud 108 pf108 = true := by kernel_rfl
theorem ck109 : ckFn Tryz.prog loud 109 pf109 = true := by kernel_rfl
theorem ck110 : ckFn Tryz.prog loud 110 pf110 = true := by kernel_rfl
theorem ck129 : ckFn Tryz.prog loud 129 pf129 = true := by kernel_rfl
theorem ck131 : ckFn Tryz.prog loud 131 pf131 = true := by kernel_rfl
theorem ck136 : ckFn Tryz.prog loud 136 pf136 = true := by kernel_rfl
theorem ck139 : ckFn Tryz.prog loud 139 pf139 = true := by kernel_rfl
theorem ck140 : ckFn Tryz.prog loud 140 pf140 = true := by kernel_rfl
theorem ck141 : ckFn Tryz.prog loud 141 pf141 = true := by kernel_rfl
theorem ck142 : ckFn Tryz.prog loud 142 pf142 = true := by kernel_rfl
theorem ck151 : ckFn Tryz.prog loud 151 pf151 = true := by kernel_rfl
theorem ck152 : ckFn Tryz.prog loud 152 pf152 = true := by kernel_rfl
theorem ck153 : ckFn Tryz.prog loud 153 pf153 = true := by kernel_rfl
theorem ck154 : ckFn Tryz.prog loud 154 pf154 = true := by kernel_rfl
theorem ck155 : ckFn Tryz.prog loud 155 pf155 = true := by kernel_rfl
theorem ck156 : ckFn Tryz.prog loud 156 pf156 = true := by kernel_rfl
theorem ck157 : ckFn Tryz.prog loud 157 pf157 = true := by kernel_rfl
theorem ck158 : ckFn Tryz.prog loud 158 pf158 = true := by kernel_rfl
theorem ck160 : ckFn Tryz.prog loud 160 pf160 = true := by kernel_rfl
theorem ck161 : ckFn Tryz.prog loud 161 pf161 = true := by kernel_rfl
theorem ck169 : ckFn Tryz.prog loud 169 pf169 = true := by kernel_rfl
theorem ck170 : ckFn Tryz.prog loud 170 pf170 = true := by kernel_rfl
theorem ck171 : ckFn Tryz.prog loud 171 pf171 = true := by kernel_rfl
theorem ck179 : ckFn Tryz.prog loud 179 pf179 = true := by kernel_rfl
theorem ck200 : ckFn Tryz.prog loud 200 pf200 = true := by kernel_rfl
theorem ck202 : ckFn Tryz.prog loud 202 pf202 = true := by kernel_rfl
theorem ck203 : ckFn Tryz.prog loud 203 pf203 = true := by kernel_rfl
theorem ck204 : ckFn Tryz.prog loud 204 pf204 = true := by kernel_rfl
theorem ck205 : ckFn Tryz.prog loud 205 pf205 = true := by kernel_rfl
theorem ck206 : ckFn Tryz.prog loud 206 pf206 = true := by kernel_rfl
theorem ck209 : ckFn Tryz.prog loud 209 pf209 = true := by kernel_rfl
theorem ck216 : ckFn Tryz.prog loud 216 pf216 = true := by kernel_rfl
theorem ck218 : ckFn Tryz.prog loud 218 pf218 = true := by kernel_rfl
theorem ck219 : ckFn Tryz.prog loud 219 pf219 = true := by kernel_rfl
theorem ck249 : ckFn Tryz.prog loud 249 pf249 = true := by kernel_rfl
theorem ck252 : ckFn Tryz.prog loud 252 pf252 = true := by kernel_rfl
theorem ck253 : ckFn Tryz.prog loud 253 pf253 = true := by kernel_rfl
theorem ck254 : ckFn Tryz.prog loud 254 pf254 = true := by kernel_rfl
theorem ck259 : ckFn Tryz.prog loud 259 pf259 = true := by kernel_rfl
theorem ck260 : ckFn Tryz.prog loud 260 pf260 = true := by kernel_rfl
theorem ck278 : ckFn Tryz.prog loud 278 pf278 = true := by kernel_rfl
theorem ck280 : ckFn Tryz.prog loud 280 pf280 = true := by kernel_rfl
theorem ck282 : ckFn Tryz.prog loud 282 pf282 = true := by kernel_rfl
theorem ck283 : ckFn Tryz.prog loud 283 pf283 = true := by kernel_rfl
theorem ck284 : ckFn Tryz.prog loud 284 pf284 = true := by kernel_rfl
theorem ck290 : ckFn Tryz.prog loud 290 pf290 = true := by kernel_rfl
theorem ck298 : ckFn Tryz.prog loud 298 pf298 = true := by kernel_rfl
theorem ck299 : ckFn Tryz.prog loud 299 pf299 = true := by kernel_rfl
theorem ck307 : ckFn Tryz.prog loud 307 pf307 = true := by kernel_rfl
set_option maxHeartbeats 4000000 in
theorem ckTbl : ∀ f pf, tbl f = some pf → ckFn Tryz.prog loud f pf = true := by
  intro f pf h
  unfold tbl at h
  split at h
  · injection h with h; subst h; exact ck5
  · injection h with h; subst h; exact ck6
  · injection h with h; subst h; exact ck11
  · injection h with h; subst h; exact ck15
  · injection h with h; subst h; exact ck18
  · injection h with h; subst h; exact ck19
  · injection h with h; subst h; exact ck20
  · injection h with h; subst h; exact ck21
  · injection h with h; subst h; exact ck22
  · injection h with h; subst h; exact ck28
  · injection h with h; subst h; exact ck36
  · injection h with h; subst h; exact ck42
  · injection h with h; subst h; exact ck43
  · injection h with h; subst h; exact ck44
  · injection h with h; subst h; exact ck45
  · injection h with h; subst h; exact ck46
  · injection h with h; subst h; exact ck47
  · injection h with h; subst h; exact ck48
  · injection h with h; subst h; exact ck49
  · injection h with h; subst h; exact ck50
  · injection h with h; subst h; exact ck51
  · injection h with h; subst h; exact ck58
  · injection h with h; subst h; exact ck67
  · injection h with h; subst h; exact ck75
  · injection h with h; subst h; exact ck84
  · injection h with h; subst h; exact ck91
  · injection h with h; subst h; exact ck92
  · injection h with h; subst h; exact ck93
  · injection h with h; subst h; exact ck94
  · injection h with h; subst h; exact ck95
  · injection h with h; subst h; exact ck96
  · injection h with h; subst h; exact ck97
  · injection h with h; subst h; exact ck98
  · injection h with h; subst h; exact ck99
  · injection h with h; subst h; exact ck100
  · injection h with h; subst h; exact ck101
  · injection h with h; subst h; exact ck102
  · injection h with h; subst h; exact ck103
  · injection h with h; subst h; exact ck104
  · injection h with h; subst h; exact ck105
  · injection h with h; subst h; exact ck106
  · injection h with h; subst h; exact ck107
  · injection h with h; subst h; exact ck108
  · injection h with h; subst h; exact ck109
  · injection h with h; subst h; exact ck110
  · injection h with h; subst h; exact ck129
  · injection h with h; subst h; exact ck131
  · injection h with h; subst h; exact ck136
  · injection h with h; subst h; exact ck139
  · injection h with h; subst h; exact ck140
  · injection h with h; subst h; exact ck141
  · injection h with h; subst h; exact ck142
  · injection h with h; subst h; exact ck151
  · injection h with h; subst h; exact ck152
  · injection h with h; subst h; exact ck153
  · injection h with h; subst h; exact ck154
  · injection h with h; subst h; exact ck155
  · injection h with h; subst h; exact ck156
  · injection h with h; subst h; exact ck157
  · injection h with h; subst h; exact ck158
  · injection h with h; subst h; exact ck160
  · injection h with h; subst h; exact ck161
  · injection h with h; subst h; exact ck169
  · injection h with h; subst h; exact ck170
  · injection h with h; subst h; exact ck171
  · injection h with h; subst h; exact ck179
  · injection h with h; subst h; exact ck200
  · injection h with h; subst h; exact ck202
  · injection h with h; subst h; exact ck203
  · injection h with h; subst h; exact ck204
  · injection h with h; subst h; exact ck205
  · injection h with h; subst h; exact ck206
  · injection h with h; subst h; exact ck209
  · injection h with h; subst h; exact ck216
  · injection h with h; subst h; exact ck218
  · injection h with h; subst h; exact ck219
  · injection h with h; subst h; exact ck249
  · injection h with h; subst h; exact ck252
  · injection h with h; subst h; exact ck253
  · injection h with h; subst h; exact ck254
  · injection h with h; subst h; exact ck259
  · injection h with h; subst h; exact ck260
  · injection h with h; subst h; exact ck278
  · injection h with h; subst h; exact ck280
  · injection h with h; subst h; exact ck282
  · injection h with h; subst h; exact ck283
  · injection h with h; subst h; exact ck284
  · injection h with h; subst h; exact ck290
  · injection h with h; subst h; exact ck298
  · injection h with h; subst h; exact ck299
  · injection h with h; subst h; exact ck307
  · exact absurd h (by simp)
end Go.Rf
