/- The printed terms are the loaded functions. -/
import Derived.Test.YtojhechepdlnhaaGreatDoorTb
import Derived.Test.YtojhechepdlnhaaGreatDoorProg
import Derived.KernelRfl
namespace Go.Rf
open Go.Proofs
set_option maxRecDepth 100000
theorem ck12 : ckFn Tryz.prog loud 12 pf12 = true := by kernel_rfl
theorem ck14 : ckFn Tryz.prog loud 14 pf14 = true := by kernel_rfl
theorem ck16 : ckFn Tryz.prog loud 16 pf16 = true := by kernel_rfl
theorem ck17 : ckFn Tryz.prog loud 17 pf17 = true := by kernel_rfl
theorem ck18 : ckFn Tryz.prog loud 18 pf18 = true := by kernel_rfl
theorem ck22 : ckFn Tryz.prog loud 22 pf22 = true := by kernel_rfl
theorem ck23 : ckFn Tryz.prog loud 23 pf23 = true := by kernel_rfl
theorem ck24 : ckFn Tryz.prog loud 24 pf24 = true := by kernel_rfl
theorem ck27 : ckFn Tryz.prog loud 27 pf27 = true := by kernel_rfl
theorem ck29 : ckFn Tryz.prog loud 29 pf29 = true := by kernel_rfl
theorem ck35 : ckFn Tryz.prog loud 35 pf35 = true := by kernel_rfl
theorem ck36 : ckFn Tryz.prog loud 36 pf36 = true := by kernel_rfl
theorem ck37 : ckFn Tryz.prog loud 37 pf37 = true := by kernel_rfl
theorem ck38 : ckFn Tryz.prog loud 38 pf38 = true := by kernel_rfl
theorem ck39 : ckFn Tryz.prog loud 39 pf39 = true := by kernel_rfl
theorem ck40 : ckFn Tryz.prog loud 40 pf40 = true := by kernel_rfl
theorem ck41 : ckFn Tryz.prog loud 41 pf41 = true := by kernel_rfl
theorem ck42 : ckFn Tryz.prog loud 42 pf42 = true := by kernel_rfl
theorem ck43 : ckFn Tryz.prog loud 43 pf43 = true := by kernel_rfl
theorem ck44 : ckFn Tryz.prog loud 44 pf44 = true := by kernel_rfl
theorem ck45 : ckFn Tryz.prog loud 45 pf45 = true := by kernel_rfl
theorem ck46 : ckFn Tryz.prog loud 46 pf46 = true := by kernel_rfl
theorem ck52 : ckFn Tryz.prog loud 52 pf52 = true := by kernel_rfl
theorem ck53 : ckFn Tryz.prog loud 53 pf53 = true := by kernel_rfl
theorem ck54 : ckFn Tryz.prog loud 54 pf54 = true := by kernel_rfl
theorem ck55 : ckFn Tryz.prog loud 55 pf55 = true := by kernel_rfl
theorem ck56 : ckFn Tryz.prog loud 56 pf56 = true := by kernel_rfl
theorem ck57 : ckFn Tryz.prog loud 57 pf57 = true := by kernel_rfl
theorem ck58 : ckFn Tryz.prog loud 58 pf58 = true := by kernel_rfl
theorem ck59 : ckFn Tryz.prog loud 59 pf59 = true := by kernel_rfl
theorem ck60 : ckFn Tryz.prog loud 60 pf60 = true := by kernel_rfl
theorem ck61 : ckFn Tryz.prog loud 61 pf61 = true := by kernel_rfl
theorem ck62 : ckFn Tryz.prog loud 62 pf62 = true := by kernel_rfl
theorem ck63 : ckFn Tryz.prog loud 63 pf63 = true := by kernel_rfl
theorem ck64 : ckFn Tryz.prog loud 64 pf64 = true := by kernel_rfl
theorem ck65 : ckFn Tryz.prog loud 65 pf65 = true := by kernel_rfl
theorem ck66 : ckFn Tryz.prog loud 66 pf66 = true := by kernel_rfl
theorem ck67 : ckFn Tryz.prog loud 67 pf67 = true := by kernel_rfl
theorem ck68 : ckFn Tryz.prog loud 68 pf68 = true := by kernel_rfl
theorem ck82 : ckFn Tryz.prog loud 82 pf82 = true := by kernel_rfl
theorem ck83 : ckFn Tryz.prog loud 83 pf83 = true := by kernel_rfl
theorem ck84 : ckFn Tryz.prog loud 84 pf84 = true := by kernel_rfl
theorem ck85 : ckFn Tryz.prog loud 85 pf85 = true := by kernel_rfl
theorem ck86 : ckFn Tryz.prog loud 86 pf86 = true := by kernel_rfl
theorem ck87 : ckFn Tryz.prog loud 87 pf87 = true := by kernel_rfl
theorem ck88 : ckFn Tryz.prog loud 88 pf88 = true := by kernel_rfl
theorem ck89 : ckFn Tryz.prog loud 89 pf89 = true := by kernel_rfl
theorem ck90 : ckFn Tryz.prog loud 90 pf90 = true := by kernel_rfl
theorem ck91 : ckFn Tryz.prog loud 91 pf91 = true := by kernel_rfl
theorem ck92 : ckFn Tryz.prog loud 92 pf92 = true := by kernel_rfl
theorem ck93 : ckFn Tryz.prog loud 93 pf93 = true := by kernel_rfl
theorem ck94 : ckFn Tryz.prog loud 94 pf94 = true := by kernel_rfl
theorem ck95 : ckFn Tryz.prog loud 95 pf95 = true := by kernel_rfl
theorem ck96 : ckFn Tryz.prog loud 96 pf96 = true := by kernel_rfl
theorem ck97 : ckFn Tryz.prog loud 97 pf97 = true := by kernel_rfl
theorem ck98 : ckFn Tryz.prog loud 98 pf98 = true := by kernel_rfl
theorem ck105 : ckFn Tryz.prog loud 105 pf105 = true := by kernel_rfl
theorem ck106 : ckFn Tryz.prog loud 106 pf106 = true := by kernel_rfl
theorem ck107 : ckFn Tryz.prog loud 107 pf107 = true := by kernel_rfl
theorem ck108 : ckFn Tryz.prog loud 108 pf108 = true := by kernel_rfl
theorem ck109 : ckFn Tryz.prog loud 109 pf109 = true := by kernel_rfl
theorem ck110 : ckFn Tryz.prog loud 110 pf110 = true := by kernel_rfl
theorem ck111 : ckFn Tryz.prog loud 111 pf111 = true := by kernel_rfl
theorem ck112 : ckFn Tryz.prog loud 112 pf112 = true := by kernel_rfl
theorem ck113 : ckFn Tryz.prog loud 113 pf113 = true := by kernel_rfl
theorem ck114 : ckFn Tryz.prog loud 114 pf114 = true := by kernel_rfl
theorem ck115 : ckFn Tryz.prog loud 115 pf115 = true := by kernel_rfl
theorem ck116 : ckFn Tryz.prog loud 116 pf116 = true := by kernel_rfl
theorem ck117 : ckFn Tryz.prog loud 117 pf117 = true := by kernel_rfl
theorem ck118 : ckFn Tryz.prog loud 118 pf118 = true := by kernel_rfl
theorem ck119 : ckFn Tryz.prog loud 119 pf119 = true := by kernel_rfl
theorem ck120 : ckFn Tryz.prog loud 120 pf120 = true := by kernel_rfl
theorem ck129 : ckFn Tryz.prog loud 129 pf129 = true := by kernel_rfl
theorem ck130 : ckFn Tryz.prog loud 130 pf130 = true := by kernel_rfl
theorem ck131 : ckFn Tryz.prog loud 131 pf131 = true := by kernel_rfl
theorem ck132 : ckFn Tryz.prog loud 132 pf132 = true := by kernel_rfl
theorem ck133 : ckFn Tryz.prog loud 133 pf133 = true := by kernel_rfl
theorem ck134 : ckFn Tryz.prog loud 134 pf134 = true := by kernel_rfl
theorem ck135 : ckFn Tryz.prog loud 135 pf135 = true := by kernel_rfl
theorem ck136 : ckFn Tryz.prog loud 136 pf136 = true := by kernel_rfl
theorem ck137 : ckFn Tryz.prog loud 137 pf137 = true := by kernel_rfl
theorem ck138 : ckFn Tryz.prog loud 138 pf138 = true := by kernel_rfl
theorem ck139 : ckFn Tryz.prog loud 139 pf139 = true := by kernel_rfl
theorem ck140 : ckFn Tryz.prog loud 140 pf140 = true := by kernel_rfl
theorem ck141 : ckFn Tryz.prog loud 141 pf141 = true := by kernel_rfl
theorem ck142 : ckFn Tryz.prog loud 142 pf142 = true := by kernel_rfl
theorem ck145 : ckFn Tryz.prog loud 145 pf145 = true := by kernel_rfl
theorem ck147 : ckFn Tryz.prog loud 147 pf147 = true := by kernel_rfl
theorem ck155 : ckFn Tryz.prog loud 155 pf155 = true := by kernel_rfl
theorem ck156 : ckFn Tryz.prog loud 156 pf156 = true := by kernel_rfl
theorem ck157 : ckFn Tryz.prog loud 157 pf157 = true := by kernel_rfl
theorem ck163 : ckFn Tryz.prog loud 163 pf163 = true := by kernel_rfl
theorem ck173 : ckFn Tryz.prog loud 173 pf173 = true := by kernel_rfl
theorem ck185 : ckFn Tryz.prog loud 185 pf185 = true := by kernel_rfl
theorem ck186 : ckFn Tryz.prog loud 186 pf186 = true := by kernel_rfl
theorem ck187 : ckFn Tryz.prog loud 187 pf187 = true := by kernel_rfl
theorem ck188 : ckFn Tryz.prog loud 188 pf188 = true := by kernel_rfl
theorem ck189 : ckFn Tryz.prog loud 189 pf189 = true := by kernel_rfl
theorem ck190 : ckFn Tryz.prog loud 190 pf190 = true := by kernel_rfl
theorem ck212 : ckFn Tryz.prog loud 212 pf212 = true := by kernel_rfl
theorem ck213 : ckFn Tryz.prog loud 213 pf213 = true := by kernel_rfl
theorem ck214 : ckFn Tryz.prog loud 214 pf214 = true := by kernel_rfl
theorem ck224 : ckFn Tryz.prog loud 224 pf224 = true := by kernel_rfl
theorem ck225 : ckFn Tryz.prog loud 225 pf225 = true := by kernel_rfl
theorem ck229 : ckFn Tryz.prog loud 229 pf229 = true := by kernel_rfl
theorem ck237 : ckFn Tryz.prog loud 237 pf237 = true := by kernel_rfl
set_option maxHeartbeats 4000000 in
theorem ckTbl : ∀ f pf, tbl f = some pf → ckFn Tryz.prog loud f pf = true := by
  intro f pf h
  unfold tbl at h
  split at h
  · injection h with h; subst h; exact ck12
  · injection h with h; subst h; exact ck14
  · injection h with h; subst h; exact ck16
  · injection h with h; subst h; exact ck17
  · injection h with h; subst h; exact ck18
  · injection h with h; subst h; exact ck22
  · injection h with h; subst h; exact ck23
  · injection h with h; subst h; exact ck24
  · injection h with h; subst h; exact ck27
  · injection h with h; subst h; exact ck29
  · injection h with h; subst h; exact ck35
  · injection h with h; subst h; exact ck36
  · injection h with h; subst h; exact ck37
  · injection h with h; subst h; exact ck38
  · injection h with h; subst h; exact ck39
  · injection h with h; subst h; exact ck40
  · injection h with h; subst h; exact ck41
  · injection h with h; subst h; exact ck42
  · injection h with h; subst h; exact ck43
  · injection h with h; subst h; exact ck44
  · injection h with h; subst h; exact ck45
  · injection h with h; subst h; exact ck46
  · injection h with h; subst h; exact ck52
  · injection h with h; subst h; exact ck53
  · injection h with h; subst h; exact ck54
  · injection h with h; subst h; exact ck55
  · injection h with h; subst h; exact ck56
  · injection h with h; subst h; exact ck57
  · injection h with h; subst h; exact ck58
  · injection h with h; subst h; exact ck59
  · injection h with h; subst h; exact ck60
  · injection h with h; subst h; exact ck61
  · injection h with h; subst h; exact ck62
  · injection h with h; subst h; exact ck63
  · injection h with h; subst h; exact ck64
  · injection h with h; subst h; exact ck65
  · injection h with h; subst h; exact ck66
  · injection h with h; subst h; exact ck67
  · injection h with h; subst h; exact ck68
  · injection h with h; subst h; exact ck82
  · injection h with h; subst h; exact ck83
  · injection h with h; subst h; exact ck84
  · injection h with h; subst h; exact ck85
  · injection h with h; subst h; exact ck86
  · injection h with h; subst h; exact ck87
  · injection h with h; subst h; exact ck88
  · injection h with h; subst h; exact ck89
  · injection h with h; subst h; exact ck90
  · injection h with h; subst h; exact ck91
  · injection h with h; subst h; exact ck92
  · injection h with h; subst h; exact ck93
  · injection h with h; subst h; exact ck94
  · injection h with h; subst h; exact ck95
  · injection h with h; subst h; exact ck96
  · injection h with h; subst h; exact ck97
  · injection h with h; subst h; exact ck98
  · injection h with h; subst h; exact ck105
  · injection h with h; subst h; exact ck106
  · injection h with h; subst h; exact ck107
  · injection h with h; subst h; exact ck108
  · injection h with h; subst h; exact ck109
  · injection h with h; subst h; exact ck110
  · injection h with h; subst h; exact ck111
  · injection h with h; subst h; exact ck112
  · injection h with h; subst h; exact ck113
  · injection h with h; subst h; exact ck114
  · injection h with h; subst h; exact ck115
  · injection h with h; subst h; exact ck116
  · injection h with h; subst h; exact ck117
  · injection h with h; subst h; exact ck118
  · injection h with h; subst h; exact ck119
  · injection h with h; subst h; exact ck120
  · injection h with h; subst h; exact ck129
  · injection h with h; subst h; exact ck130
  · injection h with h; subst h; exact ck131
  · injection h with h; subst h; exact ck132
  · injection h with h; subst h; exact ck133
  · injection h with h; subst h; exact ck134
  · injection h with h; subst h; exact ck135
  · injection h with h; subst h; exact ck136
  · injection h with h; subst h; exact ck137
  · injection h with h; subst h; exact ck138
  · injection h with h; subst h; exact ck139
  · injection h with h; subst h; exact ck140
  · injection h with h; subst h; exact ck141
  · injection h with h; subst h; exact ck142
  · injection h with h; subst h; exact ck145
  · injection h with h; subst h; exact ck147
  · injection h with h; subst h; exact ck155
  · injection h with h; subst h; exact ck156
  · injection h with h; subst h; exact ck157
  · injection h with h; subst h; exact ck163
  · injection h with h; subst h; exact ck173
  · injection h with h; subst h; exact ck185
  · injection h with h; subst h; exact ck186
  · injection h with h; subst h; exact ck187
  · injection h with h; subst h; exact ck188
  · injection h with h; subst h; exact ck189
  · injection h with h; subst h; exact ck190
  · injection h with h; subst h; exact ck212
  · injection h with h; subst h; exact ck213
  · injection h with h; subst h; exact ck214
  · injection h with h; subst h; exact ck224
  · injection h with h; subst h; exact ck225
  · injection h with h; subst h; exact ck229
  · injection h with h; subst h; exact ck237
  · exact absurd h (by simp)
end Go.Rf
