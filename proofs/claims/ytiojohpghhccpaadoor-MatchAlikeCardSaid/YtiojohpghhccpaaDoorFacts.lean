/-
  What walking asks of the seat's types. (Written by a program of ours: gen_facts.py.)
-/
import Derived.Test.YtiojohpghhccpaaDoorEvD
import Derived.Test.YtiojohpghhccpaaDoorSeat
set_option linter.all false
namespace Go.Pe.Tryd
variable {s : St} {cs : List V} {o i e : Nat}
theorem T0 : D.T 0 = some t0 := rfl
theorem T1 : D.T 1 = some t1 := rfl
theorem T2 : D.T 2 = some t2 := rfl
theorem T3 : D.T 3 = some t3 := rfl
theorem T4 : D.T 4 = some t4 := rfl
theorem T5 : D.T 5 = some t5 := rfl
theorem T6 : D.T 6 = some t6 := rfl
theorem T7 : D.T 7 = some t7 := rfl
theorem T8 : D.T 8 = some t8 := rfl
theorem T9 : D.T 9 = some t9 := rfl
theorem T10 : D.T 10 = some t10 := rfl
theorem T11 : D.T 11 = some t11 := rfl
theorem T12 : D.T 12 = some t12 := rfl
theorem T15 : D.T 15 = some t15 := rfl
theorem T16 : D.T 16 = some t16 := rfl
theorem T17 : D.T 17 = some t17 := rfl
theorem T20 : D.T 20 = some t20 := rfl
theorem T21 : D.T 21 = some t21 := rfl
theorem T22 : D.T 22 = some t22 := rfl
theorem T23 : D.T 23 = some t23 := rfl
theorem T24 : D.T 24 = some t24 := rfl
theorem T25 : D.T 25 = some t25 := rfl
theorem T26 : D.T 26 = some t26 := rfl
theorem T27 : D.T 27 = some t27 := rfl
theorem T28 : D.T 28 = some t28 := rfl
theorem T29 : D.T 29 = some t29 := rfl
theorem T30 : D.T 30 = some t30 := rfl
theorem T31 : D.T 31 = some t31 := rfl
theorem T32 : D.T 32 = some t32 := rfl
theorem T33 : D.T 33 = some t33 := rfl
theorem T34 : D.T 34 = some t34 := rfl
theorem T35 : D.T 35 = some t35 := rfl
theorem T36 : D.T 36 = some t36 := rfl
theorem T37 : D.T 37 = some t37 := rfl
theorem T38 : D.T 38 = some t38 := rfl
theorem T39 : D.T 39 = some t39 := rfl
theorem T40 : D.T 40 = some t40 := rfl
theorem T41 : D.T 41 = some t41 := rfl
theorem T42 : D.T 42 = some t42 := rfl
theorem T43 : D.T 43 = some t43 := rfl
theorem T44 : D.T 44 = some t44 := rfl
theorem T45 : D.T 45 = some t45 := rfl
theorem T46 : D.T 46 = some t46 := rfl
theorem T47 : D.T 47 = some t47 := rfl
theorem T48 : D.T 48 = some t48 := rfl
theorem T49 : D.T 49 = some t49 := rfl
theorem T50 : D.T 50 = some t50 := rfl
theorem T51 : D.T 51 = some t51 := rfl
theorem T52 : D.T 52 = some t52 := rfl
theorem T53 : D.T 53 = some t53 := rfl
theorem T54 : D.T 54 = some t54 := rfl
theorem T55 : D.T 55 = some t55 := rfl
theorem T56 : D.T 56 = some t56 := rfl
theorem T57 : D.T 57 = some t57 := rfl
theorem T58 : D.T 58 = some t58 := rfl
theorem T59 : D.T 59 = some t59 := rfl
theorem T60 : D.T 60 = some t60 := rfl
theorem T61 : D.T 61 = some t61 := rfl
theorem T62 : D.T 62 = some t62 := rfl
theorem T63 : D.T 63 = some t63 := rfl
theorem T64 : D.T 64 = some t64 := rfl
theorem T65 : D.T 65 = some t65 := rfl
theorem T66 : D.T 66 = some t66 := rfl
theorem T67 : D.T 67 = some t67 := rfl
theorem T68 : D.T 68 = some t68 := rfl
theorem T69 : D.T 69 = some t69 := rfl
theorem T70 : D.T 70 = some t70 := rfl
theorem T71 : D.T 71 = some t71 := rfl
theorem T72 : D.T 72 = some t72 := rfl
theorem T73 : D.T 73 = some t73 := rfl
theorem T74 : D.T 74 = some t74 := rfl
theorem T75 : D.T 75 = some t75 := rfl
theorem T76 : D.T 76 = some t76 := rfl
theorem T77 : D.T 77 = some t77 := rfl
theorem T78 : D.T 78 = some t78 := rfl
theorem T79 : D.T 79 = some t79 := rfl
theorem T80 : D.T 80 = some t80 := rfl
theorem T81 : D.T 81 = some t81 := rfl
theorem T82 : D.T 82 = some t82 := rfl
theorem T83 : D.T 83 = some t83 := rfl
theorem T84 : D.T 84 = some t84 := rfl
theorem T85 : D.T 85 = some t85 := rfl
theorem T86 : D.T 86 = some t86 := rfl
theorem T87 : D.T 87 = some t87 := rfl
theorem T88 : D.T 88 = some t88 := rfl
theorem T89 : D.T 89 = some t89 := rfl
theorem T90 : D.T 90 = some t90 := rfl
theorem T91 : D.T 91 = some t91 := rfl
theorem T92 : D.T 92 = some t92 := rfl
theorem T93 : D.T 93 = some t93 := rfl
theorem T94 : D.T 94 = some t94 := rfl
theorem T95 : D.T 95 = some t95 := rfl
theorem T96 : D.T 96 = some t96 := rfl
theorem T97 : D.T 97 = some t97 := rfl
theorem T98 : D.T 98 = some t98 := rfl
theorem T99 : D.T 99 = some t99 := rfl
theorem T100 : D.T 100 = some t100 := rfl
theorem T101 : D.T 101 = some t101 := rfl
theorem T102 : D.T 102 = some t102 := rfl
theorem T103 : D.T 103 = some t103 := rfl
theorem T104 : D.T 104 = some t104 := rfl
theorem T105 : D.T 105 = some t105 := rfl
theorem T106 : D.T 106 = some t106 := rfl
theorem T107 : D.T 107 = some t107 := rfl
theorem T108 : D.T 108 = some t108 := rfl
theorem T109 : D.T 109 = some t109 := rfl
theorem T110 : D.T 110 = some t110 := rfl
theorem T111 : D.T 111 = some t111 := rfl
theorem T112 : D.T 112 = some t112 := rfl
theorem T113 : D.T 113 = some t113 := rfl
theorem T114 : D.T 114 = some t114 := rfl
theorem T115 : D.T 115 = some t115 := rfl
theorem T116 : D.T 116 = some t116 := rfl
theorem T117 : D.T 117 = some t117 := rfl
theorem T118 : D.T 118 = some t118 := rfl
theorem T119 : D.T 119 = some t119 := rfl
theorem T120 : D.T 120 = some t120 := rfl
theorem T121 : D.T 121 = some t121 := rfl
theorem T122 : D.T 122 = some t122 := rfl
theorem T123 : D.T 123 = some t123 := rfl
theorem T124 : D.T 124 = some t124 := rfl
theorem T125 : D.T 125 = some t125 := rfl
theorem T126 : D.T 126 = some t126 := rfl
theorem T127 : D.T 127 = some t127 := rfl
theorem T128 : D.T 128 = some t128 := rfl
theorem T129 : D.T 129 = some t129 := rfl
theorem T130 : D.T 130 = some t130 := rfl
theorem T131 : D.T 131 = some t131 := rfl
theorem T132 : D.T 132 = some t132 := rfl
theorem T133 : D.T 133 = some t133 := rfl
theorem T134 : D.T 134 = some t134 := rfl
theorem T135 : D.T 135 = some t135 := rfl
theorem T136 : D.T 136 = some t136 := rfl
theorem T137 : D.T 137 = some t137 := rfl
theorem T138 : D.T 138 = some t138 := rfl
theorem T139 : D.T 139 = some t139 := rfl
theorem T140 : D.T 140 = some t140 := rfl
theorem T141 : D.T 141 = some t141 := rfl
theorem T142 : D.T 142 = some t142 := rfl
theorem T143 : D.T 143 = some t143 := rfl
theorem T144 : D.T 144 = some t144 := rfl
theorem T145 : D.T 145 = some t145 := rfl
theorem T146 : D.T 146 = some t146 := rfl
theorem T147 : D.T 147 = some t147 := rfl
theorem T148 : D.T 148 = some t148 := rfl
theorem T149 : D.T 149 = some t149 := rfl
theorem T150 : D.T 150 = some t150 := rfl
theorem T151 : D.T 151 = some t151 := rfl
theorem T152 : D.T 152 = some t152 := rfl
theorem T153 : D.T 153 = some t153 := rfl
theorem T154 : D.T 154 = some t154 := rfl
theorem T155 : D.T 155 = some t155 := rfl
theorem T156 : D.T 156 = some t156 := rfl
theorem T157 : D.T 157 = some t157 := rfl
theorem T158 : D.T 158 = some t158 := rfl
theorem T159 : D.T 159 = some t159 := rfl
theorem T160 : D.T 160 = some t160 := rfl
theorem T161 : D.T 161 = some t161 := rfl
theorem T162 : D.T 162 = some t162 := rfl
theorem T163 : D.T 163 = some t163 := rfl
theorem T164 : D.T 164 = some t164 := rfl
theorem T165 : D.T 165 = some t165 := rfl
theorem T166 : D.T 166 = some t166 := rfl
theorem T167 : D.T 167 = some t167 := rfl
theorem T168 : D.T 168 = some t168 := rfl
theorem T169 : D.T 169 = some t169 := rfl
theorem T170 : D.T 170 = some t170 := rfl
theorem T171 : D.T 171 = some t171 := rfl
theorem T172 : D.T 172 = some t172 := rfl
theorem T173 : D.T 173 = some t173 := rfl
theorem T174 : D.T 174 = some t174 := rfl
theorem T175 : D.T 175 = some t175 := rfl
theorem T176 : D.T 176 = some t176 := rfl
theorem T177 : D.T 177 = some t177 := rfl
theorem T178 : D.T 178 = some t178 := rfl
theorem T179 : D.T 179 = some t179 := rfl
theorem T180 : D.T 180 = some t180 := rfl
theorem T181 : D.T 181 = some t181 := rfl
theorem T182 : D.T 182 = some t182 := rfl
theorem T183 : D.T 183 = some t183 := rfl
theorem T184 : D.T 184 = some t184 := rfl
theorem T185 : D.T 185 = some t185 := rfl
theorem T186 : D.T 186 = some t186 := rfl
theorem T187 : D.T 187 = some t187 := rfl
theorem T188 : D.T 188 = some t188 := rfl
theorem T189 : D.T 189 = some t189 := rfl
theorem T190 : D.T 190 = some t190 := rfl
theorem T191 : D.T 191 = some t191 := rfl
theorem T192 : D.T 192 = some t192 := rfl
theorem T193 : D.T 193 = some t193 := rfl
theorem T194 : D.T 194 = some t194 := rfl
theorem T195 : D.T 195 = some t195 := rfl
theorem T196 : D.T 196 = some t196 := rfl
theorem T197 : D.T 197 = some t197 := rfl
theorem T198 : D.T 198 = some t198 := rfl
theorem T199 : D.T 199 = some t199 := rfl
theorem T200 : D.T 200 = some t200 := rfl
theorem T201 : D.T 201 = some t201 := rfl
theorem T202 : D.T 202 = some t202 := rfl
theorem T203 : D.T 203 = some t203 := rfl
theorem T204 : D.T 204 = some t204 := rfl
theorem T205 : D.T 205 = some t205 := rfl
theorem T206 : D.T 206 = some t206 := rfl
theorem T207 : D.T 207 = some t207 := rfl
theorem T208 : D.T 208 = some t208 := rfl
theorem T209 : D.T 209 = some t209 := rfl
theorem T210 : D.T 210 = some t210 := rfl
theorem T211 : D.T 211 = some t211 := rfl
theorem T212 : D.T 212 = some t212 := rfl
theorem T213 : D.T 213 = some t213 := rfl
theorem T214 : D.T 214 = some t214 := rfl
theorem T215 : D.T 215 = some t215 := rfl
theorem T216 : D.T 216 = some t216 := rfl
theorem T217 : D.T 217 = some t217 := rfl
theorem T218 : D.T 218 = some t218 := rfl
theorem T219 : D.T 219 = some t219 := rfl
theorem T220 : D.T 220 = some t220 := rfl
theorem T221 : D.T 221 = some t221 := rfl
theorem T222 : D.T 222 = some t222 := rfl
theorem T223 : D.T 223 = some t223 := rfl
theorem T224 : D.T 224 = some t224 := rfl
theorem T225 : D.T 225 = some t225 := rfl
theorem T226 : D.T 226 = some t226 := rfl
theorem T227 : D.T 227 = some t227 := rfl
theorem T228 : D.T 228 = some t228 := rfl
theorem T229 : D.T 229 = some t229 := rfl
theorem T230 : D.T 230 = some t230 := rfl
theorem T231 : D.T 231 = some t231 := rfl
theorem T232 : D.T 232 = some t232 := rfl
theorem T233 : D.T 233 = some t233 := rfl
theorem T234 : D.T 234 = some t234 := rfl
theorem T235 : D.T 235 = some t235 := rfl
theorem T236 : D.T 236 = some t236 := rfl
theorem T237 : D.T 237 = some t237 := rfl
theorem T238 : D.T 238 = some t238 := rfl
theorem T239 : D.T 239 = some t239 := rfl
theorem T240 : D.T 240 = some t240 := rfl
theorem T241 : D.T 241 = some t241 := rfl
theorem T242 : D.T 242 = some t242 := rfl
theorem T243 : D.T 243 = some t243 := rfl
theorem T244 : D.T 244 = some t244 := rfl
theorem T245 : D.T 245 = some t245 := rfl
theorem T246 : D.T 246 = some t246 := rfl
theorem T247 : D.T 247 = some t247 := rfl
theorem T248 : D.T 248 = some t248 := rfl
theorem T249 : D.T 249 = some t249 := rfl
theorem T250 : D.T 250 = some t250 := rfl
theorem T251 : D.T 251 = some t251 := rfl
theorem T252 : D.T 252 = some t252 := rfl
theorem T253 : D.T 253 = some t253 := rfl
theorem T254 : D.T 254 = some t254 := rfl
theorem T255 : D.T 255 = some t255 := rfl
theorem T256 : D.T 256 = some t256 := rfl
theorem T257 : D.T 257 = some t257 := rfl
theorem T258 : D.T 258 = some t258 := rfl
theorem T259 : D.T 259 = some t259 := rfl
theorem T260 : D.T 260 = some t260 := rfl
theorem T261 : D.T 261 = some t261 := rfl
theorem T262 : D.T 262 = some t262 := rfl
theorem T263 : D.T 263 = some t263 := rfl
theorem T264 : D.T 264 = some t264 := rfl
theorem T265 : D.T 265 = some t265 := rfl
theorem T268 : D.T 268 = some t268 := rfl
theorem T271 : D.T 271 = some t271 := rfl
theorem T272 : D.T 272 = some t272 := rfl
theorem T273 : D.T 273 = some t273 := rfl
theorem T274 : D.T 274 = some t274 := rfl
theorem T275 : D.T 275 = some t275 := rfl
theorem T276 : D.T 276 = some t276 := rfl
theorem T277 : D.T 277 = some t277 := rfl
theorem T278 : D.T 278 = some t278 := rfl
theorem T281 : D.T 281 = some t281 := rfl
theorem ld0 : loadT D s 0 (.pt cs o) = cs[o]? := rfl
theorem lb0 (h : s.live i e = some cs) : loadT D s 0 (.pb i e o) = cs[o]? := by simp only [loadT, T0, h]; rfl
theorem ld1 : loadT D s 1 (.pt cs o) = cs[o]? := rfl
theorem lb1 (h : s.live i e = some cs) : loadT D s 1 (.pb i e o) = cs[o]? := by simp only [loadT, T1, h]; rfl
theorem ld2 : loadT D s 2 (.pt cs o) = cs[o]? := rfl
theorem lb2 (h : s.live i e = some cs) : loadT D s 2 (.pb i e o) = cs[o]? := by simp only [loadT, T2, h]; rfl
theorem ld3 : loadT D s 3 (.pt cs o) = cs[o]? := rfl
theorem lb3 (h : s.live i e = some cs) : loadT D s 3 (.pb i e o) = cs[o]? := by simp only [loadT, T3, h]; rfl
theorem ld4 : loadT D s 4 (.pt cs o) = cs[o]? := rfl
theorem lb4 (h : s.live i e = some cs) : loadT D s 4 (.pb i e o) = cs[o]? := by simp only [loadT, T4, h]; rfl
theorem ld5 : loadT D s 5 (.pt cs o) = cs[o]? := rfl
theorem lb5 (h : s.live i e = some cs) : loadT D s 5 (.pb i e o) = cs[o]? := by simp only [loadT, T5, h]; rfl
theorem ld6 : loadT D s 6 (.pt cs o) = cs[o]? := rfl
theorem lb6 (h : s.live i e = some cs) : loadT D s 6 (.pb i e o) = cs[o]? := by simp only [loadT, T6, h]; rfl
theorem ld7 : loadT D s 7 (.pt cs o) = (sub cs o 4).map .agg := rfl
theorem lb7 (h : s.live i e = some cs) : loadT D s 7 (.pb i e o) = (sub cs o 4).map .agg := by simp only [loadT, T7, h]; rfl
theorem fa7_0 : fieldT D 7 (.pt cs o) 0 = some (.pt cs (o + 0)) := rfl
theorem fb7_0 : fieldT D 7 (.pb i e o) 0 = some (.pb i e (o + 0)) := rfl
theorem fa7_1 : fieldT D 7 (.pt cs o) 1 = some (.pt cs (o + 1)) := rfl
theorem fb7_1 : fieldT D 7 (.pb i e o) 1 = some (.pb i e (o + 1)) := rfl
theorem fa7_2 : fieldT D 7 (.pt cs o) 2 = some (.pt cs (o + 2)) := rfl
theorem fb7_2 : fieldT D 7 (.pb i e o) 2 = some (.pb i e (o + 2)) := rfl
theorem fa7_3 : fieldT D 7 (.pt cs o) 3 = some (.pt cs (o + 3)) := rfl
theorem fb7_3 : fieldT D 7 (.pb i e o) 3 = some (.pb i e (o + 3)) := rfl
theorem ld8 : loadT D s 8 (.pt cs o) = (sub cs o 4).map .agg := rfl
theorem lb8 (h : s.live i e = some cs) : loadT D s 8 (.pb i e o) = (sub cs o 4).map .agg := by simp only [loadT, T8, h]; rfl
theorem fa8_0 : fieldT D 8 (.pt cs o) 0 = some (.pt cs (o + 0)) := rfl
theorem fb8_0 : fieldT D 8 (.pb i e o) 0 = some (.pb i e (o + 0)) := rfl
theorem fa8_1 : fieldT D 8 (.pt cs o) 1 = some (.pt cs (o + 1)) := rfl
theorem fb8_1 : fieldT D 8 (.pb i e o) 1 = some (.pb i e (o + 1)) := rfl
theorem fa8_2 : fieldT D 8 (.pt cs o) 2 = some (.pt cs (o + 2)) := rfl
theorem fb8_2 : fieldT D 8 (.pb i e o) 2 = some (.pb i e (o + 2)) := rfl
theorem fa8_3 : fieldT D 8 (.pt cs o) 3 = some (.pt cs (o + 3)) := rfl
theorem fb8_3 : fieldT D 8 (.pb i e o) 3 = some (.pb i e (o + 3)) := rfl
theorem ld9 : loadT D s 9 (.pt cs o) = cs[o]? := rfl
theorem lb9 (h : s.live i e = some cs) : loadT D s 9 (.pb i e o) = cs[o]? := by simp only [loadT, T9, h]; rfl
theorem ld10 : loadT D s 10 (.pt cs o) = cs[o]? := rfl
theorem lb10 (h : s.live i e = some cs) : loadT D s 10 (.pb i e o) = cs[o]? := by simp only [loadT, T10, h]; rfl
theorem ld11 : loadT D s 11 (.pt cs o) = cs[o]? := rfl
theorem lb11 (h : s.live i e = some cs) : loadT D s 11 (.pb i e o) = cs[o]? := by simp only [loadT, T11, h]; rfl
theorem ld12 : loadT D s 12 (.pt cs o) = cs[o]? := rfl
theorem lb12 (h : s.live i e = some cs) : loadT D s 12 (.pb i e o) = cs[o]? := by simp only [loadT, T12, h]; rfl
theorem ld15 : loadT D s 15 (.pt cs o) = cs[o]? := rfl
theorem lb15 (h : s.live i e = some cs) : loadT D s 15 (.pb i e o) = cs[o]? := by simp only [loadT, T15, h]; rfl
theorem ld16 : loadT D s 16 (.pt cs o) = cs[o]? := rfl
theorem lb16 (h : s.live i e = some cs) : loadT D s 16 (.pb i e o) = cs[o]? := by simp only [loadT, T16, h]; rfl
theorem ld17 : loadT D s 17 (.pt cs o) = cs[o]? := rfl
theorem lb17 (h : s.live i e = some cs) : loadT D s 17 (.pb i e o) = cs[o]? := by simp only [loadT, T17, h]; rfl
theorem ld20 : loadT D s 20 (.pt cs o) = cs[o]? := rfl
theorem lb20 (h : s.live i e = some cs) : loadT D s 20 (.pb i e o) = cs[o]? := by simp only [loadT, T20, h]; rfl
theorem ld21 : loadT D s 21 (.pt cs o) = cs[o]? := rfl
theorem lb21 (h : s.live i e = some cs) : loadT D s 21 (.pb i e o) = cs[o]? := by simp only [loadT, T21, h]; rfl
theorem ld22 : loadT D s 22 (.pt cs o) = cs[o]? := rfl
theorem lb22 (h : s.live i e = some cs) : loadT D s 22 (.pb i e o) = cs[o]? := by simp only [loadT, T22, h]; rfl
theorem sl22 : D.sl 22 = some (78, t78) := rfl
theorem ld23 : loadT D s 23 (.pt cs o) = cs[o]? := rfl
theorem lb23 (h : s.live i e = some cs) : loadT D s 23 (.pb i e o) = cs[o]? := by simp only [loadT, T23, h]; rfl
theorem sl23 : D.sl 23 = some (87, t87) := rfl
theorem ld24 : loadT D s 24 (.pt cs o) = (sub cs o 3).map .agg := rfl
theorem lb24 (h : s.live i e = some cs) : loadT D s 24 (.pb i e o) = (sub cs o 3).map .agg := by simp only [loadT, T24, h]; rfl
theorem fa24_0 : fieldT D 24 (.pt cs o) 0 = some (.pt cs (o + 0)) := rfl
theorem fb24_0 : fieldT D 24 (.pb i e o) 0 = some (.pb i e (o + 0)) := rfl
theorem fa24_1 : fieldT D 24 (.pt cs o) 1 = some (.pt cs (o + 1)) := rfl
theorem fb24_1 : fieldT D 24 (.pb i e o) 1 = some (.pb i e (o + 1)) := rfl
theorem fa24_2 : fieldT D 24 (.pt cs o) 2 = some (.pt cs (o + 2)) := rfl
theorem fb24_2 : fieldT D 24 (.pb i e o) 2 = some (.pb i e (o + 2)) := rfl
theorem ld25 : loadT D s 25 (.pt cs o) = (sub cs o 3).map .agg := rfl
theorem lb25 (h : s.live i e = some cs) : loadT D s 25 (.pb i e o) = (sub cs o 3).map .agg := by simp only [loadT, T25, h]; rfl
theorem fa25_0 : fieldT D 25 (.pt cs o) 0 = some (.pt cs (o + 0)) := rfl
theorem fb25_0 : fieldT D 25 (.pb i e o) 0 = some (.pb i e (o + 0)) := rfl
theorem fa25_1 : fieldT D 25 (.pt cs o) 1 = some (.pt cs (o + 1)) := rfl
theorem fb25_1 : fieldT D 25 (.pb i e o) 1 = some (.pb i e (o + 1)) := rfl
theorem fa25_2 : fieldT D 25 (.pt cs o) 2 = some (.pt cs (o + 2)) := rfl
theorem fb25_2 : fieldT D 25 (.pb i e o) 2 = some (.pb i e (o + 2)) := rfl
theorem ld26 : loadT D s 26 (.pt cs o) = cs[o]? := rfl
theorem lb26 (h : s.live i e = some cs) : loadT D s 26 (.pb i e o) = cs[o]? := by simp only [loadT, T26, h]; rfl
theorem ld27 : loadT D s 27 (.pt cs o) = cs[o]? := rfl
theorem lb27 (h : s.live i e = some cs) : loadT D s 27 (.pb i e o) = cs[o]? := by simp only [loadT, T27, h]; rfl
theorem ld28 : loadT D s 28 (.pt cs o) = (sub cs o 3).map .agg := rfl
theorem lb28 (h : s.live i e = some cs) : loadT D s 28 (.pb i e o) = (sub cs o 3).map .agg := by simp only [loadT, T28, h]; rfl
theorem fa28_0 : fieldT D 28 (.pt cs o) 0 = some (.pt cs (o + 0)) := rfl
theorem fb28_0 : fieldT D 28 (.pb i e o) 0 = some (.pb i e (o + 0)) := rfl
theorem fa28_1 : fieldT D 28 (.pt cs o) 1 = some (.pt cs (o + 1)) := rfl
theorem fb28_1 : fieldT D 28 (.pb i e o) 1 = some (.pb i e (o + 1)) := rfl
theorem fa28_2 : fieldT D 28 (.pt cs o) 2 = some (.pt cs (o + 2)) := rfl
theorem fb28_2 : fieldT D 28 (.pb i e o) 2 = some (.pb i e (o + 2)) := rfl
theorem ld29 : loadT D s 29 (.pt cs o) = (sub cs o 3).map .agg := rfl
theorem lb29 (h : s.live i e = some cs) : loadT D s 29 (.pb i e o) = (sub cs o 3).map .agg := by simp only [loadT, T29, h]; rfl
theorem fa29_0 : fieldT D 29 (.pt cs o) 0 = some (.pt cs (o + 0)) := rfl
theorem fb29_0 : fieldT D 29 (.pb i e o) 0 = some (.pb i e (o + 0)) := rfl
theorem fa29_1 : fieldT D 29 (.pt cs o) 1 = some (.pt cs (o + 1)) := rfl
theorem fb29_1 : fieldT D 29 (.pb i e o) 1 = some (.pb i e (o + 1)) := rfl
theorem fa29_2 : fieldT D 29 (.pt cs o) 2 = some (.pt cs (o + 2)) := rfl
theorem fb29_2 : fieldT D 29 (.pb i e o) 2 = some (.pb i e (o + 2)) := rfl
theorem ld30 : loadT D s 30 (.pt cs o) = cs[o]? := rfl
theorem lb30 (h : s.live i e = some cs) : loadT D s 30 (.pb i e o) = cs[o]? := by simp only [loadT, T30, h]; rfl
theorem ld31 : loadT D s 31 (.pt cs o) = cs[o]? := rfl
theorem lb31 (h : s.live i e = some cs) : loadT D s 31 (.pb i e o) = cs[o]? := by simp only [loadT, T31, h]; rfl
theorem ld32 : loadT D s 32 (.pt cs o) = cs[o]? := rfl
theorem lb32 (h : s.live i e = some cs) : loadT D s 32 (.pb i e o) = cs[o]? := by simp only [loadT, T32, h]; rfl
theorem ld33 : loadT D s 33 (.pt cs o) = cs[o]? := rfl
theorem lb33 (h : s.live i e = some cs) : loadT D s 33 (.pb i e o) = cs[o]? := by simp only [loadT, T33, h]; rfl
theorem ld34 : loadT D s 34 (.pt cs o) = (sub cs o 3).map .agg := rfl
theorem lb34 (h : s.live i e = some cs) : loadT D s 34 (.pb i e o) = (sub cs o 3).map .agg := by simp only [loadT, T34, h]; rfl
theorem fa34_0 : fieldT D 34 (.pt cs o) 0 = some (.pt cs (o + 0)) := rfl
theorem fb34_0 : fieldT D 34 (.pb i e o) 0 = some (.pb i e (o + 0)) := rfl
theorem fa34_1 : fieldT D 34 (.pt cs o) 1 = some (.pt cs (o + 1)) := rfl
theorem fb34_1 : fieldT D 34 (.pb i e o) 1 = some (.pb i e (o + 1)) := rfl
theorem fa34_2 : fieldT D 34 (.pt cs o) 2 = some (.pt cs (o + 2)) := rfl
theorem fb34_2 : fieldT D 34 (.pb i e o) 2 = some (.pb i e (o + 2)) := rfl
theorem ld35 : loadT D s 35 (.pt cs o) = cs[o]? := rfl
theorem lb35 (h : s.live i e = some cs) : loadT D s 35 (.pb i e o) = cs[o]? := by simp only [loadT, T35, h]; rfl
theorem ld36 : loadT D s 36 (.pt cs o) = cs[o]? := rfl
theorem lb36 (h : s.live i e = some cs) : loadT D s 36 (.pb i e o) = cs[o]? := by simp only [loadT, T36, h]; rfl
theorem ld37 : loadT D s 37 (.pt cs o) = cs[o]? := rfl
theorem lb37 (h : s.live i e = some cs) : loadT D s 37 (.pb i e o) = cs[o]? := by simp only [loadT, T37, h]; rfl
theorem ld38 : loadT D s 38 (.pt cs o) = cs[o]? := rfl
theorem lb38 (h : s.live i e = some cs) : loadT D s 38 (.pb i e o) = cs[o]? := by simp only [loadT, T38, h]; rfl
theorem sl38 : D.sl 38 = some (9, t9) := rfl
theorem ld39 : loadT D s 39 (.pt cs o) = cs[o]? := rfl
theorem lb39 (h : s.live i e = some cs) : loadT D s 39 (.pb i e o) = cs[o]? := by simp only [loadT, T39, h]; rfl
theorem ld40 : loadT D s 40 (.pt cs o) = cs[o]? := rfl
theorem lb40 (h : s.live i e = some cs) : loadT D s 40 (.pb i e o) = cs[o]? := by simp only [loadT, T40, h]; rfl
theorem sl40 : D.sl 40 = some (135, t135) := rfl
theorem ld41 : loadT D s 41 (.pt cs o) = (sub cs o 8).map .agg := rfl
theorem lb41 (h : s.live i e = some cs) : loadT D s 41 (.pb i e o) = (sub cs o 8).map .agg := by simp only [loadT, T41, h]; rfl
theorem ld42 : loadT D s 42 (.pt cs o) = cs[o]? := rfl
theorem lb42 (h : s.live i e = some cs) : loadT D s 42 (.pb i e o) = cs[o]? := by simp only [loadT, T42, h]; rfl
theorem sl42 : D.sl 42 = some (2, t2) := rfl
theorem ld43 : loadT D s 43 (.pt cs o) = (sub cs o 11).map .agg := rfl
theorem lb43 (h : s.live i e = some cs) : loadT D s 43 (.pb i e o) = (sub cs o 11).map .agg := by simp only [loadT, T43, h]; rfl
theorem fa43_0 : fieldT D 43 (.pt cs o) 0 = some (.pt cs (o + 0)) := rfl
theorem fb43_0 : fieldT D 43 (.pb i e o) 0 = some (.pb i e (o + 0)) := rfl
theorem fa43_1 : fieldT D 43 (.pt cs o) 1 = some (.pt cs (o + 8)) := rfl
theorem fb43_1 : fieldT D 43 (.pb i e o) 1 = some (.pb i e (o + 8)) := rfl
theorem fa43_2 : fieldT D 43 (.pt cs o) 2 = some (.pt cs (o + 9)) := rfl
theorem fb43_2 : fieldT D 43 (.pb i e o) 2 = some (.pb i e (o + 9)) := rfl
theorem fa43_3 : fieldT D 43 (.pt cs o) 3 = some (.pt cs (o + 10)) := rfl
theorem fb43_3 : fieldT D 43 (.pb i e o) 3 = some (.pb i e (o + 10)) := rfl
theorem ld44 : loadT D s 44 (.pt cs o) = (sub cs o 11).map .agg := rfl
theorem lb44 (h : s.live i e = some cs) : loadT D s 44 (.pb i e o) = (sub cs o 11).map .agg := by simp only [loadT, T44, h]; rfl
theorem fa44_0 : fieldT D 44 (.pt cs o) 0 = some (.pt cs (o + 0)) := rfl
theorem fb44_0 : fieldT D 44 (.pb i e o) 0 = some (.pb i e (o + 0)) := rfl
theorem fa44_1 : fieldT D 44 (.pt cs o) 1 = some (.pt cs (o + 8)) := rfl
theorem fb44_1 : fieldT D 44 (.pb i e o) 1 = some (.pb i e (o + 8)) := rfl
theorem fa44_2 : fieldT D 44 (.pt cs o) 2 = some (.pt cs (o + 9)) := rfl
theorem fb44_2 : fieldT D 44 (.pb i e o) 2 = some (.pb i e (o + 9)) := rfl
theorem fa44_3 : fieldT D 44 (.pt cs o) 3 = some (.pt cs (o + 10)) := rfl
theorem fb44_3 : fieldT D 44 (.pb i e o) 3 = some (.pb i e (o + 10)) := rfl
theorem ld45 : loadT D s 45 (.pt cs o) = cs[o]? := rfl
theorem lb45 (h : s.live i e = some cs) : loadT D s 45 (.pb i e o) = cs[o]? := by simp only [loadT, T45, h]; rfl
theorem ld46 : loadT D s 46 (.pt cs o) = cs[o]? := rfl
theorem lb46 (h : s.live i e = some cs) : loadT D s 46 (.pb i e o) = cs[o]? := by simp only [loadT, T46, h]; rfl
theorem ld47 : loadT D s 47 (.pt cs o) = cs[o]? := rfl
theorem lb47 (h : s.live i e = some cs) : loadT D s 47 (.pb i e o) = cs[o]? := by simp only [loadT, T47, h]; rfl
theorem ld48 : loadT D s 48 (.pt cs o) = cs[o]? := rfl
theorem lb48 (h : s.live i e = some cs) : loadT D s 48 (.pb i e o) = cs[o]? := by simp only [loadT, T48, h]; rfl
theorem ld49 : loadT D s 49 (.pt cs o) = cs[o]? := rfl
theorem lb49 (h : s.live i e = some cs) : loadT D s 49 (.pb i e o) = cs[o]? := by simp only [loadT, T49, h]; rfl
theorem ld50 : loadT D s 50 (.pt cs o) = cs[o]? := rfl
theorem lb50 (h : s.live i e = some cs) : loadT D s 50 (.pb i e o) = cs[o]? := by simp only [loadT, T50, h]; rfl
theorem ld51 : loadT D s 51 (.pt cs o) = cs[o]? := rfl
theorem lb51 (h : s.live i e = some cs) : loadT D s 51 (.pb i e o) = cs[o]? := by simp only [loadT, T51, h]; rfl
theorem ld52 : loadT D s 52 (.pt cs o) = cs[o]? := rfl
theorem lb52 (h : s.live i e = some cs) : loadT D s 52 (.pb i e o) = cs[o]? := by simp only [loadT, T52, h]; rfl
theorem sl52 : D.sl 52 = some (147, t147) := rfl
theorem ld53 : loadT D s 53 (.pt cs o) = (sub cs o 3).map .agg := rfl
theorem lb53 (h : s.live i e = some cs) : loadT D s 53 (.pb i e o) = (sub cs o 3).map .agg := by simp only [loadT, T53, h]; rfl
theorem fa53_0 : fieldT D 53 (.pt cs o) 0 = some (.pt cs (o + 0)) := rfl
theorem fb53_0 : fieldT D 53 (.pb i e o) 0 = some (.pb i e (o + 0)) := rfl
theorem fa53_1 : fieldT D 53 (.pt cs o) 1 = some (.pt cs (o + 1)) := rfl
theorem fb53_1 : fieldT D 53 (.pb i e o) 1 = some (.pb i e (o + 1)) := rfl
theorem fa53_2 : fieldT D 53 (.pt cs o) 2 = some (.pt cs (o + 2)) := rfl
theorem fb53_2 : fieldT D 53 (.pb i e o) 2 = some (.pb i e (o + 2)) := rfl
theorem ld54 : loadT D s 54 (.pt cs o) = (sub cs o 3).map .agg := rfl
theorem lb54 (h : s.live i e = some cs) : loadT D s 54 (.pb i e o) = (sub cs o 3).map .agg := by simp only [loadT, T54, h]; rfl
theorem fa54_0 : fieldT D 54 (.pt cs o) 0 = some (.pt cs (o + 0)) := rfl
theorem fb54_0 : fieldT D 54 (.pb i e o) 0 = some (.pb i e (o + 0)) := rfl
theorem fa54_1 : fieldT D 54 (.pt cs o) 1 = some (.pt cs (o + 1)) := rfl
theorem fb54_1 : fieldT D 54 (.pb i e o) 1 = some (.pb i e (o + 1)) := rfl
theorem fa54_2 : fieldT D 54 (.pt cs o) 2 = some (.pt cs (o + 2)) := rfl
theorem fb54_2 : fieldT D 54 (.pb i e o) 2 = some (.pb i e (o + 2)) := rfl
theorem ld55 : loadT D s 55 (.pt cs o) = (sub cs o 6).map .agg := rfl
theorem lb55 (h : s.live i e = some cs) : loadT D s 55 (.pb i e o) = (sub cs o 6).map .agg := by simp only [loadT, T55, h]; rfl
theorem fa55_0 : fieldT D 55 (.pt cs o) 0 = some (.pt cs (o + 0)) := rfl
theorem fb55_0 : fieldT D 55 (.pb i e o) 0 = some (.pb i e (o + 0)) := rfl
theorem fa55_1 : fieldT D 55 (.pt cs o) 1 = some (.pt cs (o + 1)) := rfl
theorem fb55_1 : fieldT D 55 (.pb i e o) 1 = some (.pb i e (o + 1)) := rfl
theorem fa55_2 : fieldT D 55 (.pt cs o) 2 = some (.pt cs (o + 4)) := rfl
theorem fb55_2 : fieldT D 55 (.pb i e o) 2 = some (.pb i e (o + 4)) := rfl
theorem fa55_3 : fieldT D 55 (.pt cs o) 3 = some (.pt cs (o + 5)) := rfl
theorem fb55_3 : fieldT D 55 (.pb i e o) 3 = some (.pb i e (o + 5)) := rfl
theorem ld56 : loadT D s 56 (.pt cs o) = (sub cs o 6).map .agg := rfl
theorem lb56 (h : s.live i e = some cs) : loadT D s 56 (.pb i e o) = (sub cs o 6).map .agg := by simp only [loadT, T56, h]; rfl
theorem fa56_0 : fieldT D 56 (.pt cs o) 0 = some (.pt cs (o + 0)) := rfl
theorem fb56_0 : fieldT D 56 (.pb i e o) 0 = some (.pb i e (o + 0)) := rfl
theorem fa56_1 : fieldT D 56 (.pt cs o) 1 = some (.pt cs (o + 1)) := rfl
theorem fb56_1 : fieldT D 56 (.pb i e o) 1 = some (.pb i e (o + 1)) := rfl
theorem fa56_2 : fieldT D 56 (.pt cs o) 2 = some (.pt cs (o + 4)) := rfl
theorem fb56_2 : fieldT D 56 (.pb i e o) 2 = some (.pb i e (o + 4)) := rfl
theorem fa56_3 : fieldT D 56 (.pt cs o) 3 = some (.pt cs (o + 5)) := rfl
theorem fb56_3 : fieldT D 56 (.pb i e o) 3 = some (.pb i e (o + 5)) := rfl
theorem ld57 : loadT D s 57 (.pt cs o) = cs[o]? := rfl
theorem lb57 (h : s.live i e = some cs) : loadT D s 57 (.pb i e o) = cs[o]? := by simp only [loadT, T57, h]; rfl
theorem ld58 : loadT D s 58 (.pt cs o) = cs[o]? := rfl
theorem lb58 (h : s.live i e = some cs) : loadT D s 58 (.pb i e o) = cs[o]? := by simp only [loadT, T58, h]; rfl
theorem ld59 : loadT D s 59 (.pt cs o) = cs[o]? := rfl
theorem lb59 (h : s.live i e = some cs) : loadT D s 59 (.pb i e o) = cs[o]? := by simp only [loadT, T59, h]; rfl
theorem ld60 : loadT D s 60 (.pt cs o) = cs[o]? := rfl
theorem lb60 (h : s.live i e = some cs) : loadT D s 60 (.pb i e o) = cs[o]? := by simp only [loadT, T60, h]; rfl
theorem ld61 : loadT D s 61 (.pt cs o) = cs[o]? := rfl
theorem lb61 (h : s.live i e = some cs) : loadT D s 61 (.pb i e o) = cs[o]? := by simp only [loadT, T61, h]; rfl
theorem ld62 : loadT D s 62 (.pt cs o) = cs[o]? := rfl
theorem lb62 (h : s.live i e = some cs) : loadT D s 62 (.pb i e o) = cs[o]? := by simp only [loadT, T62, h]; rfl
theorem ld63 : loadT D s 63 (.pt cs o) = cs[o]? := rfl
theorem lb63 (h : s.live i e = some cs) : loadT D s 63 (.pb i e o) = cs[o]? := by simp only [loadT, T63, h]; rfl
theorem ld64 : loadT D s 64 (.pt cs o) = cs[o]? := rfl
theorem lb64 (h : s.live i e = some cs) : loadT D s 64 (.pb i e o) = cs[o]? := by simp only [loadT, T64, h]; rfl
theorem ld65 : loadT D s 65 (.pt cs o) = cs[o]? := rfl
theorem lb65 (h : s.live i e = some cs) : loadT D s 65 (.pb i e o) = cs[o]? := by simp only [loadT, T65, h]; rfl
theorem sl65 : D.sl 65 = some (68, t68) := rfl
theorem ld66 : loadT D s 66 (.pt cs o) = cs[o]? := rfl
theorem lb66 (h : s.live i e = some cs) : loadT D s 66 (.pb i e o) = cs[o]? := by simp only [loadT, T66, h]; rfl
theorem ld67 : loadT D s 67 (.pt cs o) = (sub cs o 2).map .agg := rfl
theorem lb67 (h : s.live i e = some cs) : loadT D s 67 (.pb i e o) = (sub cs o 2).map .agg := by simp only [loadT, T67, h]; rfl
theorem fa67_0 : fieldT D 67 (.pt cs o) 0 = some (.pt cs (o + 0)) := rfl
theorem fb67_0 : fieldT D 67 (.pb i e o) 0 = some (.pb i e (o + 0)) := rfl
theorem fa67_1 : fieldT D 67 (.pt cs o) 1 = some (.pt cs (o + 1)) := rfl
theorem fb67_1 : fieldT D 67 (.pb i e o) 1 = some (.pb i e (o + 1)) := rfl
theorem ld68 : loadT D s 68 (.pt cs o) = (sub cs o 2).map .agg := rfl
theorem lb68 (h : s.live i e = some cs) : loadT D s 68 (.pb i e o) = (sub cs o 2).map .agg := by simp only [loadT, T68, h]; rfl
theorem fa68_0 : fieldT D 68 (.pt cs o) 0 = some (.pt cs (o + 0)) := rfl
theorem fb68_0 : fieldT D 68 (.pb i e o) 0 = some (.pb i e (o + 0)) := rfl
theorem fa68_1 : fieldT D 68 (.pt cs o) 1 = some (.pt cs (o + 1)) := rfl
theorem fb68_1 : fieldT D 68 (.pb i e o) 1 = some (.pb i e (o + 1)) := rfl
theorem ld69 : loadT D s 69 (.pt cs o) = cs[o]? := rfl
theorem lb69 (h : s.live i e = some cs) : loadT D s 69 (.pb i e o) = cs[o]? := by simp only [loadT, T69, h]; rfl
theorem ld70 : loadT D s 70 (.pt cs o) = cs[o]? := rfl
theorem lb70 (h : s.live i e = some cs) : loadT D s 70 (.pb i e o) = cs[o]? := by simp only [loadT, T70, h]; rfl
theorem ld71 : loadT D s 71 (.pt cs o) = cs[o]? := rfl
theorem lb71 (h : s.live i e = some cs) : loadT D s 71 (.pb i e o) = cs[o]? := by simp only [loadT, T71, h]; rfl
theorem ld72 : loadT D s 72 (.pt cs o) = cs[o]? := rfl
theorem lb72 (h : s.live i e = some cs) : loadT D s 72 (.pb i e o) = cs[o]? := by simp only [loadT, T72, h]; rfl
theorem ld73 : loadT D s 73 (.pt cs o) = cs[o]? := rfl
theorem lb73 (h : s.live i e = some cs) : loadT D s 73 (.pb i e o) = cs[o]? := by simp only [loadT, T73, h]; rfl
theorem ld74 : loadT D s 74 (.pt cs o) = cs[o]? := rfl
theorem lb74 (h : s.live i e = some cs) : loadT D s 74 (.pb i e o) = cs[o]? := by simp only [loadT, T74, h]; rfl
theorem ld75 : loadT D s 75 (.pt cs o) = cs[o]? := rfl
theorem lb75 (h : s.live i e = some cs) : loadT D s 75 (.pb i e o) = cs[o]? := by simp only [loadT, T75, h]; rfl
theorem sl75 : D.sl 75 = some (96, t96) := rfl
theorem ld76 : loadT D s 76 (.pt cs o) = cs[o]? := rfl
theorem lb76 (h : s.live i e = some cs) : loadT D s 76 (.pb i e o) = cs[o]? := by simp only [loadT, T76, h]; rfl
theorem sl76 : D.sl 76 = some (3, t3) := rfl
theorem ld77 : loadT D s 77 (.pt cs o) = (sub cs o 4).map .agg := rfl
theorem lb77 (h : s.live i e = some cs) : loadT D s 77 (.pb i e o) = (sub cs o 4).map .agg := by simp only [loadT, T77, h]; rfl
theorem fa77_0 : fieldT D 77 (.pt cs o) 0 = some (.pt cs (o + 0)) := rfl
theorem fb77_0 : fieldT D 77 (.pb i e o) 0 = some (.pb i e (o + 0)) := rfl
theorem fa77_1 : fieldT D 77 (.pt cs o) 1 = some (.pt cs (o + 1)) := rfl
theorem fb77_1 : fieldT D 77 (.pb i e o) 1 = some (.pb i e (o + 1)) := rfl
theorem fa77_2 : fieldT D 77 (.pt cs o) 2 = some (.pt cs (o + 2)) := rfl
theorem fb77_2 : fieldT D 77 (.pb i e o) 2 = some (.pb i e (o + 2)) := rfl
theorem fa77_3 : fieldT D 77 (.pt cs o) 3 = some (.pt cs (o + 3)) := rfl
theorem fb77_3 : fieldT D 77 (.pb i e o) 3 = some (.pb i e (o + 3)) := rfl
theorem ld78 : loadT D s 78 (.pt cs o) = (sub cs o 4).map .agg := rfl
theorem lb78 (h : s.live i e = some cs) : loadT D s 78 (.pb i e o) = (sub cs o 4).map .agg := by simp only [loadT, T78, h]; rfl
theorem fa78_0 : fieldT D 78 (.pt cs o) 0 = some (.pt cs (o + 0)) := rfl
theorem fb78_0 : fieldT D 78 (.pb i e o) 0 = some (.pb i e (o + 0)) := rfl
theorem fa78_1 : fieldT D 78 (.pt cs o) 1 = some (.pt cs (o + 1)) := rfl
theorem fb78_1 : fieldT D 78 (.pb i e o) 1 = some (.pb i e (o + 1)) := rfl
theorem fa78_2 : fieldT D 78 (.pt cs o) 2 = some (.pt cs (o + 2)) := rfl
theorem fb78_2 : fieldT D 78 (.pb i e o) 2 = some (.pb i e (o + 2)) := rfl
theorem fa78_3 : fieldT D 78 (.pt cs o) 3 = some (.pt cs (o + 3)) := rfl
theorem fb78_3 : fieldT D 78 (.pb i e o) 3 = some (.pb i e (o + 3)) := rfl
theorem ld79 : loadT D s 79 (.pt cs o) = (sub cs o 2).map .agg := rfl
theorem lb79 (h : s.live i e = some cs) : loadT D s 79 (.pb i e o) = (sub cs o 2).map .agg := by simp only [loadT, T79, h]; rfl
theorem fa79_0 : fieldT D 79 (.pt cs o) 0 = some (.pt cs (o + 0)) := rfl
theorem fb79_0 : fieldT D 79 (.pb i e o) 0 = some (.pb i e (o + 0)) := rfl
theorem fa79_1 : fieldT D 79 (.pt cs o) 1 = some (.pt cs (o + 1)) := rfl
theorem fb79_1 : fieldT D 79 (.pb i e o) 1 = some (.pb i e (o + 1)) := rfl
theorem ld80 : loadT D s 80 (.pt cs o) = (sub cs o 2).map .agg := rfl
theorem lb80 (h : s.live i e = some cs) : loadT D s 80 (.pb i e o) = (sub cs o 2).map .agg := by simp only [loadT, T80, h]; rfl
theorem fa80_0 : fieldT D 80 (.pt cs o) 0 = some (.pt cs (o + 0)) := rfl
theorem fb80_0 : fieldT D 80 (.pb i e o) 0 = some (.pb i e (o + 0)) := rfl
theorem fa80_1 : fieldT D 80 (.pt cs o) 1 = some (.pt cs (o + 1)) := rfl
theorem fb80_1 : fieldT D 80 (.pb i e o) 1 = some (.pb i e (o + 1)) := rfl
theorem ld81 : loadT D s 81 (.pt cs o) = (sub cs o 48).map .agg := rfl
theorem lb81 (h : s.live i e = some cs) : loadT D s 81 (.pb i e o) = (sub cs o 48).map .agg := by simp only [loadT, T81, h]; rfl
theorem ld82 : loadT D s 82 (.pt cs o) = (sub cs o 51).map .agg := rfl
theorem lb82 (h : s.live i e = some cs) : loadT D s 82 (.pb i e o) = (sub cs o 51).map .agg := by simp only [loadT, T82, h]; rfl
theorem fa82_0 : fieldT D 82 (.pt cs o) 0 = some (.pt cs (o + 0)) := rfl
theorem fb82_0 : fieldT D 82 (.pb i e o) 0 = some (.pb i e (o + 0)) := rfl
theorem fa82_1 : fieldT D 82 (.pt cs o) 1 = some (.pt cs (o + 48)) := rfl
theorem fb82_1 : fieldT D 82 (.pb i e o) 1 = some (.pb i e (o + 48)) := rfl
theorem fa82_2 : fieldT D 82 (.pt cs o) 2 = some (.pt cs (o + 49)) := rfl
theorem fb82_2 : fieldT D 82 (.pb i e o) 2 = some (.pb i e (o + 49)) := rfl
theorem fa82_3 : fieldT D 82 (.pt cs o) 3 = some (.pt cs (o + 50)) := rfl
theorem fb82_3 : fieldT D 82 (.pb i e o) 3 = some (.pb i e (o + 50)) := rfl
theorem ld83 : loadT D s 83 (.pt cs o) = (sub cs o 51).map .agg := rfl
theorem lb83 (h : s.live i e = some cs) : loadT D s 83 (.pb i e o) = (sub cs o 51).map .agg := by simp only [loadT, T83, h]; rfl
theorem fa83_0 : fieldT D 83 (.pt cs o) 0 = some (.pt cs (o + 0)) := rfl
theorem fb83_0 : fieldT D 83 (.pb i e o) 0 = some (.pb i e (o + 0)) := rfl
theorem fa83_1 : fieldT D 83 (.pt cs o) 1 = some (.pt cs (o + 48)) := rfl
theorem fb83_1 : fieldT D 83 (.pb i e o) 1 = some (.pb i e (o + 48)) := rfl
theorem fa83_2 : fieldT D 83 (.pt cs o) 2 = some (.pt cs (o + 49)) := rfl
theorem fb83_2 : fieldT D 83 (.pb i e o) 2 = some (.pb i e (o + 49)) := rfl
theorem fa83_3 : fieldT D 83 (.pt cs o) 3 = some (.pt cs (o + 50)) := rfl
theorem fb83_3 : fieldT D 83 (.pb i e o) 3 = some (.pb i e (o + 50)) := rfl
theorem ld84 : loadT D s 84 (.pt cs o) = cs[o]? := rfl
theorem lb84 (h : s.live i e = some cs) : loadT D s 84 (.pb i e o) = cs[o]? := by simp only [loadT, T84, h]; rfl
theorem ld85 : loadT D s 85 (.pt cs o) = cs[o]? := rfl
theorem lb85 (h : s.live i e = some cs) : loadT D s 85 (.pb i e o) = cs[o]? := by simp only [loadT, T85, h]; rfl
theorem ld86 : loadT D s 86 (.pt cs o) = (sub cs o 2).map .agg := rfl
theorem lb86 (h : s.live i e = some cs) : loadT D s 86 (.pb i e o) = (sub cs o 2).map .agg := by simp only [loadT, T86, h]; rfl
theorem fa86_0 : fieldT D 86 (.pt cs o) 0 = some (.pt cs (o + 0)) := rfl
theorem fb86_0 : fieldT D 86 (.pb i e o) 0 = some (.pb i e (o + 0)) := rfl
theorem fa86_1 : fieldT D 86 (.pt cs o) 1 = some (.pt cs (o + 1)) := rfl
theorem fb86_1 : fieldT D 86 (.pb i e o) 1 = some (.pb i e (o + 1)) := rfl
theorem ld87 : loadT D s 87 (.pt cs o) = (sub cs o 2).map .agg := rfl
theorem lb87 (h : s.live i e = some cs) : loadT D s 87 (.pb i e o) = (sub cs o 2).map .agg := by simp only [loadT, T87, h]; rfl
theorem fa87_0 : fieldT D 87 (.pt cs o) 0 = some (.pt cs (o + 0)) := rfl
theorem fb87_0 : fieldT D 87 (.pb i e o) 0 = some (.pb i e (o + 0)) := rfl
theorem fa87_1 : fieldT D 87 (.pt cs o) 1 = some (.pt cs (o + 1)) := rfl
theorem fb87_1 : fieldT D 87 (.pb i e o) 1 = some (.pb i e (o + 1)) := rfl
theorem ld88 : loadT D s 88 (.pt cs o) = cs[o]? := rfl
theorem lb88 (h : s.live i e = some cs) : loadT D s 88 (.pb i e o) = cs[o]? := by simp only [loadT, T88, h]; rfl
theorem ld89 : loadT D s 89 (.pt cs o) = cs[o]? := rfl
theorem lb89 (h : s.live i e = some cs) : loadT D s 89 (.pb i e o) = cs[o]? := by simp only [loadT, T89, h]; rfl
theorem ld90 : loadT D s 90 (.pt cs o) = cs[o]? := rfl
theorem lb90 (h : s.live i e = some cs) : loadT D s 90 (.pb i e o) = cs[o]? := by simp only [loadT, T90, h]; rfl
theorem ld91 : loadT D s 91 (.pt cs o) = cs[o]? := rfl
theorem lb91 (h : s.live i e = some cs) : loadT D s 91 (.pb i e o) = cs[o]? := by simp only [loadT, T91, h]; rfl
theorem ld92 : loadT D s 92 (.pt cs o) = cs[o]? := rfl
theorem lb92 (h : s.live i e = some cs) : loadT D s 92 (.pb i e o) = cs[o]? := by simp only [loadT, T92, h]; rfl
theorem ld93 : loadT D s 93 (.pt cs o) = cs[o]? := rfl
theorem lb93 (h : s.live i e = some cs) : loadT D s 93 (.pb i e o) = cs[o]? := by simp only [loadT, T93, h]; rfl
theorem ld94 : loadT D s 94 (.pt cs o) = cs[o]? := rfl
theorem lb94 (h : s.live i e = some cs) : loadT D s 94 (.pb i e o) = cs[o]? := by simp only [loadT, T94, h]; rfl
theorem ld95 : loadT D s 95 (.pt cs o) = (sub cs o 2).map .agg := rfl
theorem lb95 (h : s.live i e = some cs) : loadT D s 95 (.pb i e o) = (sub cs o 2).map .agg := by simp only [loadT, T95, h]; rfl
theorem fa95_0 : fieldT D 95 (.pt cs o) 0 = some (.pt cs (o + 0)) := rfl
theorem fb95_0 : fieldT D 95 (.pb i e o) 0 = some (.pb i e (o + 0)) := rfl
theorem fa95_1 : fieldT D 95 (.pt cs o) 1 = some (.pt cs (o + 1)) := rfl
theorem fb95_1 : fieldT D 95 (.pb i e o) 1 = some (.pb i e (o + 1)) := rfl
theorem ld96 : loadT D s 96 (.pt cs o) = (sub cs o 2).map .agg := rfl
theorem lb96 (h : s.live i e = some cs) : loadT D s 96 (.pb i e o) = (sub cs o 2).map .agg := by simp only [loadT, T96, h]; rfl
theorem fa96_0 : fieldT D 96 (.pt cs o) 0 = some (.pt cs (o + 0)) := rfl
theorem fb96_0 : fieldT D 96 (.pb i e o) 0 = some (.pb i e (o + 0)) := rfl
theorem fa96_1 : fieldT D 96 (.pt cs o) 1 = some (.pt cs (o + 1)) := rfl
theorem fb96_1 : fieldT D 96 (.pb i e o) 1 = some (.pb i e (o + 1)) := rfl
theorem ld97 : loadT D s 97 (.pt cs o) = cs[o]? := rfl
theorem lb97 (h : s.live i e = some cs) : loadT D s 97 (.pb i e o) = cs[o]? := by simp only [loadT, T97, h]; rfl
theorem ld98 : loadT D s 98 (.pt cs o) = cs[o]? := rfl
theorem lb98 (h : s.live i e = some cs) : loadT D s 98 (.pb i e o) = cs[o]? := by simp only [loadT, T98, h]; rfl
theorem ld99 : loadT D s 99 (.pt cs o) = cs[o]? := rfl
theorem lb99 (h : s.live i e = some cs) : loadT D s 99 (.pb i e o) = cs[o]? := by simp only [loadT, T99, h]; rfl
theorem ld100 : loadT D s 100 (.pt cs o) = cs[o]? := rfl
theorem lb100 (h : s.live i e = some cs) : loadT D s 100 (.pb i e o) = cs[o]? := by simp only [loadT, T100, h]; rfl
theorem ld101 : loadT D s 101 (.pt cs o) = cs[o]? := rfl
theorem lb101 (h : s.live i e = some cs) : loadT D s 101 (.pb i e o) = cs[o]? := by simp only [loadT, T101, h]; rfl
theorem ld102 : loadT D s 102 (.pt cs o) = cs[o]? := rfl
theorem lb102 (h : s.live i e = some cs) : loadT D s 102 (.pb i e o) = cs[o]? := by simp only [loadT, T102, h]; rfl
theorem ld103 : loadT D s 103 (.pt cs o) = cs[o]? := rfl
theorem lb103 (h : s.live i e = some cs) : loadT D s 103 (.pb i e o) = cs[o]? := by simp only [loadT, T103, h]; rfl
theorem sl103 : D.sl 103 = some (4, t4) := rfl
theorem ld104 : loadT D s 104 (.pt cs o) = cs[o]? := rfl
theorem lb104 (h : s.live i e = some cs) : loadT D s 104 (.pb i e o) = cs[o]? := by simp only [loadT, T104, h]; rfl
theorem ld105 : loadT D s 105 (.pt cs o) = cs[o]? := rfl
theorem lb105 (h : s.live i e = some cs) : loadT D s 105 (.pb i e o) = cs[o]? := by simp only [loadT, T105, h]; rfl
theorem ld106 : loadT D s 106 (.pt cs o) = (sub cs o 24).map .agg := rfl
theorem lb106 (h : s.live i e = some cs) : loadT D s 106 (.pb i e o) = (sub cs o 24).map .agg := by simp only [loadT, T106, h]; rfl
theorem ld107 : loadT D s 107 (.pt cs o) = (sub cs o 24).map .agg := rfl
theorem lb107 (h : s.live i e = some cs) : loadT D s 107 (.pb i e o) = (sub cs o 24).map .agg := by simp only [loadT, T107, h]; rfl
theorem ld108 : loadT D s 108 (.pt cs o) = (sub cs o 25).map .agg := rfl
theorem lb108 (h : s.live i e = some cs) : loadT D s 108 (.pb i e o) = (sub cs o 25).map .agg := by simp only [loadT, T108, h]; rfl
theorem fa108_0 : fieldT D 108 (.pt cs o) 0 = some (.pt cs (o + 0)) := rfl
theorem fb108_0 : fieldT D 108 (.pb i e o) 0 = some (.pb i e (o + 0)) := rfl
theorem fa108_1 : fieldT D 108 (.pt cs o) 1 = some (.pt cs (o + 1)) := rfl
theorem fb108_1 : fieldT D 108 (.pb i e o) 1 = some (.pb i e (o + 1)) := rfl
theorem ld109 : loadT D s 109 (.pt cs o) = (sub cs o 25).map .agg := rfl
theorem lb109 (h : s.live i e = some cs) : loadT D s 109 (.pb i e o) = (sub cs o 25).map .agg := by simp only [loadT, T109, h]; rfl
theorem fa109_0 : fieldT D 109 (.pt cs o) 0 = some (.pt cs (o + 0)) := rfl
theorem fb109_0 : fieldT D 109 (.pb i e o) 0 = some (.pb i e (o + 0)) := rfl
theorem fa109_1 : fieldT D 109 (.pt cs o) 1 = some (.pt cs (o + 1)) := rfl
theorem fb109_1 : fieldT D 109 (.pb i e o) 1 = some (.pb i e (o + 1)) := rfl
theorem ld110 : loadT D s 110 (.pt cs o) = cs[o]? := rfl
theorem lb110 (h : s.live i e = some cs) : loadT D s 110 (.pb i e o) = cs[o]? := by simp only [loadT, T110, h]; rfl
theorem sl110 : D.sl 110 = some (133, t133) := rfl
theorem ld111 : loadT D s 111 (.pt cs o) = (sub cs o 26).map .agg := rfl
theorem lb111 (h : s.live i e = some cs) : loadT D s 111 (.pb i e o) = (sub cs o 26).map .agg := by simp only [loadT, T111, h]; rfl
theorem fa111_0 : fieldT D 111 (.pt cs o) 0 = some (.pt cs (o + 0)) := rfl
theorem fb111_0 : fieldT D 111 (.pb i e o) 0 = some (.pb i e (o + 0)) := rfl
theorem fa111_1 : fieldT D 111 (.pt cs o) 1 = some (.pt cs (o + 25)) := rfl
theorem fb111_1 : fieldT D 111 (.pb i e o) 1 = some (.pb i e (o + 25)) := rfl
theorem ld112 : loadT D s 112 (.pt cs o) = (sub cs o 26).map .agg := rfl
theorem lb112 (h : s.live i e = some cs) : loadT D s 112 (.pb i e o) = (sub cs o 26).map .agg := by simp only [loadT, T112, h]; rfl
theorem fa112_0 : fieldT D 112 (.pt cs o) 0 = some (.pt cs (o + 0)) := rfl
theorem fb112_0 : fieldT D 112 (.pb i e o) 0 = some (.pb i e (o + 0)) := rfl
theorem fa112_1 : fieldT D 112 (.pt cs o) 1 = some (.pt cs (o + 25)) := rfl
theorem fb112_1 : fieldT D 112 (.pb i e o) 1 = some (.pb i e (o + 25)) := rfl
theorem ld113 : loadT D s 113 (.pt cs o) = cs[o]? := rfl
theorem lb113 (h : s.live i e = some cs) : loadT D s 113 (.pb i e o) = cs[o]? := by simp only [loadT, T113, h]; rfl
theorem sl113 : D.sl 113 = some (75, t75) := rfl
theorem ld114 : loadT D s 114 (.pt cs o) = cs[o]? := rfl
theorem lb114 (h : s.live i e = some cs) : loadT D s 114 (.pb i e o) = cs[o]? := by simp only [loadT, T114, h]; rfl
theorem sl114 : D.sl 114 = some (113, t113) := rfl
theorem ld115 : loadT D s 115 (.pt cs o) = cs[o]? := rfl
theorem lb115 (h : s.live i e = some cs) : loadT D s 115 (.pb i e o) = cs[o]? := by simp only [loadT, T115, h]; rfl
theorem sl115 : D.sl 115 = some (65, t65) := rfl
theorem ld116 : loadT D s 116 (.pt cs o) = (sub cs o 32).map .agg := rfl
theorem lb116 (h : s.live i e = some cs) : loadT D s 116 (.pb i e o) = (sub cs o 32).map .agg := by simp only [loadT, T116, h]; rfl
theorem fa116_0 : fieldT D 116 (.pt cs o) 0 = some (.pt cs (o + 0)) := rfl
theorem fb116_0 : fieldT D 116 (.pb i e o) 0 = some (.pb i e (o + 0)) := rfl
theorem fa116_1 : fieldT D 116 (.pt cs o) 1 = some (.pt cs (o + 1)) := rfl
theorem fb116_1 : fieldT D 116 (.pb i e o) 1 = some (.pb i e (o + 1)) := rfl
theorem fa116_2 : fieldT D 116 (.pt cs o) 2 = some (.pt cs (o + 2)) := rfl
theorem fb116_2 : fieldT D 116 (.pb i e o) 2 = some (.pb i e (o + 2)) := rfl
theorem fa116_3 : fieldT D 116 (.pt cs o) 3 = some (.pt cs (o + 28)) := rfl
theorem fb116_3 : fieldT D 116 (.pb i e o) 3 = some (.pb i e (o + 28)) := rfl
theorem fa116_4 : fieldT D 116 (.pt cs o) 4 = some (.pt cs (o + 29)) := rfl
theorem fb116_4 : fieldT D 116 (.pb i e o) 4 = some (.pb i e (o + 29)) := rfl
theorem fa116_5 : fieldT D 116 (.pt cs o) 5 = some (.pt cs (o + 30)) := rfl
theorem fb116_5 : fieldT D 116 (.pb i e o) 5 = some (.pb i e (o + 30)) := rfl
theorem fa116_6 : fieldT D 116 (.pt cs o) 6 = some (.pt cs (o + 31)) := rfl
theorem fb116_6 : fieldT D 116 (.pb i e o) 6 = some (.pb i e (o + 31)) := rfl
theorem ld117 : loadT D s 117 (.pt cs o) = (sub cs o 32).map .agg := rfl
theorem lb117 (h : s.live i e = some cs) : loadT D s 117 (.pb i e o) = (sub cs o 32).map .agg := by simp only [loadT, T117, h]; rfl
theorem fa117_0 : fieldT D 117 (.pt cs o) 0 = some (.pt cs (o + 0)) := rfl
theorem fb117_0 : fieldT D 117 (.pb i e o) 0 = some (.pb i e (o + 0)) := rfl
theorem fa117_1 : fieldT D 117 (.pt cs o) 1 = some (.pt cs (o + 1)) := rfl
theorem fb117_1 : fieldT D 117 (.pb i e o) 1 = some (.pb i e (o + 1)) := rfl
theorem fa117_2 : fieldT D 117 (.pt cs o) 2 = some (.pt cs (o + 2)) := rfl
theorem fb117_2 : fieldT D 117 (.pb i e o) 2 = some (.pb i e (o + 2)) := rfl
theorem fa117_3 : fieldT D 117 (.pt cs o) 3 = some (.pt cs (o + 28)) := rfl
theorem fb117_3 : fieldT D 117 (.pb i e o) 3 = some (.pb i e (o + 28)) := rfl
theorem fa117_4 : fieldT D 117 (.pt cs o) 4 = some (.pt cs (o + 29)) := rfl
theorem fb117_4 : fieldT D 117 (.pb i e o) 4 = some (.pb i e (o + 29)) := rfl
theorem fa117_5 : fieldT D 117 (.pt cs o) 5 = some (.pt cs (o + 30)) := rfl
theorem fb117_5 : fieldT D 117 (.pb i e o) 5 = some (.pb i e (o + 30)) := rfl
theorem fa117_6 : fieldT D 117 (.pt cs o) 6 = some (.pt cs (o + 31)) := rfl
theorem fb117_6 : fieldT D 117 (.pb i e o) 6 = some (.pb i e (o + 31)) := rfl
theorem ld118 : loadT D s 118 (.pt cs o) = cs[o]? := rfl
theorem lb118 (h : s.live i e = some cs) : loadT D s 118 (.pb i e o) = cs[o]? := by simp only [loadT, T118, h]; rfl
theorem ld119 : loadT D s 119 (.pt cs o) = cs[o]? := rfl
theorem lb119 (h : s.live i e = some cs) : loadT D s 119 (.pb i e o) = cs[o]? := by simp only [loadT, T119, h]; rfl
theorem ld120 : loadT D s 120 (.pt cs o) = cs[o]? := rfl
theorem lb120 (h : s.live i e = some cs) : loadT D s 120 (.pb i e o) = cs[o]? := by simp only [loadT, T120, h]; rfl
theorem ld121 : loadT D s 121 (.pt cs o) = cs[o]? := rfl
theorem lb121 (h : s.live i e = some cs) : loadT D s 121 (.pb i e o) = cs[o]? := by simp only [loadT, T121, h]; rfl
theorem ld122 : loadT D s 122 (.pt cs o) = cs[o]? := rfl
theorem lb122 (h : s.live i e = some cs) : loadT D s 122 (.pb i e o) = cs[o]? := by simp only [loadT, T122, h]; rfl
theorem ld123 : loadT D s 123 (.pt cs o) = cs[o]? := rfl
theorem lb123 (h : s.live i e = some cs) : loadT D s 123 (.pb i e o) = cs[o]? := by simp only [loadT, T123, h]; rfl
theorem ld124 : loadT D s 124 (.pt cs o) = cs[o]? := rfl
theorem lb124 (h : s.live i e = some cs) : loadT D s 124 (.pb i e o) = cs[o]? := by simp only [loadT, T124, h]; rfl
theorem ld125 : loadT D s 125 (.pt cs o) = cs[o]? := rfl
theorem lb125 (h : s.live i e = some cs) : loadT D s 125 (.pb i e o) = cs[o]? := by simp only [loadT, T125, h]; rfl
theorem ld126 : loadT D s 126 (.pt cs o) = cs[o]? := rfl
theorem lb126 (h : s.live i e = some cs) : loadT D s 126 (.pb i e o) = cs[o]? := by simp only [loadT, T126, h]; rfl
theorem sl126 : D.sl 126 = some (129, t129) := rfl
theorem ld127 : loadT D s 127 (.pt cs o) = cs[o]? := rfl
theorem lb127 (h : s.live i e = some cs) : loadT D s 127 (.pb i e o) = cs[o]? := by simp only [loadT, T127, h]; rfl
theorem ld128 : loadT D s 128 (.pt cs o) = cs[o]? := rfl
theorem lb128 (h : s.live i e = some cs) : loadT D s 128 (.pb i e o) = cs[o]? := by simp only [loadT, T128, h]; rfl
theorem ld129 : loadT D s 129 (.pt cs o) = (sub cs o 2).map .agg := rfl
theorem lb129 (h : s.live i e = some cs) : loadT D s 129 (.pb i e o) = (sub cs o 2).map .agg := by simp only [loadT, T129, h]; rfl
theorem ld130 : loadT D s 130 (.pt cs o) = cs[o]? := rfl
theorem lb130 (h : s.live i e = some cs) : loadT D s 130 (.pb i e o) = cs[o]? := by simp only [loadT, T130, h]; rfl
theorem ld131 : loadT D s 131 (.pt cs o) = cs[o]? := rfl
theorem lb131 (h : s.live i e = some cs) : loadT D s 131 (.pb i e o) = cs[o]? := by simp only [loadT, T131, h]; rfl
theorem sl131 : D.sl 131 = some (109, t109) := rfl
theorem ld132 : loadT D s 132 (.pt cs o) = (sub cs o 2).map .agg := rfl
theorem lb132 (h : s.live i e = some cs) : loadT D s 132 (.pb i e o) = (sub cs o 2).map .agg := by simp only [loadT, T132, h]; rfl
theorem fa132_0 : fieldT D 132 (.pt cs o) 0 = some (.pt cs (o + 0)) := rfl
theorem fb132_0 : fieldT D 132 (.pb i e o) 0 = some (.pb i e (o + 0)) := rfl
theorem fa132_1 : fieldT D 132 (.pt cs o) 1 = some (.pt cs (o + 1)) := rfl
theorem fb132_1 : fieldT D 132 (.pb i e o) 1 = some (.pb i e (o + 1)) := rfl
theorem ld133 : loadT D s 133 (.pt cs o) = (sub cs o 2).map .agg := rfl
theorem lb133 (h : s.live i e = some cs) : loadT D s 133 (.pb i e o) = (sub cs o 2).map .agg := by simp only [loadT, T133, h]; rfl
theorem fa133_0 : fieldT D 133 (.pt cs o) 0 = some (.pt cs (o + 0)) := rfl
theorem fb133_0 : fieldT D 133 (.pb i e o) 0 = some (.pb i e (o + 0)) := rfl
theorem fa133_1 : fieldT D 133 (.pt cs o) 1 = some (.pt cs (o + 1)) := rfl
theorem fb133_1 : fieldT D 133 (.pb i e o) 1 = some (.pb i e (o + 1)) := rfl
theorem ld134 : loadT D s 134 (.pt cs o) = (sub cs o 6).map .agg := rfl
theorem lb134 (h : s.live i e = some cs) : loadT D s 134 (.pb i e o) = (sub cs o 6).map .agg := by simp only [loadT, T134, h]; rfl
theorem fa134_0 : fieldT D 134 (.pt cs o) 0 = some (.pt cs (o + 0)) := rfl
theorem fb134_0 : fieldT D 134 (.pb i e o) 0 = some (.pb i e (o + 0)) := rfl
theorem fa134_1 : fieldT D 134 (.pt cs o) 1 = some (.pt cs (o + 1)) := rfl
theorem fb134_1 : fieldT D 134 (.pb i e o) 1 = some (.pb i e (o + 1)) := rfl
theorem fa134_2 : fieldT D 134 (.pt cs o) 2 = some (.pt cs (o + 2)) := rfl
theorem fb134_2 : fieldT D 134 (.pb i e o) 2 = some (.pb i e (o + 2)) := rfl
theorem fa134_3 : fieldT D 134 (.pt cs o) 3 = some (.pt cs (o + 3)) := rfl
theorem fb134_3 : fieldT D 134 (.pb i e o) 3 = some (.pb i e (o + 3)) := rfl
theorem fa134_4 : fieldT D 134 (.pt cs o) 4 = some (.pt cs (o + 4)) := rfl
theorem fb134_4 : fieldT D 134 (.pb i e o) 4 = some (.pb i e (o + 4)) := rfl
theorem fa134_5 : fieldT D 134 (.pt cs o) 5 = some (.pt cs (o + 5)) := rfl
theorem fb134_5 : fieldT D 134 (.pb i e o) 5 = some (.pb i e (o + 5)) := rfl
theorem ld135 : loadT D s 135 (.pt cs o) = (sub cs o 6).map .agg := rfl
theorem lb135 (h : s.live i e = some cs) : loadT D s 135 (.pb i e o) = (sub cs o 6).map .agg := by simp only [loadT, T135, h]; rfl
theorem fa135_0 : fieldT D 135 (.pt cs o) 0 = some (.pt cs (o + 0)) := rfl
theorem fb135_0 : fieldT D 135 (.pb i e o) 0 = some (.pb i e (o + 0)) := rfl
theorem fa135_1 : fieldT D 135 (.pt cs o) 1 = some (.pt cs (o + 1)) := rfl
theorem fb135_1 : fieldT D 135 (.pb i e o) 1 = some (.pb i e (o + 1)) := rfl
theorem fa135_2 : fieldT D 135 (.pt cs o) 2 = some (.pt cs (o + 2)) := rfl
theorem fb135_2 : fieldT D 135 (.pb i e o) 2 = some (.pb i e (o + 2)) := rfl
theorem fa135_3 : fieldT D 135 (.pt cs o) 3 = some (.pt cs (o + 3)) := rfl
theorem fb135_3 : fieldT D 135 (.pb i e o) 3 = some (.pb i e (o + 3)) := rfl
theorem fa135_4 : fieldT D 135 (.pt cs o) 4 = some (.pt cs (o + 4)) := rfl
theorem fb135_4 : fieldT D 135 (.pb i e o) 4 = some (.pb i e (o + 4)) := rfl
theorem fa135_5 : fieldT D 135 (.pt cs o) 5 = some (.pt cs (o + 5)) := rfl
theorem fb135_5 : fieldT D 135 (.pb i e o) 5 = some (.pb i e (o + 5)) := rfl
theorem ld136 : loadT D s 136 (.pt cs o) = cs[o]? := rfl
theorem lb136 (h : s.live i e = some cs) : loadT D s 136 (.pb i e o) = cs[o]? := by simp only [loadT, T136, h]; rfl
theorem ld137 : loadT D s 137 (.pt cs o) = cs[o]? := rfl
theorem lb137 (h : s.live i e = some cs) : loadT D s 137 (.pb i e o) = cs[o]? := by simp only [loadT, T137, h]; rfl
theorem ld138 : loadT D s 138 (.pt cs o) = (sub cs o 7).map .agg := rfl
theorem lb138 (h : s.live i e = some cs) : loadT D s 138 (.pb i e o) = (sub cs o 7).map .agg := by simp only [loadT, T138, h]; rfl
theorem fa138_0 : fieldT D 138 (.pt cs o) 0 = some (.pt cs (o + 0)) := rfl
theorem fb138_0 : fieldT D 138 (.pb i e o) 0 = some (.pb i e (o + 0)) := rfl
theorem fa138_1 : fieldT D 138 (.pt cs o) 1 = some (.pt cs (o + 6)) := rfl
theorem fb138_1 : fieldT D 138 (.pb i e o) 1 = some (.pb i e (o + 6)) := rfl
theorem ld139 : loadT D s 139 (.pt cs o) = (sub cs o 7).map .agg := rfl
theorem lb139 (h : s.live i e = some cs) : loadT D s 139 (.pb i e o) = (sub cs o 7).map .agg := by simp only [loadT, T139, h]; rfl
theorem fa139_0 : fieldT D 139 (.pt cs o) 0 = some (.pt cs (o + 0)) := rfl
theorem fb139_0 : fieldT D 139 (.pb i e o) 0 = some (.pb i e (o + 0)) := rfl
theorem fa139_1 : fieldT D 139 (.pt cs o) 1 = some (.pt cs (o + 6)) := rfl
theorem fb139_1 : fieldT D 139 (.pb i e o) 1 = some (.pb i e (o + 6)) := rfl
theorem ld140 : loadT D s 140 (.pt cs o) = cs[o]? := rfl
theorem lb140 (h : s.live i e = some cs) : loadT D s 140 (.pb i e o) = cs[o]? := by simp only [loadT, T140, h]; rfl
theorem ld141 : loadT D s 141 (.pt cs o) = cs[o]? := rfl
theorem lb141 (h : s.live i e = some cs) : loadT D s 141 (.pb i e o) = cs[o]? := by simp only [loadT, T141, h]; rfl
theorem ld142 : loadT D s 142 (.pt cs o) = cs[o]? := rfl
theorem lb142 (h : s.live i e = some cs) : loadT D s 142 (.pb i e o) = cs[o]? := by simp only [loadT, T142, h]; rfl
theorem ld143 : loadT D s 143 (.pt cs o) = cs[o]? := rfl
theorem lb143 (h : s.live i e = some cs) : loadT D s 143 (.pb i e o) = cs[o]? := by simp only [loadT, T143, h]; rfl
theorem ld144 : loadT D s 144 (.pt cs o) = cs[o]? := rfl
theorem lb144 (h : s.live i e = some cs) : loadT D s 144 (.pb i e o) = cs[o]? := by simp only [loadT, T144, h]; rfl
theorem ld145 : loadT D s 145 (.pt cs o) = cs[o]? := rfl
theorem lb145 (h : s.live i e = some cs) : loadT D s 145 (.pb i e o) = cs[o]? := by simp only [loadT, T145, h]; rfl
theorem ld146 : loadT D s 146 (.pt cs o) = (sub cs o 3).map .agg := rfl
theorem lb146 (h : s.live i e = some cs) : loadT D s 146 (.pb i e o) = (sub cs o 3).map .agg := by simp only [loadT, T146, h]; rfl
theorem fa146_0 : fieldT D 146 (.pt cs o) 0 = some (.pt cs (o + 0)) := rfl
theorem fb146_0 : fieldT D 146 (.pb i e o) 0 = some (.pb i e (o + 0)) := rfl
theorem fa146_1 : fieldT D 146 (.pt cs o) 1 = some (.pt cs (o + 1)) := rfl
theorem fb146_1 : fieldT D 146 (.pb i e o) 1 = some (.pb i e (o + 1)) := rfl
theorem fa146_2 : fieldT D 146 (.pt cs o) 2 = some (.pt cs (o + 2)) := rfl
theorem fb146_2 : fieldT D 146 (.pb i e o) 2 = some (.pb i e (o + 2)) := rfl
theorem ld147 : loadT D s 147 (.pt cs o) = (sub cs o 3).map .agg := rfl
theorem lb147 (h : s.live i e = some cs) : loadT D s 147 (.pb i e o) = (sub cs o 3).map .agg := by simp only [loadT, T147, h]; rfl
theorem fa147_0 : fieldT D 147 (.pt cs o) 0 = some (.pt cs (o + 0)) := rfl
theorem fb147_0 : fieldT D 147 (.pb i e o) 0 = some (.pb i e (o + 0)) := rfl
theorem fa147_1 : fieldT D 147 (.pt cs o) 1 = some (.pt cs (o + 1)) := rfl
theorem fb147_1 : fieldT D 147 (.pb i e o) 1 = some (.pb i e (o + 1)) := rfl
theorem fa147_2 : fieldT D 147 (.pt cs o) 2 = some (.pt cs (o + 2)) := rfl
theorem fb147_2 : fieldT D 147 (.pb i e o) 2 = some (.pb i e (o + 2)) := rfl
theorem ld148 : loadT D s 148 (.pt cs o) = cs[o]? := rfl
theorem lb148 (h : s.live i e = some cs) : loadT D s 148 (.pb i e o) = cs[o]? := by simp only [loadT, T148, h]; rfl
theorem ld149 : loadT D s 149 (.pt cs o) = cs[o]? := rfl
theorem lb149 (h : s.live i e = some cs) : loadT D s 149 (.pb i e o) = cs[o]? := by simp only [loadT, T149, h]; rfl
theorem sl149 : D.sl 149 = some (80, t80) := rfl
theorem ld150 : loadT D s 150 (.pt cs o) = (sub cs o 27).map .agg := rfl
theorem lb150 (h : s.live i e = some cs) : loadT D s 150 (.pb i e o) = (sub cs o 27).map .agg := by simp only [loadT, T150, h]; rfl
theorem fa150_0 : fieldT D 150 (.pt cs o) 0 = some (.pt cs (o + 0)) := rfl
theorem fb150_0 : fieldT D 150 (.pb i e o) 0 = some (.pb i e (o + 0)) := rfl
theorem fa150_1 : fieldT D 150 (.pt cs o) 1 = some (.pt cs (o + 3)) := rfl
theorem fb150_1 : fieldT D 150 (.pb i e o) 1 = some (.pb i e (o + 3)) := rfl
theorem fa150_2 : fieldT D 150 (.pt cs o) 2 = some (.pt cs (o + 14)) := rfl
theorem fb150_2 : fieldT D 150 (.pb i e o) 2 = some (.pb i e (o + 14)) := rfl
theorem fa150_3 : fieldT D 150 (.pt cs o) 3 = some (.pt cs (o + 15)) := rfl
theorem fb150_3 : fieldT D 150 (.pb i e o) 3 = some (.pb i e (o + 15)) := rfl
theorem fa150_4 : fieldT D 150 (.pt cs o) 4 = some (.pt cs (o + 16)) := rfl
theorem fb150_4 : fieldT D 150 (.pb i e o) 4 = some (.pb i e (o + 16)) := rfl
theorem fa150_5 : fieldT D 150 (.pt cs o) 5 = some (.pt cs (o + 17)) := rfl
theorem fb150_5 : fieldT D 150 (.pb i e o) 5 = some (.pb i e (o + 17)) := rfl
theorem fa150_6 : fieldT D 150 (.pt cs o) 6 = some (.pt cs (o + 18)) := rfl
theorem fb150_6 : fieldT D 150 (.pb i e o) 6 = some (.pb i e (o + 18)) := rfl
theorem fa150_7 : fieldT D 150 (.pt cs o) 7 = some (.pt cs (o + 19)) := rfl
theorem fb150_7 : fieldT D 150 (.pb i e o) 7 = some (.pb i e (o + 19)) := rfl
theorem fa150_8 : fieldT D 150 (.pt cs o) 8 = some (.pt cs (o + 21)) := rfl
theorem fb150_8 : fieldT D 150 (.pb i e o) 8 = some (.pb i e (o + 21)) := rfl
theorem ld151 : loadT D s 151 (.pt cs o) = (sub cs o 27).map .agg := rfl
theorem lb151 (h : s.live i e = some cs) : loadT D s 151 (.pb i e o) = (sub cs o 27).map .agg := by simp only [loadT, T151, h]; rfl
theorem fa151_0 : fieldT D 151 (.pt cs o) 0 = some (.pt cs (o + 0)) := rfl
theorem fb151_0 : fieldT D 151 (.pb i e o) 0 = some (.pb i e (o + 0)) := rfl
theorem fa151_1 : fieldT D 151 (.pt cs o) 1 = some (.pt cs (o + 3)) := rfl
theorem fb151_1 : fieldT D 151 (.pb i e o) 1 = some (.pb i e (o + 3)) := rfl
theorem fa151_2 : fieldT D 151 (.pt cs o) 2 = some (.pt cs (o + 14)) := rfl
theorem fb151_2 : fieldT D 151 (.pb i e o) 2 = some (.pb i e (o + 14)) := rfl
theorem fa151_3 : fieldT D 151 (.pt cs o) 3 = some (.pt cs (o + 15)) := rfl
theorem fb151_3 : fieldT D 151 (.pb i e o) 3 = some (.pb i e (o + 15)) := rfl
theorem fa151_4 : fieldT D 151 (.pt cs o) 4 = some (.pt cs (o + 16)) := rfl
theorem fb151_4 : fieldT D 151 (.pb i e o) 4 = some (.pb i e (o + 16)) := rfl
theorem fa151_5 : fieldT D 151 (.pt cs o) 5 = some (.pt cs (o + 17)) := rfl
theorem fb151_5 : fieldT D 151 (.pb i e o) 5 = some (.pb i e (o + 17)) := rfl
theorem fa151_6 : fieldT D 151 (.pt cs o) 6 = some (.pt cs (o + 18)) := rfl
theorem fb151_6 : fieldT D 151 (.pb i e o) 6 = some (.pb i e (o + 18)) := rfl
theorem fa151_7 : fieldT D 151 (.pt cs o) 7 = some (.pt cs (o + 19)) := rfl
theorem fb151_7 : fieldT D 151 (.pb i e o) 7 = some (.pb i e (o + 19)) := rfl
theorem fa151_8 : fieldT D 151 (.pt cs o) 8 = some (.pt cs (o + 21)) := rfl
theorem fb151_8 : fieldT D 151 (.pb i e o) 8 = some (.pb i e (o + 21)) := rfl
theorem ld152 : loadT D s 152 (.pt cs o) = cs[o]? := rfl
theorem lb152 (h : s.live i e = some cs) : loadT D s 152 (.pb i e o) = cs[o]? := by simp only [loadT, T152, h]; rfl
theorem ld153 : loadT D s 153 (.pt cs o) = cs[o]? := rfl
theorem lb153 (h : s.live i e = some cs) : loadT D s 153 (.pb i e o) = cs[o]? := by simp only [loadT, T153, h]; rfl
theorem ld154 : loadT D s 154 (.pt cs o) = cs[o]? := rfl
theorem lb154 (h : s.live i e = some cs) : loadT D s 154 (.pb i e o) = cs[o]? := by simp only [loadT, T154, h]; rfl
theorem ld155 : loadT D s 155 (.pt cs o) = cs[o]? := rfl
theorem lb155 (h : s.live i e = some cs) : loadT D s 155 (.pb i e o) = cs[o]? := by simp only [loadT, T155, h]; rfl
theorem ld156 : loadT D s 156 (.pt cs o) = cs[o]? := rfl
theorem lb156 (h : s.live i e = some cs) : loadT D s 156 (.pb i e o) = cs[o]? := by simp only [loadT, T156, h]; rfl
theorem ld157 : loadT D s 157 (.pt cs o) = (sub cs o 4).map .agg := rfl
theorem lb157 (h : s.live i e = some cs) : loadT D s 157 (.pb i e o) = (sub cs o 4).map .agg := by simp only [loadT, T157, h]; rfl
theorem fa157_0 : fieldT D 157 (.pt cs o) 0 = some (.pt cs (o + 0)) := rfl
theorem fb157_0 : fieldT D 157 (.pb i e o) 0 = some (.pb i e (o + 0)) := rfl
theorem fa157_1 : fieldT D 157 (.pt cs o) 1 = some (.pt cs (o + 1)) := rfl
theorem fb157_1 : fieldT D 157 (.pb i e o) 1 = some (.pb i e (o + 1)) := rfl
theorem fa157_2 : fieldT D 157 (.pt cs o) 2 = some (.pt cs (o + 2)) := rfl
theorem fb157_2 : fieldT D 157 (.pb i e o) 2 = some (.pb i e (o + 2)) := rfl
theorem fa157_3 : fieldT D 157 (.pt cs o) 3 = some (.pt cs (o + 3)) := rfl
theorem fb157_3 : fieldT D 157 (.pb i e o) 3 = some (.pb i e (o + 3)) := rfl
theorem ld158 : loadT D s 158 (.pt cs o) = (sub cs o 4).map .agg := rfl
theorem lb158 (h : s.live i e = some cs) : loadT D s 158 (.pb i e o) = (sub cs o 4).map .agg := by simp only [loadT, T158, h]; rfl
theorem fa158_0 : fieldT D 158 (.pt cs o) 0 = some (.pt cs (o + 0)) := rfl
theorem fb158_0 : fieldT D 158 (.pb i e o) 0 = some (.pb i e (o + 0)) := rfl
theorem fa158_1 : fieldT D 158 (.pt cs o) 1 = some (.pt cs (o + 1)) := rfl
theorem fb158_1 : fieldT D 158 (.pb i e o) 1 = some (.pb i e (o + 1)) := rfl
theorem fa158_2 : fieldT D 158 (.pt cs o) 2 = some (.pt cs (o + 2)) := rfl
theorem fb158_2 : fieldT D 158 (.pb i e o) 2 = some (.pb i e (o + 2)) := rfl
theorem fa158_3 : fieldT D 158 (.pt cs o) 3 = some (.pt cs (o + 3)) := rfl
theorem fb158_3 : fieldT D 158 (.pb i e o) 3 = some (.pb i e (o + 3)) := rfl
theorem ld159 : loadT D s 159 (.pt cs o) = (sub cs o 76).map .agg := rfl
theorem lb159 (h : s.live i e = some cs) : loadT D s 159 (.pb i e o) = (sub cs o 76).map .agg := by simp only [loadT, T159, h]; rfl
theorem ld160 : loadT D s 160 (.pt cs o) = cs[o]? := rfl
theorem lb160 (h : s.live i e = some cs) : loadT D s 160 (.pb i e o) = cs[o]? := by simp only [loadT, T160, h]; rfl
theorem ld161 : loadT D s 161 (.pt cs o) = cs[o]? := rfl
theorem lb161 (h : s.live i e = some cs) : loadT D s 161 (.pb i e o) = cs[o]? := by simp only [loadT, T161, h]; rfl
theorem ld162 : loadT D s 162 (.pt cs o) = cs[o]? := rfl
theorem lb162 (h : s.live i e = some cs) : loadT D s 162 (.pb i e o) = cs[o]? := by simp only [loadT, T162, h]; rfl
theorem ld163 : loadT D s 163 (.pt cs o) = cs[o]? := rfl
theorem lb163 (h : s.live i e = some cs) : loadT D s 163 (.pb i e o) = cs[o]? := by simp only [loadT, T163, h]; rfl
theorem ld164 : loadT D s 164 (.pt cs o) = cs[o]? := rfl
theorem lb164 (h : s.live i e = some cs) : loadT D s 164 (.pb i e o) = cs[o]? := by simp only [loadT, T164, h]; rfl
theorem ld165 : loadT D s 165 (.pt cs o) = cs[o]? := rfl
theorem lb165 (h : s.live i e = some cs) : loadT D s 165 (.pb i e o) = cs[o]? := by simp only [loadT, T165, h]; rfl
theorem ld166 : loadT D s 166 (.pt cs o) = cs[o]? := rfl
theorem lb166 (h : s.live i e = some cs) : loadT D s 166 (.pb i e o) = cs[o]? := by simp only [loadT, T166, h]; rfl
theorem ld167 : loadT D s 167 (.pt cs o) = cs[o]? := rfl
theorem lb167 (h : s.live i e = some cs) : loadT D s 167 (.pb i e o) = cs[o]? := by simp only [loadT, T167, h]; rfl
theorem ld168 : loadT D s 168 (.pt cs o) = cs[o]? := rfl
theorem lb168 (h : s.live i e = some cs) : loadT D s 168 (.pb i e o) = cs[o]? := by simp only [loadT, T168, h]; rfl
theorem ld169 : loadT D s 169 (.pt cs o) = cs[o]? := rfl
theorem lb169 (h : s.live i e = some cs) : loadT D s 169 (.pb i e o) = cs[o]? := by simp only [loadT, T169, h]; rfl
theorem ld170 : loadT D s 170 (.pt cs o) = cs[o]? := rfl
theorem lb170 (h : s.live i e = some cs) : loadT D s 170 (.pb i e o) = cs[o]? := by simp only [loadT, T170, h]; rfl
theorem ld171 : loadT D s 171 (.pt cs o) = cs[o]? := rfl
theorem lb171 (h : s.live i e = some cs) : loadT D s 171 (.pb i e o) = cs[o]? := by simp only [loadT, T171, h]; rfl
theorem ld172 : loadT D s 172 (.pt cs o) = cs[o]? := rfl
theorem lb172 (h : s.live i e = some cs) : loadT D s 172 (.pb i e o) = cs[o]? := by simp only [loadT, T172, h]; rfl
theorem ld173 : loadT D s 173 (.pt cs o) = cs[o]? := rfl
theorem lb173 (h : s.live i e = some cs) : loadT D s 173 (.pb i e o) = cs[o]? := by simp only [loadT, T173, h]; rfl
theorem ld174 : loadT D s 174 (.pt cs o) = (sub cs o 26).map .agg := rfl
theorem lb174 (h : s.live i e = some cs) : loadT D s 174 (.pb i e o) = (sub cs o 26).map .agg := by simp only [loadT, T174, h]; rfl
theorem fa174_0 : fieldT D 174 (.pt cs o) 0 = some (.pt cs (o + 0)) := rfl
theorem fb174_0 : fieldT D 174 (.pb i e o) 0 = some (.pb i e (o + 0)) := rfl
theorem fa174_1 : fieldT D 174 (.pt cs o) 1 = some (.pt cs (o + 1)) := rfl
theorem fb174_1 : fieldT D 174 (.pb i e o) 1 = some (.pb i e (o + 1)) := rfl
theorem fa174_2 : fieldT D 174 (.pt cs o) 2 = some (.pt cs (o + 25)) := rfl
theorem fb174_2 : fieldT D 174 (.pb i e o) 2 = some (.pb i e (o + 25)) := rfl
theorem ld175 : loadT D s 175 (.pt cs o) = (sub cs o 26).map .agg := rfl
theorem lb175 (h : s.live i e = some cs) : loadT D s 175 (.pb i e o) = (sub cs o 26).map .agg := by simp only [loadT, T175, h]; rfl
theorem fa175_0 : fieldT D 175 (.pt cs o) 0 = some (.pt cs (o + 0)) := rfl
theorem fb175_0 : fieldT D 175 (.pb i e o) 0 = some (.pb i e (o + 0)) := rfl
theorem fa175_1 : fieldT D 175 (.pt cs o) 1 = some (.pt cs (o + 1)) := rfl
theorem fb175_1 : fieldT D 175 (.pb i e o) 1 = some (.pb i e (o + 1)) := rfl
theorem fa175_2 : fieldT D 175 (.pt cs o) 2 = some (.pt cs (o + 25)) := rfl
theorem fb175_2 : fieldT D 175 (.pb i e o) 2 = some (.pb i e (o + 25)) := rfl
theorem ld176 : loadT D s 176 (.pt cs o) = cs[o]? := rfl
theorem lb176 (h : s.live i e = some cs) : loadT D s 176 (.pb i e o) = cs[o]? := by simp only [loadT, T176, h]; rfl
theorem ld177 : loadT D s 177 (.pt cs o) = cs[o]? := rfl
theorem lb177 (h : s.live i e = some cs) : loadT D s 177 (.pb i e o) = cs[o]? := by simp only [loadT, T177, h]; rfl
theorem ld178 : loadT D s 178 (.pt cs o) = cs[o]? := rfl
theorem lb178 (h : s.live i e = some cs) : loadT D s 178 (.pb i e o) = cs[o]? := by simp only [loadT, T178, h]; rfl
theorem ld179 : loadT D s 179 (.pt cs o) = cs[o]? := rfl
theorem lb179 (h : s.live i e = some cs) : loadT D s 179 (.pb i e o) = cs[o]? := by simp only [loadT, T179, h]; rfl
theorem ld180 : loadT D s 180 (.pt cs o) = cs[o]? := rfl
theorem lb180 (h : s.live i e = some cs) : loadT D s 180 (.pb i e o) = cs[o]? := by simp only [loadT, T180, h]; rfl
theorem ld181 : loadT D s 181 (.pt cs o) = cs[o]? := rfl
theorem lb181 (h : s.live i e = some cs) : loadT D s 181 (.pb i e o) = cs[o]? := by simp only [loadT, T181, h]; rfl
theorem ld182 : loadT D s 182 (.pt cs o) = cs[o]? := rfl
theorem lb182 (h : s.live i e = some cs) : loadT D s 182 (.pb i e o) = cs[o]? := by simp only [loadT, T182, h]; rfl
theorem ld183 : loadT D s 183 (.pt cs o) = cs[o]? := rfl
theorem lb183 (h : s.live i e = some cs) : loadT D s 183 (.pb i e o) = cs[o]? := by simp only [loadT, T183, h]; rfl
theorem ld184 : loadT D s 184 (.pt cs o) = cs[o]? := rfl
theorem lb184 (h : s.live i e = some cs) : loadT D s 184 (.pb i e o) = cs[o]? := by simp only [loadT, T184, h]; rfl
theorem sl184 : D.sl 184 = some (187, t187) := rfl
theorem ld185 : loadT D s 185 (.pt cs o) = cs[o]? := rfl
theorem lb185 (h : s.live i e = some cs) : loadT D s 185 (.pb i e o) = cs[o]? := by simp only [loadT, T185, h]; rfl
theorem sl185 : D.sl 185 = some (188, t188) := rfl
theorem ld186 : loadT D s 186 (.pt cs o) = (sub cs o 2).map .agg := rfl
theorem lb186 (h : s.live i e = some cs) : loadT D s 186 (.pb i e o) = (sub cs o 2).map .agg := by simp only [loadT, T186, h]; rfl
theorem fa186_0 : fieldT D 186 (.pt cs o) 0 = some (.pt cs (o + 0)) := rfl
theorem fb186_0 : fieldT D 186 (.pb i e o) 0 = some (.pb i e (o + 0)) := rfl
theorem fa186_1 : fieldT D 186 (.pt cs o) 1 = some (.pt cs (o + 1)) := rfl
theorem fb186_1 : fieldT D 186 (.pb i e o) 1 = some (.pb i e (o + 1)) := rfl
theorem ld187 : loadT D s 187 (.pt cs o) = (sub cs o 2).map .agg := rfl
theorem lb187 (h : s.live i e = some cs) : loadT D s 187 (.pb i e o) = (sub cs o 2).map .agg := by simp only [loadT, T187, h]; rfl
theorem fa187_0 : fieldT D 187 (.pt cs o) 0 = some (.pt cs (o + 0)) := rfl
theorem fb187_0 : fieldT D 187 (.pb i e o) 0 = some (.pb i e (o + 0)) := rfl
theorem fa187_1 : fieldT D 187 (.pt cs o) 1 = some (.pt cs (o + 1)) := rfl
theorem fb187_1 : fieldT D 187 (.pb i e o) 1 = some (.pb i e (o + 1)) := rfl
theorem ld188 : loadT D s 188 (.pt cs o) = (sub cs o 2).map .agg := rfl
theorem lb188 (h : s.live i e = some cs) : loadT D s 188 (.pb i e o) = (sub cs o 2).map .agg := by simp only [loadT, T188, h]; rfl
theorem fa188_0 : fieldT D 188 (.pt cs o) 0 = some (.pt cs (o + 0)) := rfl
theorem fb188_0 : fieldT D 188 (.pb i e o) 0 = some (.pb i e (o + 0)) := rfl
theorem fa188_1 : fieldT D 188 (.pt cs o) 1 = some (.pt cs (o + 1)) := rfl
theorem fb188_1 : fieldT D 188 (.pb i e o) 1 = some (.pb i e (o + 1)) := rfl
theorem ld189 : loadT D s 189 (.pt cs o) = cs[o]? := rfl
theorem lb189 (h : s.live i e = some cs) : loadT D s 189 (.pb i e o) = cs[o]? := by simp only [loadT, T189, h]; rfl
theorem ld190 : loadT D s 190 (.pt cs o) = (sub cs o 2).map .agg := rfl
theorem lb190 (h : s.live i e = some cs) : loadT D s 190 (.pb i e o) = (sub cs o 2).map .agg := by simp only [loadT, T190, h]; rfl
theorem fa190_0 : fieldT D 190 (.pt cs o) 0 = some (.pt cs (o + 0)) := rfl
theorem fb190_0 : fieldT D 190 (.pb i e o) 0 = some (.pb i e (o + 0)) := rfl
theorem fa190_1 : fieldT D 190 (.pt cs o) 1 = some (.pt cs (o + 1)) := rfl
theorem fb190_1 : fieldT D 190 (.pb i e o) 1 = some (.pb i e (o + 1)) := rfl
theorem ld191 : loadT D s 191 (.pt cs o) = (sub cs o 2).map .agg := rfl
theorem lb191 (h : s.live i e = some cs) : loadT D s 191 (.pb i e o) = (sub cs o 2).map .agg := by simp only [loadT, T191, h]; rfl
theorem fa191_0 : fieldT D 191 (.pt cs o) 0 = some (.pt cs (o + 0)) := rfl
theorem fb191_0 : fieldT D 191 (.pb i e o) 0 = some (.pb i e (o + 0)) := rfl
theorem fa191_1 : fieldT D 191 (.pt cs o) 1 = some (.pt cs (o + 1)) := rfl
theorem fb191_1 : fieldT D 191 (.pb i e o) 1 = some (.pb i e (o + 1)) := rfl
theorem ld192 : loadT D s 192 (.pt cs o) = cs[o]? := rfl
theorem lb192 (h : s.live i e = some cs) : loadT D s 192 (.pb i e o) = cs[o]? := by simp only [loadT, T192, h]; rfl
theorem ld193 : loadT D s 193 (.pt cs o) = cs[o]? := rfl
theorem lb193 (h : s.live i e = some cs) : loadT D s 193 (.pb i e o) = cs[o]? := by simp only [loadT, T193, h]; rfl
theorem ld194 : loadT D s 194 (.pt cs o) = cs[o]? := rfl
theorem lb194 (h : s.live i e = some cs) : loadT D s 194 (.pb i e o) = cs[o]? := by simp only [loadT, T194, h]; rfl
theorem ld195 : loadT D s 195 (.pt cs o) = cs[o]? := rfl
theorem lb195 (h : s.live i e = some cs) : loadT D s 195 (.pb i e o) = cs[o]? := by simp only [loadT, T195, h]; rfl
theorem ld196 : loadT D s 196 (.pt cs o) = cs[o]? := rfl
theorem lb196 (h : s.live i e = some cs) : loadT D s 196 (.pb i e o) = cs[o]? := by simp only [loadT, T196, h]; rfl
theorem ld197 : loadT D s 197 (.pt cs o) = cs[o]? := rfl
theorem lb197 (h : s.live i e = some cs) : loadT D s 197 (.pb i e o) = cs[o]? := by simp only [loadT, T197, h]; rfl
theorem ld198 : loadT D s 198 (.pt cs o) = cs[o]? := rfl
theorem lb198 (h : s.live i e = some cs) : loadT D s 198 (.pb i e o) = cs[o]? := by simp only [loadT, T198, h]; rfl
theorem ld199 : loadT D s 199 (.pt cs o) = (sub cs o 2).map .agg := rfl
theorem lb199 (h : s.live i e = some cs) : loadT D s 199 (.pb i e o) = (sub cs o 2).map .agg := by simp only [loadT, T199, h]; rfl
theorem ld200 : loadT D s 200 (.pt cs o) = cs[o]? := rfl
theorem lb200 (h : s.live i e = some cs) : loadT D s 200 (.pb i e o) = cs[o]? := by simp only [loadT, T200, h]; rfl
theorem ld201 : loadT D s 201 (.pt cs o) = cs[o]? := rfl
theorem lb201 (h : s.live i e = some cs) : loadT D s 201 (.pb i e o) = cs[o]? := by simp only [loadT, T201, h]; rfl
theorem ld202 : loadT D s 202 (.pt cs o) = cs[o]? := rfl
theorem lb202 (h : s.live i e = some cs) : loadT D s 202 (.pb i e o) = cs[o]? := by simp only [loadT, T202, h]; rfl
theorem ld203 : loadT D s 203 (.pt cs o) = cs[o]? := rfl
theorem lb203 (h : s.live i e = some cs) : loadT D s 203 (.pb i e o) = cs[o]? := by simp only [loadT, T203, h]; rfl
theorem ld204 : loadT D s 204 (.pt cs o) = cs[o]? := rfl
theorem lb204 (h : s.live i e = some cs) : loadT D s 204 (.pb i e o) = cs[o]? := by simp only [loadT, T204, h]; rfl
theorem ld205 : loadT D s 205 (.pt cs o) = cs[o]? := rfl
theorem lb205 (h : s.live i e = some cs) : loadT D s 205 (.pb i e o) = cs[o]? := by simp only [loadT, T205, h]; rfl
theorem ld206 : loadT D s 206 (.pt cs o) = cs[o]? := rfl
theorem lb206 (h : s.live i e = some cs) : loadT D s 206 (.pb i e o) = cs[o]? := by simp only [loadT, T206, h]; rfl
theorem ld207 : loadT D s 207 (.pt cs o) = cs[o]? := rfl
theorem lb207 (h : s.live i e = some cs) : loadT D s 207 (.pb i e o) = cs[o]? := by simp only [loadT, T207, h]; rfl
theorem ld208 : loadT D s 208 (.pt cs o) = cs[o]? := rfl
theorem lb208 (h : s.live i e = some cs) : loadT D s 208 (.pb i e o) = cs[o]? := by simp only [loadT, T208, h]; rfl
theorem ld209 : loadT D s 209 (.pt cs o) = cs[o]? := rfl
theorem lb209 (h : s.live i e = some cs) : loadT D s 209 (.pb i e o) = cs[o]? := by simp only [loadT, T209, h]; rfl
theorem sl209 : D.sl 209 = some (5, t5) := rfl
theorem ld210 : loadT D s 210 (.pt cs o) = cs[o]? := rfl
theorem lb210 (h : s.live i e = some cs) : loadT D s 210 (.pb i e o) = cs[o]? := by simp only [loadT, T210, h]; rfl
theorem ld211 : loadT D s 211 (.pt cs o) = cs[o]? := rfl
theorem lb211 (h : s.live i e = some cs) : loadT D s 211 (.pb i e o) = cs[o]? := by simp only [loadT, T211, h]; rfl
theorem ld212 : loadT D s 212 (.pt cs o) = cs[o]? := rfl
theorem lb212 (h : s.live i e = some cs) : loadT D s 212 (.pb i e o) = cs[o]? := by simp only [loadT, T212, h]; rfl
theorem ld213 : loadT D s 213 (.pt cs o) = cs[o]? := rfl
theorem lb213 (h : s.live i e = some cs) : loadT D s 213 (.pb i e o) = cs[o]? := by simp only [loadT, T213, h]; rfl
theorem ld214 : loadT D s 214 (.pt cs o) = cs[o]? := rfl
theorem lb214 (h : s.live i e = some cs) : loadT D s 214 (.pb i e o) = cs[o]? := by simp only [loadT, T214, h]; rfl
theorem ld215 : loadT D s 215 (.pt cs o) = cs[o]? := rfl
theorem lb215 (h : s.live i e = some cs) : loadT D s 215 (.pb i e o) = cs[o]? := by simp only [loadT, T215, h]; rfl
theorem ld216 : loadT D s 216 (.pt cs o) = cs[o]? := rfl
theorem lb216 (h : s.live i e = some cs) : loadT D s 216 (.pb i e o) = cs[o]? := by simp only [loadT, T216, h]; rfl
theorem ld217 : loadT D s 217 (.pt cs o) = cs[o]? := rfl
theorem lb217 (h : s.live i e = some cs) : loadT D s 217 (.pb i e o) = cs[o]? := by simp only [loadT, T217, h]; rfl
theorem ld218 : loadT D s 218 (.pt cs o) = (sub cs o 61).map .agg := rfl
theorem lb218 (h : s.live i e = some cs) : loadT D s 218 (.pb i e o) = (sub cs o 61).map .agg := by simp only [loadT, T218, h]; rfl
theorem fa218_0 : fieldT D 218 (.pt cs o) 0 = some (.pt cs (o + 0)) := rfl
theorem fb218_0 : fieldT D 218 (.pb i e o) 0 = some (.pb i e (o + 0)) := rfl
theorem fa218_1 : fieldT D 218 (.pt cs o) 1 = some (.pt cs (o + 51)) := rfl
theorem fb218_1 : fieldT D 218 (.pb i e o) 1 = some (.pb i e (o + 51)) := rfl
theorem fa218_2 : fieldT D 218 (.pt cs o) 2 = some (.pt cs (o + 57)) := rfl
theorem fb218_2 : fieldT D 218 (.pb i e o) 2 = some (.pb i e (o + 57)) := rfl
theorem fa218_3 : fieldT D 218 (.pt cs o) 3 = some (.pt cs (o + 58)) := rfl
theorem fb218_3 : fieldT D 218 (.pb i e o) 3 = some (.pb i e (o + 58)) := rfl
theorem fa218_4 : fieldT D 218 (.pt cs o) 4 = some (.pt cs (o + 59)) := rfl
theorem fb218_4 : fieldT D 218 (.pb i e o) 4 = some (.pb i e (o + 59)) := rfl
theorem fa218_5 : fieldT D 218 (.pt cs o) 5 = some (.pt cs (o + 60)) := rfl
theorem fb218_5 : fieldT D 218 (.pb i e o) 5 = some (.pb i e (o + 60)) := rfl
theorem ld219 : loadT D s 219 (.pt cs o) = (sub cs o 61).map .agg := rfl
theorem lb219 (h : s.live i e = some cs) : loadT D s 219 (.pb i e o) = (sub cs o 61).map .agg := by simp only [loadT, T219, h]; rfl
theorem fa219_0 : fieldT D 219 (.pt cs o) 0 = some (.pt cs (o + 0)) := rfl
theorem fb219_0 : fieldT D 219 (.pb i e o) 0 = some (.pb i e (o + 0)) := rfl
theorem fa219_1 : fieldT D 219 (.pt cs o) 1 = some (.pt cs (o + 51)) := rfl
theorem fb219_1 : fieldT D 219 (.pb i e o) 1 = some (.pb i e (o + 51)) := rfl
theorem fa219_2 : fieldT D 219 (.pt cs o) 2 = some (.pt cs (o + 57)) := rfl
theorem fb219_2 : fieldT D 219 (.pb i e o) 2 = some (.pb i e (o + 57)) := rfl
theorem fa219_3 : fieldT D 219 (.pt cs o) 3 = some (.pt cs (o + 58)) := rfl
theorem fb219_3 : fieldT D 219 (.pb i e o) 3 = some (.pb i e (o + 58)) := rfl
theorem fa219_4 : fieldT D 219 (.pt cs o) 4 = some (.pt cs (o + 59)) := rfl
theorem fb219_4 : fieldT D 219 (.pb i e o) 4 = some (.pb i e (o + 59)) := rfl
theorem fa219_5 : fieldT D 219 (.pt cs o) 5 = some (.pt cs (o + 60)) := rfl
theorem fb219_5 : fieldT D 219 (.pb i e o) 5 = some (.pb i e (o + 60)) := rfl
theorem ld220 : loadT D s 220 (.pt cs o) = (sub cs o 36).map .agg := rfl
theorem lb220 (h : s.live i e = some cs) : loadT D s 220 (.pb i e o) = (sub cs o 36).map .agg := by simp only [loadT, T220, h]; rfl
theorem ld221 : loadT D s 221 (.pt cs o) = cs[o]? := rfl
theorem lb221 (h : s.live i e = some cs) : loadT D s 221 (.pb i e o) = cs[o]? := by simp only [loadT, T221, h]; rfl
theorem ld222 : loadT D s 222 (.pt cs o) = cs[o]? := rfl
theorem lb222 (h : s.live i e = some cs) : loadT D s 222 (.pb i e o) = cs[o]? := by simp only [loadT, T222, h]; rfl
theorem ld223 : loadT D s 223 (.pt cs o) = (sub cs o 200).map .agg := rfl
theorem lb223 (h : s.live i e = some cs) : loadT D s 223 (.pb i e o) = (sub cs o 200).map .agg := by simp only [loadT, T223, h]; rfl
theorem ld224 : loadT D s 224 (.pt cs o) = cs[o]? := rfl
theorem lb224 (h : s.live i e = some cs) : loadT D s 224 (.pb i e o) = cs[o]? := by simp only [loadT, T224, h]; rfl
theorem ld225 : loadT D s 225 (.pt cs o) = cs[o]? := rfl
theorem lb225 (h : s.live i e = some cs) : loadT D s 225 (.pb i e o) = cs[o]? := by simp only [loadT, T225, h]; rfl
theorem ld226 : loadT D s 226 (.pt cs o) = cs[o]? := rfl
theorem lb226 (h : s.live i e = some cs) : loadT D s 226 (.pb i e o) = cs[o]? := by simp only [loadT, T226, h]; rfl
theorem ld227 : loadT D s 227 (.pt cs o) = cs[o]? := rfl
theorem lb227 (h : s.live i e = some cs) : loadT D s 227 (.pb i e o) = cs[o]? := by simp only [loadT, T227, h]; rfl
theorem ld228 : loadT D s 228 (.pt cs o) = (sub cs o 1).map .agg := rfl
theorem lb228 (h : s.live i e = some cs) : loadT D s 228 (.pb i e o) = (sub cs o 1).map .agg := by simp only [loadT, T228, h]; rfl
theorem fa228_0 : fieldT D 228 (.pt cs o) 0 = some (.pt cs (o + 0)) := rfl
theorem fb228_0 : fieldT D 228 (.pb i e o) 0 = some (.pb i e (o + 0)) := rfl
theorem ld229 : loadT D s 229 (.pt cs o) = (sub cs o 1).map .agg := rfl
theorem lb229 (h : s.live i e = some cs) : loadT D s 229 (.pb i e o) = (sub cs o 1).map .agg := by simp only [loadT, T229, h]; rfl
theorem fa229_0 : fieldT D 229 (.pt cs o) 0 = some (.pt cs (o + 0)) := rfl
theorem fb229_0 : fieldT D 229 (.pb i e o) 0 = some (.pb i e (o + 0)) := rfl
theorem ld230 : loadT D s 230 (.pt cs o) = cs[o]? := rfl
theorem lb230 (h : s.live i e = some cs) : loadT D s 230 (.pb i e o) = cs[o]? := by simp only [loadT, T230, h]; rfl
theorem ld231 : loadT D s 231 (.pt cs o) = (sub cs o 1).map .agg := rfl
theorem lb231 (h : s.live i e = some cs) : loadT D s 231 (.pb i e o) = (sub cs o 1).map .agg := by simp only [loadT, T231, h]; rfl
theorem fa231_0 : fieldT D 231 (.pt cs o) 0 = some (.pt cs (o + 0)) := rfl
theorem fb231_0 : fieldT D 231 (.pb i e o) 0 = some (.pb i e (o + 0)) := rfl
theorem ld232 : loadT D s 232 (.pt cs o) = (sub cs o 1).map .agg := rfl
theorem lb232 (h : s.live i e = some cs) : loadT D s 232 (.pb i e o) = (sub cs o 1).map .agg := by simp only [loadT, T232, h]; rfl
theorem fa232_0 : fieldT D 232 (.pt cs o) 0 = some (.pt cs (o + 0)) := rfl
theorem fb232_0 : fieldT D 232 (.pb i e o) 0 = some (.pb i e (o + 0)) := rfl
theorem ld233 : loadT D s 233 (.pt cs o) = cs[o]? := rfl
theorem lb233 (h : s.live i e = some cs) : loadT D s 233 (.pb i e o) = cs[o]? := by simp only [loadT, T233, h]; rfl
theorem ld234 : loadT D s 234 (.pt cs o) = cs[o]? := rfl
theorem lb234 (h : s.live i e = some cs) : loadT D s 234 (.pb i e o) = cs[o]? := by simp only [loadT, T234, h]; rfl
theorem ld235 : loadT D s 235 (.pt cs o) = cs[o]? := rfl
theorem lb235 (h : s.live i e = some cs) : loadT D s 235 (.pb i e o) = cs[o]? := by simp only [loadT, T235, h]; rfl
theorem ld236 : loadT D s 236 (.pt cs o) = cs[o]? := rfl
theorem lb236 (h : s.live i e = some cs) : loadT D s 236 (.pb i e o) = cs[o]? := by simp only [loadT, T236, h]; rfl
theorem ld237 : loadT D s 237 (.pt cs o) = cs[o]? := rfl
theorem lb237 (h : s.live i e = some cs) : loadT D s 237 (.pb i e o) = cs[o]? := by simp only [loadT, T237, h]; rfl
theorem ld238 : loadT D s 238 (.pt cs o) = cs[o]? := rfl
theorem lb238 (h : s.live i e = some cs) : loadT D s 238 (.pb i e o) = cs[o]? := by simp only [loadT, T238, h]; rfl
theorem ld239 : loadT D s 239 (.pt cs o) = cs[o]? := rfl
theorem lb239 (h : s.live i e = some cs) : loadT D s 239 (.pb i e o) = cs[o]? := by simp only [loadT, T239, h]; rfl
theorem ld240 : loadT D s 240 (.pt cs o) = cs[o]? := rfl
theorem lb240 (h : s.live i e = some cs) : loadT D s 240 (.pb i e o) = cs[o]? := by simp only [loadT, T240, h]; rfl
theorem ld241 : loadT D s 241 (.pt cs o) = cs[o]? := rfl
theorem lb241 (h : s.live i e = some cs) : loadT D s 241 (.pb i e o) = cs[o]? := by simp only [loadT, T241, h]; rfl
theorem ld242 : loadT D s 242 (.pt cs o) = cs[o]? := rfl
theorem lb242 (h : s.live i e = some cs) : loadT D s 242 (.pb i e o) = cs[o]? := by simp only [loadT, T242, h]; rfl
theorem ld243 : loadT D s 243 (.pt cs o) = cs[o]? := rfl
theorem lb243 (h : s.live i e = some cs) : loadT D s 243 (.pb i e o) = cs[o]? := by simp only [loadT, T243, h]; rfl
theorem ld244 : loadT D s 244 (.pt cs o) = cs[o]? := rfl
theorem lb244 (h : s.live i e = some cs) : loadT D s 244 (.pb i e o) = cs[o]? := by simp only [loadT, T244, h]; rfl
theorem ld245 : loadT D s 245 (.pt cs o) = cs[o]? := rfl
theorem lb245 (h : s.live i e = some cs) : loadT D s 245 (.pb i e o) = cs[o]? := by simp only [loadT, T245, h]; rfl
theorem ld246 : loadT D s 246 (.pt cs o) = cs[o]? := rfl
theorem lb246 (h : s.live i e = some cs) : loadT D s 246 (.pb i e o) = cs[o]? := by simp only [loadT, T246, h]; rfl
theorem ld247 : loadT D s 247 (.pt cs o) = cs[o]? := rfl
theorem lb247 (h : s.live i e = some cs) : loadT D s 247 (.pb i e o) = cs[o]? := by simp only [loadT, T247, h]; rfl
theorem ld248 : loadT D s 248 (.pt cs o) = cs[o]? := rfl
theorem lb248 (h : s.live i e = some cs) : loadT D s 248 (.pb i e o) = cs[o]? := by simp only [loadT, T248, h]; rfl
theorem ld249 : loadT D s 249 (.pt cs o) = cs[o]? := rfl
theorem lb249 (h : s.live i e = some cs) : loadT D s 249 (.pb i e o) = cs[o]? := by simp only [loadT, T249, h]; rfl
theorem ld250 : loadT D s 250 (.pt cs o) = cs[o]? := rfl
theorem lb250 (h : s.live i e = some cs) : loadT D s 250 (.pb i e o) = cs[o]? := by simp only [loadT, T250, h]; rfl
theorem ld251 : loadT D s 251 (.pt cs o) = cs[o]? := rfl
theorem lb251 (h : s.live i e = some cs) : loadT D s 251 (.pb i e o) = cs[o]? := by simp only [loadT, T251, h]; rfl
theorem ld252 : loadT D s 252 (.pt cs o) = cs[o]? := rfl
theorem lb252 (h : s.live i e = some cs) : loadT D s 252 (.pb i e o) = cs[o]? := by simp only [loadT, T252, h]; rfl
theorem ld253 : loadT D s 253 (.pt cs o) = cs[o]? := rfl
theorem lb253 (h : s.live i e = some cs) : loadT D s 253 (.pb i e o) = cs[o]? := by simp only [loadT, T253, h]; rfl
theorem ld254 : loadT D s 254 (.pt cs o) = cs[o]? := rfl
theorem lb254 (h : s.live i e = some cs) : loadT D s 254 (.pb i e o) = cs[o]? := by simp only [loadT, T254, h]; rfl
theorem ld255 : loadT D s 255 (.pt cs o) = (sub cs o 3).map .agg := rfl
theorem lb255 (h : s.live i e = some cs) : loadT D s 255 (.pb i e o) = (sub cs o 3).map .agg := by simp only [loadT, T255, h]; rfl
theorem fa255_0 : fieldT D 255 (.pt cs o) 0 = some (.pt cs (o + 0)) := rfl
theorem fb255_0 : fieldT D 255 (.pb i e o) 0 = some (.pb i e (o + 0)) := rfl
theorem fa255_1 : fieldT D 255 (.pt cs o) 1 = some (.pt cs (o + 1)) := rfl
theorem fb255_1 : fieldT D 255 (.pb i e o) 1 = some (.pb i e (o + 1)) := rfl
theorem fa255_2 : fieldT D 255 (.pt cs o) 2 = some (.pt cs (o + 2)) := rfl
theorem fb255_2 : fieldT D 255 (.pb i e o) 2 = some (.pb i e (o + 2)) := rfl
theorem ld256 : loadT D s 256 (.pt cs o) = (sub cs o 3).map .agg := rfl
theorem lb256 (h : s.live i e = some cs) : loadT D s 256 (.pb i e o) = (sub cs o 3).map .agg := by simp only [loadT, T256, h]; rfl
theorem fa256_0 : fieldT D 256 (.pt cs o) 0 = some (.pt cs (o + 0)) := rfl
theorem fb256_0 : fieldT D 256 (.pb i e o) 0 = some (.pb i e (o + 0)) := rfl
theorem fa256_1 : fieldT D 256 (.pt cs o) 1 = some (.pt cs (o + 1)) := rfl
theorem fb256_1 : fieldT D 256 (.pb i e o) 1 = some (.pb i e (o + 1)) := rfl
theorem fa256_2 : fieldT D 256 (.pt cs o) 2 = some (.pt cs (o + 2)) := rfl
theorem fb256_2 : fieldT D 256 (.pb i e o) 2 = some (.pb i e (o + 2)) := rfl
theorem ld257 : loadT D s 257 (.pt cs o) = (sub cs o 4).map .agg := rfl
theorem lb257 (h : s.live i e = some cs) : loadT D s 257 (.pb i e o) = (sub cs o 4).map .agg := by simp only [loadT, T257, h]; rfl
theorem fa257_0 : fieldT D 257 (.pt cs o) 0 = some (.pt cs (o + 0)) := rfl
theorem fb257_0 : fieldT D 257 (.pb i e o) 0 = some (.pb i e (o + 0)) := rfl
theorem fa257_1 : fieldT D 257 (.pt cs o) 1 = some (.pt cs (o + 1)) := rfl
theorem fb257_1 : fieldT D 257 (.pb i e o) 1 = some (.pb i e (o + 1)) := rfl
theorem fa257_2 : fieldT D 257 (.pt cs o) 2 = some (.pt cs (o + 3)) := rfl
theorem fb257_2 : fieldT D 257 (.pb i e o) 2 = some (.pb i e (o + 3)) := rfl
theorem ld258 : loadT D s 258 (.pt cs o) = (sub cs o 4).map .agg := rfl
theorem lb258 (h : s.live i e = some cs) : loadT D s 258 (.pb i e o) = (sub cs o 4).map .agg := by simp only [loadT, T258, h]; rfl
theorem fa258_0 : fieldT D 258 (.pt cs o) 0 = some (.pt cs (o + 0)) := rfl
theorem fb258_0 : fieldT D 258 (.pb i e o) 0 = some (.pb i e (o + 0)) := rfl
theorem fa258_1 : fieldT D 258 (.pt cs o) 1 = some (.pt cs (o + 1)) := rfl
theorem fb258_1 : fieldT D 258 (.pb i e o) 1 = some (.pb i e (o + 1)) := rfl
theorem fa258_2 : fieldT D 258 (.pt cs o) 2 = some (.pt cs (o + 3)) := rfl
theorem fb258_2 : fieldT D 258 (.pb i e o) 2 = some (.pb i e (o + 3)) := rfl
theorem ld259 : loadT D s 259 (.pt cs o) = cs[o]? := rfl
theorem lb259 (h : s.live i e = some cs) : loadT D s 259 (.pb i e o) = cs[o]? := by simp only [loadT, T259, h]; rfl
theorem ld260 : loadT D s 260 (.pt cs o) = cs[o]? := rfl
theorem lb260 (h : s.live i e = some cs) : loadT D s 260 (.pb i e o) = cs[o]? := by simp only [loadT, T260, h]; rfl
theorem ld261 : loadT D s 261 (.pt cs o) = cs[o]? := rfl
theorem lb261 (h : s.live i e = some cs) : loadT D s 261 (.pb i e o) = cs[o]? := by simp only [loadT, T261, h]; rfl
theorem ld262 : loadT D s 262 (.pt cs o) = cs[o]? := rfl
theorem lb262 (h : s.live i e = some cs) : loadT D s 262 (.pb i e o) = cs[o]? := by simp only [loadT, T262, h]; rfl
theorem ld263 : loadT D s 263 (.pt cs o) = cs[o]? := rfl
theorem lb263 (h : s.live i e = some cs) : loadT D s 263 (.pb i e o) = cs[o]? := by simp only [loadT, T263, h]; rfl
theorem ld264 : loadT D s 264 (.pt cs o) = cs[o]? := rfl
theorem lb264 (h : s.live i e = some cs) : loadT D s 264 (.pb i e o) = cs[o]? := by simp only [loadT, T264, h]; rfl
theorem ld265 : loadT D s 265 (.pt cs o) = cs[o]? := rfl
theorem lb265 (h : s.live i e = some cs) : loadT D s 265 (.pb i e o) = cs[o]? := by simp only [loadT, T265, h]; rfl
theorem ld268 : loadT D s 268 (.pt cs o) = (sub cs o 0).map .agg := rfl
theorem lb268 (h : s.live i e = some cs) : loadT D s 268 (.pb i e o) = (sub cs o 0).map .agg := by simp only [loadT, T268, h]; rfl
theorem ld271 : loadT D s 271 (.pt cs o) = cs[o]? := rfl
theorem lb271 (h : s.live i e = some cs) : loadT D s 271 (.pb i e o) = cs[o]? := by simp only [loadT, T271, h]; rfl
theorem ld272 : loadT D s 272 (.pt cs o) = cs[o]? := rfl
theorem lb272 (h : s.live i e = some cs) : loadT D s 272 (.pb i e o) = cs[o]? := by simp only [loadT, T272, h]; rfl
theorem ld273 : loadT D s 273 (.pt cs o) = cs[o]? := rfl
theorem lb273 (h : s.live i e = some cs) : loadT D s 273 (.pb i e o) = cs[o]? := by simp only [loadT, T273, h]; rfl
theorem ld274 : loadT D s 274 (.pt cs o) = cs[o]? := rfl
theorem lb274 (h : s.live i e = some cs) : loadT D s 274 (.pb i e o) = cs[o]? := by simp only [loadT, T274, h]; rfl
theorem ld275 : loadT D s 275 (.pt cs o) = cs[o]? := rfl
theorem lb275 (h : s.live i e = some cs) : loadT D s 275 (.pb i e o) = cs[o]? := by simp only [loadT, T275, h]; rfl
theorem ld276 : loadT D s 276 (.pt cs o) = cs[o]? := rfl
theorem lb276 (h : s.live i e = some cs) : loadT D s 276 (.pb i e o) = cs[o]? := by simp only [loadT, T276, h]; rfl
theorem ld277 : loadT D s 277 (.pt cs o) = cs[o]? := rfl
theorem lb277 (h : s.live i e = some cs) : loadT D s 277 (.pb i e o) = cs[o]? := by simp only [loadT, T277, h]; rfl
theorem ld278 : loadT D s 278 (.pt cs o) = cs[o]? := rfl
theorem lb278 (h : s.live i e = some cs) : loadT D s 278 (.pb i e o) = cs[o]? := by simp only [loadT, T278, h]; rfl
theorem ld281 : loadT D s 281 (.pt cs o) = cs[o]? := rfl
theorem lb281 (h : s.live i e = some cs) : loadT D s 281 (.pb i e o) = cs[o]? := by simp only [loadT, T281, h]; rfl
theorem fn3 : D.P.funcs[3]? = some Go.Proofs.Tryd.f3 := Go.Proofs.Tryd.func3
theorem fn4 : D.P.funcs[4]? = some Go.Proofs.Tryd.f4 := Go.Proofs.Tryd.func4
theorem fn5 : D.P.funcs[5]? = some Go.Proofs.Tryd.f5 := Go.Proofs.Tryd.func5
theorem fn6 : D.P.funcs[6]? = some Go.Proofs.Tryd.f6 := Go.Proofs.Tryd.func6
theorem fn7 : D.P.funcs[7]? = some Go.Proofs.Tryd.f7 := Go.Proofs.Tryd.func7
theorem fn8 : D.P.funcs[8]? = some Go.Proofs.Tryd.f8 := Go.Proofs.Tryd.func8
theorem fn9 : D.P.funcs[9]? = some Go.Proofs.Tryd.f9 := Go.Proofs.Tryd.func9
theorem fn10 : D.P.funcs[10]? = some Go.Proofs.Tryd.f10 := Go.Proofs.Tryd.func10
theorem fn11 : D.P.funcs[11]? = some Go.Proofs.Tryd.f11 := Go.Proofs.Tryd.func11
theorem fn12 : D.P.funcs[12]? = some Go.Proofs.Tryd.f12 := Go.Proofs.Tryd.func12
theorem fn13 : D.P.funcs[13]? = some Go.Proofs.Tryd.f13 := Go.Proofs.Tryd.func13
theorem fn14 : D.P.funcs[14]? = some Go.Proofs.Tryd.f14 := Go.Proofs.Tryd.func14
theorem fn15 : D.P.funcs[15]? = some Go.Proofs.Tryd.f15 := Go.Proofs.Tryd.func15
theorem fn16 : D.P.funcs[16]? = some Go.Proofs.Tryd.f16 := Go.Proofs.Tryd.func16
theorem fn17 : D.P.funcs[17]? = some Go.Proofs.Tryd.f17 := Go.Proofs.Tryd.func17
theorem fn18 : D.P.funcs[18]? = some Go.Proofs.Tryd.f18 := Go.Proofs.Tryd.func18
theorem fn19 : D.P.funcs[19]? = some Go.Proofs.Tryd.f19 := Go.Proofs.Tryd.func19
theorem fn20 : D.P.funcs[20]? = some Go.Proofs.Tryd.f20 := Go.Proofs.Tryd.func20
theorem fn21 : D.P.funcs[21]? = some Go.Proofs.Tryd.f21 := Go.Proofs.Tryd.func21
theorem fn22 : D.P.funcs[22]? = some Go.Proofs.Tryd.f22 := Go.Proofs.Tryd.func22
theorem fn23 : D.P.funcs[23]? = some Go.Proofs.Tryd.f23 := Go.Proofs.Tryd.func23
theorem fn24 : D.P.funcs[24]? = some Go.Proofs.Tryd.f24 := Go.Proofs.Tryd.func24
theorem fn25 : D.P.funcs[25]? = some Go.Proofs.Tryd.f25 := Go.Proofs.Tryd.func25
theorem fn26 : D.P.funcs[26]? = some Go.Proofs.Tryd.f26 := Go.Proofs.Tryd.func26
theorem fn27 : D.P.funcs[27]? = some Go.Proofs.Tryd.f27 := Go.Proofs.Tryd.func27
theorem fn28 : D.P.funcs[28]? = some Go.Proofs.Tryd.f28 := Go.Proofs.Tryd.func28
theorem fn29 : D.P.funcs[29]? = some Go.Proofs.Tryd.f29 := Go.Proofs.Tryd.func29
theorem fn30 : D.P.funcs[30]? = some Go.Proofs.Tryd.f30 := Go.Proofs.Tryd.func30
theorem fn31 : D.P.funcs[31]? = some Go.Proofs.Tryd.f31 := Go.Proofs.Tryd.func31
theorem fn32 : D.P.funcs[32]? = some Go.Proofs.Tryd.f32 := Go.Proofs.Tryd.func32
theorem fn33 : D.P.funcs[33]? = some Go.Proofs.Tryd.f33 := Go.Proofs.Tryd.func33
theorem fn34 : D.P.funcs[34]? = some Go.Proofs.Tryd.f34 := Go.Proofs.Tryd.func34
theorem fn35 : D.P.funcs[35]? = some Go.Proofs.Tryd.f35 := Go.Proofs.Tryd.func35
theorem fn36 : D.P.funcs[36]? = some Go.Proofs.Tryd.f36 := Go.Proofs.Tryd.func36
theorem fn37 : D.P.funcs[37]? = some Go.Proofs.Tryd.f37 := Go.Proofs.Tryd.func37
theorem fn38 : D.P.funcs[38]? = some Go.Proofs.Tryd.f38 := Go.Proofs.Tryd.func38
theorem fn39 : D.P.funcs[39]? = some Go.Proofs.Tryd.f39 := Go.Proofs.Tryd.func39
theorem fn40 : D.P.funcs[40]? = some Go.Proofs.Tryd.f40 := Go.Proofs.Tryd.func40
theorem fn41 : D.P.funcs[41]? = some Go.Proofs.Tryd.f41 := Go.Proofs.Tryd.func41
theorem fn42 : D.P.funcs[42]? = some Go.Proofs.Tryd.f42 := Go.Proofs.Tryd.func42
theorem fn43 : D.P.funcs[43]? = some Go.Proofs.Tryd.f43 := Go.Proofs.Tryd.func43
theorem fn44 : D.P.funcs[44]? = some Go.Proofs.Tryd.f44 := Go.Proofs.Tryd.func44
theorem fn45 : D.P.funcs[45]? = some Go.Proofs.Tryd.f45 := Go.Proofs.Tryd.func45
theorem fn46 : D.P.funcs[46]? = some Go.Proofs.Tryd.f46 := Go.Proofs.Tryd.func46
theorem fn47 : D.P.funcs[47]? = some Go.Proofs.Tryd.f47 := Go.Proofs.Tryd.func47
theorem fn48 : D.P.funcs[48]? = some Go.Proofs.Tryd.f48 := Go.Proofs.Tryd.func48
theorem fn49 : D.P.funcs[49]? = some Go.Proofs.Tryd.f49 := Go.Proofs.Tryd.func49
theorem fn50 : D.P.funcs[50]? = some Go.Proofs.Tryd.f50 := Go.Proofs.Tryd.func50
theorem fn51 : D.P.funcs[51]? = some Go.Proofs.Tryd.f51 := Go.Proofs.Tryd.func51
theorem fn52 : D.P.funcs[52]? = some Go.Proofs.Tryd.f52 := Go.Proofs.Tryd.func52
theorem fn53 : D.P.funcs[53]? = some Go.Proofs.Tryd.f53 := Go.Proofs.Tryd.func53
theorem fn54 : D.P.funcs[54]? = some Go.Proofs.Tryd.f54 := Go.Proofs.Tryd.func54
theorem fn55 : D.P.funcs[55]? = some Go.Proofs.Tryd.f55 := Go.Proofs.Tryd.func55
theorem fn56 : D.P.funcs[56]? = some Go.Proofs.Tryd.f56 := Go.Proofs.Tryd.func56
theorem fn57 : D.P.funcs[57]? = some Go.Proofs.Tryd.f57 := Go.Proofs.Tryd.func57
theorem fn58 : D.P.funcs[58]? = some Go.Proofs.Tryd.f58 := Go.Proofs.Tryd.func58
theorem fn59 : D.P.funcs[59]? = some Go.Proofs.Tryd.f59 := Go.Proofs.Tryd.func59
theorem fn60 : D.P.funcs[60]? = some Go.Proofs.Tryd.f60 := Go.Proofs.Tryd.func60
theorem fn61 : D.P.funcs[61]? = some Go.Proofs.Tryd.f61 := Go.Proofs.Tryd.func61
theorem fn62 : D.P.funcs[62]? = some Go.Proofs.Tryd.f62 := Go.Proofs.Tryd.func62
theorem fn63 : D.P.funcs[63]? = some Go.Proofs.Tryd.f63 := Go.Proofs.Tryd.func63
theorem fn64 : D.P.funcs[64]? = some Go.Proofs.Tryd.f64 := Go.Proofs.Tryd.func64
theorem fn65 : D.P.funcs[65]? = some Go.Proofs.Tryd.f65 := Go.Proofs.Tryd.func65
theorem fn66 : D.P.funcs[66]? = some Go.Proofs.Tryd.f66 := Go.Proofs.Tryd.func66
theorem fn67 : D.P.funcs[67]? = some Go.Proofs.Tryd.f67 := Go.Proofs.Tryd.func67
theorem fn68 : D.P.funcs[68]? = some Go.Proofs.Tryd.f68 := Go.Proofs.Tryd.func68
theorem fn69 : D.P.funcs[69]? = some Go.Proofs.Tryd.f69 := Go.Proofs.Tryd.func69
theorem fn70 : D.P.funcs[70]? = some Go.Proofs.Tryd.f70 := Go.Proofs.Tryd.func70
theorem fn71 : D.P.funcs[71]? = some Go.Proofs.Tryd.f71 := Go.Proofs.Tryd.func71
theorem fn72 : D.P.funcs[72]? = some Go.Proofs.Tryd.f72 := Go.Proofs.Tryd.func72
theorem fn73 : D.P.funcs[73]? = some Go.Proofs.Tryd.f73 := Go.Proofs.Tryd.func73
theorem fn74 : D.P.funcs[74]? = some Go.Proofs.Tryd.f74 := Go.Proofs.Tryd.func74
theorem fn75 : D.P.funcs[75]? = some Go.Proofs.Tryd.f75 := Go.Proofs.Tryd.func75
theorem fn76 : D.P.funcs[76]? = some Go.Proofs.Tryd.f76 := Go.Proofs.Tryd.func76
theorem fn77 : D.P.funcs[77]? = some Go.Proofs.Tryd.f77 := Go.Proofs.Tryd.func77
theorem fn78 : D.P.funcs[78]? = some Go.Proofs.Tryd.f78 := Go.Proofs.Tryd.func78
theorem fn79 : D.P.funcs[79]? = some Go.Proofs.Tryd.f79 := Go.Proofs.Tryd.func79
theorem fn80 : D.P.funcs[80]? = some Go.Proofs.Tryd.f80 := Go.Proofs.Tryd.func80
theorem fn81 : D.P.funcs[81]? = some Go.Proofs.Tryd.f81 := Go.Proofs.Tryd.func81
theorem fn82 : D.P.funcs[82]? = some Go.Proofs.Tryd.f82 := Go.Proofs.Tryd.func82
theorem fn83 : D.P.funcs[83]? = some Go.Proofs.Tryd.f83 := Go.Proofs.Tryd.func83
theorem fn84 : D.P.funcs[84]? = some Go.Proofs.Tryd.f84 := Go.Proofs.Tryd.func84
theorem fn85 : D.P.funcs[85]? = some Go.Proofs.Tryd.f85 := Go.Proofs.Tryd.func85
theorem fn86 : D.P.funcs[86]? = some Go.Proofs.Tryd.f86 := Go.Proofs.Tryd.func86
theorem fn87 : D.P.funcs[87]? = some Go.Proofs.Tryd.f87 := Go.Proofs.Tryd.func87
theorem fn88 : D.P.funcs[88]? = some Go.Proofs.Tryd.f88 := Go.Proofs.Tryd.func88
theorem fn89 : D.P.funcs[89]? = some Go.Proofs.Tryd.f89 := Go.Proofs.Tryd.func89
theorem fn90 : D.P.funcs[90]? = some Go.Proofs.Tryd.f90 := Go.Proofs.Tryd.func90
theorem fn91 : D.P.funcs[91]? = some Go.Proofs.Tryd.f91 := Go.Proofs.Tryd.func91
theorem fn92 : D.P.funcs[92]? = some Go.Proofs.Tryd.f92 := Go.Proofs.Tryd.func92
theorem fn93 : D.P.funcs[93]? = some Go.Proofs.Tryd.f93 := Go.Proofs.Tryd.func93
theorem fn94 : D.P.funcs[94]? = some Go.Proofs.Tryd.f94 := Go.Proofs.Tryd.func94
theorem fn95 : D.P.funcs[95]? = some Go.Proofs.Tryd.f95 := Go.Proofs.Tryd.func95
theorem fn96 : D.P.funcs[96]? = some Go.Proofs.Tryd.f96 := Go.Proofs.Tryd.func96
theorem fn97 : D.P.funcs[97]? = some Go.Proofs.Tryd.f97 := Go.Proofs.Tryd.func97
theorem fn98 : D.P.funcs[98]? = some Go.Proofs.Tryd.f98 := Go.Proofs.Tryd.func98
theorem fn99 : D.P.funcs[99]? = some Go.Proofs.Tryd.f99 := Go.Proofs.Tryd.func99
theorem fn100 : D.P.funcs[100]? = some Go.Proofs.Tryd.f100 := Go.Proofs.Tryd.func100
theorem fn101 : D.P.funcs[101]? = some Go.Proofs.Tryd.f101 := Go.Proofs.Tryd.func101
theorem fn102 : D.P.funcs[102]? = some Go.Proofs.Tryd.f102 := Go.Proofs.Tryd.func102
theorem fn103 : D.P.funcs[103]? = some Go.Proofs.Tryd.f103 := Go.Proofs.Tryd.func103
theorem fn104 : D.P.funcs[104]? = some Go.Proofs.Tryd.f104 := Go.Proofs.Tryd.func104
theorem fn105 : D.P.funcs[105]? = some Go.Proofs.Tryd.f105 := Go.Proofs.Tryd.func105
theorem fn106 : D.P.funcs[106]? = some Go.Proofs.Tryd.f106 := Go.Proofs.Tryd.func106
theorem fn107 : D.P.funcs[107]? = some Go.Proofs.Tryd.f107 := Go.Proofs.Tryd.func107
theorem fn108 : D.P.funcs[108]? = some Go.Proofs.Tryd.f108 := Go.Proofs.Tryd.func108
theorem fn109 : D.P.funcs[109]? = some Go.Proofs.Tryd.f109 := Go.Proofs.Tryd.func109
theorem fn110 : D.P.funcs[110]? = some Go.Proofs.Tryd.f110 := Go.Proofs.Tryd.func110
theorem fn111 : D.P.funcs[111]? = some Go.Proofs.Tryd.f111 := Go.Proofs.Tryd.func111
theorem fn112 : D.P.funcs[112]? = some Go.Proofs.Tryd.f112 := Go.Proofs.Tryd.func112
theorem fn113 : D.P.funcs[113]? = some Go.Proofs.Tryd.f113 := Go.Proofs.Tryd.func113
theorem fn114 : D.P.funcs[114]? = some Go.Proofs.Tryd.f114 := Go.Proofs.Tryd.func114
theorem fn115 : D.P.funcs[115]? = some Go.Proofs.Tryd.f115 := Go.Proofs.Tryd.func115
theorem fn116 : D.P.funcs[116]? = some Go.Proofs.Tryd.f116 := Go.Proofs.Tryd.func116
theorem fn117 : D.P.funcs[117]? = some Go.Proofs.Tryd.f117 := Go.Proofs.Tryd.func117
theorem fn118 : D.P.funcs[118]? = some Go.Proofs.Tryd.f118 := Go.Proofs.Tryd.func118
theorem fn119 : D.P.funcs[119]? = some Go.Proofs.Tryd.f119 := Go.Proofs.Tryd.func119
theorem fn120 : D.P.funcs[120]? = some Go.Proofs.Tryd.f120 := Go.Proofs.Tryd.func120
theorem fn121 : D.P.funcs[121]? = some Go.Proofs.Tryd.f121 := Go.Proofs.Tryd.func121
theorem fn122 : D.P.funcs[122]? = some Go.Proofs.Tryd.f122 := Go.Proofs.Tryd.func122
theorem fn123 : D.P.funcs[123]? = some Go.Proofs.Tryd.f123 := Go.Proofs.Tryd.func123
theorem fn124 : D.P.funcs[124]? = some Go.Proofs.Tryd.f124 := Go.Proofs.Tryd.func124
theorem fn125 : D.P.funcs[125]? = some Go.Proofs.Tryd.f125 := Go.Proofs.Tryd.func125
theorem fn126 : D.P.funcs[126]? = some Go.Proofs.Tryd.f126 := Go.Proofs.Tryd.func126
theorem fn127 : D.P.funcs[127]? = some Go.Proofs.Tryd.f127 := Go.Proofs.Tryd.func127
theorem fn128 : D.P.funcs[128]? = some Go.Proofs.Tryd.f128 := Go.Proofs.Tryd.func128
theorem fn129 : D.P.funcs[129]? = some Go.Proofs.Tryd.f129 := Go.Proofs.Tryd.func129
theorem fn130 : D.P.funcs[130]? = some Go.Proofs.Tryd.f130 := Go.Proofs.Tryd.func130
theorem fn131 : D.P.funcs[131]? = some Go.Proofs.Tryd.f131 := Go.Proofs.Tryd.func131
theorem fn132 : D.P.funcs[132]? = some Go.Proofs.Tryd.f132 := Go.Proofs.Tryd.func132
theorem fn133 : D.P.funcs[133]? = some Go.Proofs.Tryd.f133 := Go.Proofs.Tryd.func133
theorem fn134 : D.P.funcs[134]? = some Go.Proofs.Tryd.f134 := Go.Proofs.Tryd.func134
theorem fn135 : D.P.funcs[135]? = some Go.Proofs.Tryd.f135 := Go.Proofs.Tryd.func135
theorem fn136 : D.P.funcs[136]? = some Go.Proofs.Tryd.f136 := Go.Proofs.Tryd.func136
theorem fn137 : D.P.funcs[137]? = some Go.Proofs.Tryd.f137 := Go.Proofs.Tryd.func137
theorem fn138 : D.P.funcs[138]? = some Go.Proofs.Tryd.f138 := Go.Proofs.Tryd.func138
theorem fn139 : D.P.funcs[139]? = some Go.Proofs.Tryd.f139 := Go.Proofs.Tryd.func139
theorem fn140 : D.P.funcs[140]? = some Go.Proofs.Tryd.f140 := Go.Proofs.Tryd.func140
theorem fn141 : D.P.funcs[141]? = some Go.Proofs.Tryd.f141 := Go.Proofs.Tryd.func141
theorem fn142 : D.P.funcs[142]? = some Go.Proofs.Tryd.f142 := Go.Proofs.Tryd.func142
theorem fn143 : D.P.funcs[143]? = some Go.Proofs.Tryd.f143 := Go.Proofs.Tryd.func143
theorem fn144 : D.P.funcs[144]? = some Go.Proofs.Tryd.f144 := Go.Proofs.Tryd.func144
theorem fn145 : D.P.funcs[145]? = some Go.Proofs.Tryd.f145 := Go.Proofs.Tryd.func145
theorem fn146 : D.P.funcs[146]? = some Go.Proofs.Tryd.f146 := Go.Proofs.Tryd.func146
theorem fn147 : D.P.funcs[147]? = some Go.Proofs.Tryd.f147 := Go.Proofs.Tryd.func147
theorem fn148 : D.P.funcs[148]? = some Go.Proofs.Tryd.f148 := Go.Proofs.Tryd.func148
theorem fn149 : D.P.funcs[149]? = some Go.Proofs.Tryd.f149 := Go.Proofs.Tryd.func149
theorem fn150 : D.P.funcs[150]? = some Go.Proofs.Tryd.f150 := Go.Proofs.Tryd.func150
theorem fn151 : D.P.funcs[151]? = some Go.Proofs.Tryd.f151 := Go.Proofs.Tryd.func151
theorem fn152 : D.P.funcs[152]? = some Go.Proofs.Tryd.f152 := Go.Proofs.Tryd.func152
theorem fn153 : D.P.funcs[153]? = some Go.Proofs.Tryd.f153 := Go.Proofs.Tryd.func153
theorem fn154 : D.P.funcs[154]? = some Go.Proofs.Tryd.f154 := Go.Proofs.Tryd.func154
theorem fn155 : D.P.funcs[155]? = some Go.Proofs.Tryd.f155 := Go.Proofs.Tryd.func155
theorem fn156 : D.P.funcs[156]? = some Go.Proofs.Tryd.f156 := Go.Proofs.Tryd.func156
theorem fn157 : D.P.funcs[157]? = some Go.Proofs.Tryd.f157 := Go.Proofs.Tryd.func157
theorem fn158 : D.P.funcs[158]? = some Go.Proofs.Tryd.f158 := Go.Proofs.Tryd.func158
theorem fn159 : D.P.funcs[159]? = some Go.Proofs.Tryd.f159 := Go.Proofs.Tryd.func159
theorem fn160 : D.P.funcs[160]? = some Go.Proofs.Tryd.f160 := Go.Proofs.Tryd.func160
theorem fn161 : D.P.funcs[161]? = some Go.Proofs.Tryd.f161 := Go.Proofs.Tryd.func161
theorem fn162 : D.P.funcs[162]? = some Go.Proofs.Tryd.f162 := Go.Proofs.Tryd.func162
theorem fn163 : D.P.funcs[163]? = some Go.Proofs.Tryd.f163 := Go.Proofs.Tryd.func163
theorem fn164 : D.P.funcs[164]? = some Go.Proofs.Tryd.f164 := Go.Proofs.Tryd.func164
theorem fn165 : D.P.funcs[165]? = some Go.Proofs.Tryd.f165 := Go.Proofs.Tryd.func165
theorem fn166 : D.P.funcs[166]? = some Go.Proofs.Tryd.f166 := Go.Proofs.Tryd.func166
theorem fn167 : D.P.funcs[167]? = some Go.Proofs.Tryd.f167 := Go.Proofs.Tryd.func167
theorem fn168 : D.P.funcs[168]? = some Go.Proofs.Tryd.f168 := Go.Proofs.Tryd.func168
theorem fn169 : D.P.funcs[169]? = some Go.Proofs.Tryd.f169 := Go.Proofs.Tryd.func169
end Go.Pe.Tryd
