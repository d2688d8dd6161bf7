/-
  Part 9 of the machine and of the contracts of functions of the program (packed).
-/
import Derived.Test.YtfiijelajgifiaaGreatProg
import Derived.Test.YtfiijelajgifiaaGreatA08
set_option linter.all false
set_option linter.defProp false
open Bool renaming false→aa,true→ab
open Int renaming ofNat→af,negSucc→aT2
open Nat renaming blt→ah,blt_eq→aTR,zero_add→aUe
open Option renaming some→Z,none→U
namespace Go.Proofs.YtfiijelajgifiaaGreat
noncomputable section
open Go Go.Mach Go.Flow
instance theLimb:Limb:=⟨1000000000⟩
def kpTree:Kt:=(.n (.n (.n (.n (.n (.n (.n (.n (.n .z 3 [6,7,2,4,5,9,10,12,13,14,15,16,17,18,19,21,22,24,25,0,1] .z) 4 [2,4,5,3,6,9,1,7,10,12,13,24,47,49,75,0] .z) 5 [6,1,2,7,9,10,4,5,8,11,12,13,14,15,16,17,0] (.n (.n .z 6 [4,8,2,11,3,5,12,1,6,7,9,10,13,14,35,53,75,0] .z) 7 [1,10,16,19,34,0,2,3,4,5,6,8,9,11,12,13,14,15,17,18,20,21,23,24,25,26,27,30,33,35,36,37] .z)) 8 [3,1,4,5,2,23,41,0] (.n (.n (.n .z 9 [42,10,11,4,5,6,43,50,7,8,40,41,1,2,12,17,0] .z) 10 [14,12,13,55,11,9,4,5,6,43,67,7,10,1,2,8,17,24,0] .z) 11 [9,8,23,33,1,2,7,4,5,6,12,19,0] (.n .z 12 [7,4,5,6,8,9,24,34,1,2,13,20,0] .z))) 13 [28,10,6,7,8,29,26,27,2,3,4,5,1,11,12,15,59,0] (.n (.n (.n (.n .z 14 [10,6,9,7,8,31,2,3,4,5,1,11,12,15,69,0] .z) 15 [4,1,9,18,3,2,0] .z) 16 [1,2,22,0] (.n .z 17 [7,3,5,6,2,40,59,4,34,0,1] .z)) 18 [5,4,1,3,34,2,31,0] (.n (.n (.n .z 19 [53,9,6,7,3,8,54,66,4,2,5,51,52,42,0,1] .z) 20 [2,3,4,0,1] .z) 21 [2,3,4,0,1] (.n .z 22 [2,3,4,0,1] .z)))) 23 [0] (.n (.n (.n (.n (.n .z 24 [2,0] .z) 25 [1,3,6,7,0,2] .z) 26 [1,2,3,4,0] (.n .z 27 [1,2,0] .z)) 28 [2,0] (.n (.n (.n .z 29 [2,3,4,0,1] .z) 30 [2,3,4,0,1] .z) 31 [3,2,4,0,1] (.n .z 32 [0] .z))) 33 [0] (.n (.n (.n (.n .z 34 [5,1,15,29,4,2,11,0] .z) 35 [1,2,0] .z) 36 [2,10,3,4,5,6,11,24,30,48,57,66,84,92,101,0] (.n .z 37 [2,0] .z)) 38 [2,3,4,0,1] (.n (.n (.n .z 39 [5,23,48,8,11,12,9,24,49,21,22,46,47,2,6,4,13,0,1] .z) 40 [32,10,11,33,8,9,30,31,5,18,7,6,19,23,1,17,4,0] .z) 41 [8,87,11,3,79,12,80,5,71,9,77,78,0,49,7,10,21,50,72,4,47,48,69,70,2] (.n .z 42 [4,0,1] .z))))) 43 [1,2,0] (.n (.n (.n (.n (.n (.n .z 44 [1,2,0] .z) 45 [0,5,32,48,93,7,10,8,14,11,16,23,33,49,94,30,31,46,47,91,92,3,4,13,1] .z) 46 [6,5,15,0,1,4,7] (.n (.n .z 47 [1,2,3,23,0] .z) 48 [5,9,7,8,10,2,6,1,18,38,4,11,0] .z)) 49 [1,6,3,8,7,21,45,4,5,2,0] (.n (.n (.n .z 50 [11,6,9,46,10,5,8,7,1,20,34,4,0] .z) 51 [8,0,7,32,6,5,3,4,13,25,2] .z) 52 [8,0,6,9,13,5,7,12,10,20,28,47,85,3,4,1] (.n .z 53 [6,5,2,7,15,1,4,9,0] .z))) 54 [2,3,4,0,1] (.n (.n (.n (.n .z 55 [21,64,49,8,6,7,9,13,15,16,22,50,58,65,4,5,10,14,19,20,47,48,62,63,1,11,0] .z) 56 [8,14,12,10,6,7,11,0,9,21,51,62,68,4,5,13,1] .z) 57 [3,1,5,17,2,0] (.n .z 58 [2,3,4,0,1] .z)) 59 [2,3,4,0,1] (.n (.n (.n .z 60 [1,3,6,7,0,2] .z) 61 [3,1,5,19,2,0] .z) 62 [3,0,7,53,2] (.n .z 63 [6,5,10,2,1,4,0] .z)))) 64 [2,3,4,0,1] (.n (.n (.n (.n (.n .z 65 [2,0] .z) 66 [8,5,7,9,60,4,0,1,6,13,18,25,48,55,76] .z) 67 [4,0,1] (.n .z 68 [1,2,0] .z)) 69 [1,2,0] (.n (.n (.n .z 70 [10,5,6,11,2,9,4,0,1] .z) 71 [2,0] .z) 72 [7,4,3,8,43,2,0,5,6] (.n .z 73 [2,0] .z))) 74 [2,3,4,0,1] (.n (.n (.n (.n .z 75 [4,5,0,1] .z) 76 [6,5,1,11,0,4] .z) 77 [2,3,4,5,0,1] (.n .z 78 [6,7,0,5,1,8,19,42,68,91,4] .z)) 79 [2,0] (.n (.n (.n .z 80 [3,5,1,6,7,0,2] .z) 81 [2,3,4,0,1] .z) 82 [5,0,1,14,41,4,10] (.n .z 83 [0] .z)))))) 84 [3,4,0,1] (.n (.n (.n (.n (.n (.n (.n .z 85 [2,3,4,0,1] .z) 86 [1,2,3,0] .z) 87 [1,2,0] (.n (.n .z 88 [0] .z) 89 [27,11,10,28,9,21,7,22,19,20,5,15,16,13,14,1,4,0] .z)) 90 [4,5,0,1] (.n (.n (.n .z 91 [0,1,5,4,6,7,8,14,20,35,44] .z) 92 [10,5,7,11,8,9,1,4,0] .z) 93 [1,0,4,5,6,7,10,14] (.n .z 94 [4,0,1] .z))) 95 [42,0,9,43,8,41,22,7,4,5,23,20,21,3,1] (.n (.n (.n (.n .z 96 [0,4,6,8,5,7,10,11,1,12,47,64,94,96,127] .z) 97 [5,0,2,3,4] .z) 98 [4,0,1] (.n .z 99 [2,0] .z)) 100 [2,0] (.n (.n (.n .z 101 [1,2,0] .z) 102 [0,1,5,6,7,21,42,56,67,4] .z) 103 [3,2,0] (.n .z 104 [4,0,1] .z)))) 105 [1,0,5,11,16,21,4,7] (.n (.n (.n (.n (.n .z 106 [16,7,8,5,1,17,14,15,0,4] .z) 107 [8,7,37,6,0,1,4,5,10,26] .z) 108 [8,5,9,16,4,0,7,1] (.n .z 109 [2,3,4,5,0,1] .z)) 110 [1,2,0] (.n (.n (.n .z 111 [4,5,0,1] .z) 112 [6,5,0,10,1,4] .z) 113 [1,4,5,6,9,11,0,7,14] (.n .z 114 [4,0,1] .z))) 115 [6,3,4,5,44,15,28,1,2,0] (.n (.n (.n (.n .z 116 [12,9,7,56,62,10,0,8,1,6,2,29] .z) 117 [3,2,0] .z) 118 [6,5,13,1,0,4,8] (.n .z 119 [4,0,1] .z)) 120 [5,0,2,3,4] (.n (.n (.n .z 121 [4,3,8,0,2] .z) 122 [4,1,6,0] .z) 123 [6,1,7,2,28,32,4,5,13,20,0] (.n .z 124 [3,4,6,2,11,0,1] .z))))) 125 [2,0,5] (.n (.n (.n (.n (.n (.n .z 126 [11,27,3,6,5,8,12,20,28,9,10,25,26,0,2] .z) 127 [79,11,6,15,16,10,14,80,94,77,78,19,30,12,9,8,13,20,31,41,17,18,29,4,5,0,1] .z) 128 [2,0,5] (.n .z 129 [11,6,9,8,60,65,10,7,17,27,1,4,5,0] .z)) 130 [4,0,1] (.n (.n (.n .z 131 [2,4,0] .z) 132 [5,3,9,11,1,6,7,8,10,0,2] .z) 133 [2,0] (.n .z 134 [2,0] .z))) 135 [1,2,0] (.n (.n (.n (.n .z 136 [1,2,18,0] .z) 137 [1,2,0] .z) 138 [5,2,3,7,16,4,0,1] (.n .z 139 [2,3,4,0,1] .z)) 140 [3,0,2,7] (.n (.n (.n .z 141 [0,2,5] .z) 142 [5,19,0,1,4] .z) 143 [0] (.n .z 144 [7,6,5,15,4,0,1] .z)))) 145 [0,4,7,1] (.n (.n (.n (.n (.n .z 146 [10,8,40,7,2,9,11,13,37,6,0,1] .z) 147 [11,10,2,8,12,29,1,9,6,7,0,15] .z) 148 [4,3,0,9,2] (.n .z 149 [2,3,4,0,1] .z)) 150 [0] (.n (.n (.n .z 151 [1,2,0] .z) 152 [1,2,18,0] .z) 153 [1,2,0] (.n .z 154 [5,6,8,19,4,2,3,0,1] .z))) 155 [8,7,28,3,6,0,5,19,4,1] (.n (.n (.n (.n .z 156 [2,3,4,5,0,1] .z) 157 [2,3,4,5,0,1] .z) 158 [8,9,18,7,5,6,0,1,2] (.n .z 159 [2,3,4,0,1] .z)) 160 [1,2,5,0] (.n (.n (.n .z 161 [5,4,0,6,7,14,1,2] .z) 162 [2,3,4,0,1] .z) 163 [4,5,3,10,12,22,0,2] (.n .z 164 [18,7,8,19,1,0,6,14,38,4,5,11] .z))))))) 165 [0,2,3,7] (.n (.n (.n (.n (.n (.n (.n (.n .z 166 [0,2] .z) 167 [0] .z) 168 [12,3,5,13,19,10,11,2,7,0] (.n (.n .z 169 [4,0,1] .z) 170 [1,2,10,0,6,50,55,7,9,18,26,41] .z)) 171 [4,5,0,1] (.n (.n (.n .z 172 [2,4,0] .z) 173 [2,3,4,5,0,1] .z) 174 [14,6,5,15,3,13,4,9,0,1] (.n .z 175 [7,9,5,15,6,13,0,1,2] .z))) 176 [28,46,15,7,12,9,14,16,29,47,59,26,27,44,45,4,5,6,10,0,1] (.n (.n (.n (.n .z 177 [0,4,7,1] .z) 178 [1,4,2,3,7,8,10,17,36,45,0] .z) 179 [2,3,4,5,13,21,0,1] (.n .z 180 [3,0,2,7] .z)) 181 [8,5,9,16,4,0,7,1] (.n (.n (.n .z 182 [2,3,4,0,1] .z) 183 [4,5,0,1,6,7,8,9] .z) 184 [9,8,7,21,1,6,18,43,4,5,12,0] (.n .z 185 [2,3,4,5,0,1] .z)))) 186 [9,8,7,0,1,16,2,6] (.n (.n (.n (.n (.n .z 187 [2,0] .z) 188 [8,9,7,0,1,14,26,2,6] .z) 189 [0,1,4,6,16] (.n .z 190 [2,0,4] .z)) 191 [8,5,9,16,4,0,7,1] (.n (.n (.n .z 192 [3,0,1] .z) 193 [9,6,0,10,8,1,2] .z) 194 [3,5,6,0,1,2] (.n .z 195 [3,4,5,7,0,1,2] .z))) 196 [4,3,0,9,2] (.n (.n (.n (.n .z 197 [7,0,12,23,6,2,1] .z) 198 [6,5,0,11,3,4,1] .z) 199 [8,7,0,5,1,13,24,6,2] (.n .z 200 [17,7,8,9,18,30,6,1,15,16,2,0,14] .z)) 201 [2,3,4,0,1] (.n (.n (.n .z 202 [9,8,5,6,7,0,1,2] .z) 203 [1,2,6,0] .z) 204 [2,1,6,8,0] (.n .z 205 [3,2,6,10,4,0,1] .z))))) 206 [5,0,1,20,31,4,10] (.n (.n (.n (.n (.n (.n .z 207 [5,17,0,4,1] .z) 208 [6,5,0,1,12,4] .z) 209 [12,9,11,0,46,51,1,2,8,10,13,22,33,6,7] (.n (.n .z 210 [5,9,1,8,42,76,7,24,6,4,0] .z) 211 [0,1,4] .z)) 212 [5,3,0,21,7,6,4,43,62,1] (.n (.n (.n .z 213 [9,3,5,10,7,8,2,0] .z) 214 [4,0,3,15,2,7] .z) 215 [1,3,2,0] (.n .z 216 [2,1,3,8,0] .z))) 217 [6,5,8,15,2,3,4,0,1] (.n (.n (.n (.n .z 218 [4,0,1,6,5,11,12,13,16,19] .z) 219 [2,3,4,0,1] .z) 220 [2,3,4,9,22,0,1] (.n .z 221 [7,8,6,3,5,33,49,2,22,4,0,1] .z)) 222 [2,3,4,5,0,1] (.n (.n (.n .z 223 [1,2,0] .z) 224 [3,2,5,4,8,19,0,1] .z) 225 [4,0,1] (.n .z 226 [2,3,4,0,1] .z)))) 227 [8,3,5,9,16,6,7,2,0] (.n (.n (.n (.n (.n .z 228 [12,7,2,8,9,10,11,13,36,6,0,1] .z) 229 [10,12,43,13,9,8,44,65,11,42,29,2,6,7,1,16,0] .z) 230 [3,4,5,2,8,0,1] (.n .z 231 [2,0,4] .z)) 232 [1,2,0] (.n (.n (.n .z 233 [7,13,10,12,95,11,8,44,50,87,6,32,9,33,53,74,31,0,1,2,21,145] .z) 234 [4,6,30,5,11,24,2,3,0] .z) 235 [0,3,6,7,2,5,8,4,11] (.n .z 236 [6,7,20,33,4,0,1,5,14] .z))) 237 [5,9,15,0,4,1] (.n (.n (.n (.n .z 238 [2,3,4,5,19,0,1] .z) 239 [6,4,5,0,1] .z) 240 [12,0,1,6,7,8,9,11,4,5,10,13] (.n .z 241 [2,3,4,5,0,1] .z)) 242 [0,1,5,3,6,10,2] (.n (.n (.n .z 243 [3,2,7,8,4,5,6,21,38,51,0,1] .z) 244 [4,3,10,1,2,28,0] .z) 245 [0,1,5,7,10,4] (.n .z 246 [8,30,9,6,5,10,31,22,7,28,29,3,23,20,21,2,4,0,1] .z)))))) 247 [0,1,4,5,6,7,8,15] (.n (.n (.n (.n (.n (.n (.n .z 248 [0,2] .z) 249 [6,7,0,1,5,22,28,39,4] .z) 250 [8,7,6,5,0,1,13,26,35,4] (.n (.n .z 251 [3,2,4,5,6,7,10,15,19,0,1] .z) 252 [1,2,0] .z)) 253 [1,2,0] (.n (.n (.n .z 254 [9,3,10,2,4,5,6,7,8,14,36,50,0,1] .z) 255 [1,2,0,4,16,13,3,10,14,12,18,19,20,11,15,17,25,32,39,56,75,80,97,125] .z) 256 [2,0] (.n .z 257 [42,13,12,14,43,48,1,10,41,22,2,8,11,23,31,6,7,20,21,0] .z))) 258 [5,51,9,8,10,52,85,7,49,50,1,34,6,0,20,4,15] (.n (.n (.n (.n .z 259 [9,20,21,13,6,18,19,5,1,7,14,11,12,4,0] .z) 260 [3,8,18,1,0] .z) 261 [45,11,9,8,46,10,7,44,24,6,25,38,5,0,1,23,4] (.n .z 262 [3,16,0,2] .z)) 263 [3,4,8,2,7,0] (.n (.n (.n .z 264 [45,10,3,21,74,4,6,11,12,16,7,13,22,46,75,19,20,43,44,73,0,2] .z) 265 [9,12,8,15,2,3,5,7,18,31,36,0,1,4,6] .z) 266 [6,5,3,8,14,4,12,0,1] (.n .z 267 [1,2,0] .z)))) 268 [13,9,14,3,7,11,12,5,4,6,0,1] (.n (.n (.n (.n (.n .z 269 [20,6,0,3,5,21,40,18,19,2,8,11] .z) 270 [2,3,4,0,1] .z) 271 [4,0,1,6,5,11,12,13,16,19] (.n .z 272 [7,25,8,0,1,6,5,26,31,24,4,13] .z)) 273 [7,14,8,6,1,15,20,0,5,13,4] (.n (.n (.n .z 274 [10,8,11,13,1,12,42,62,4,5,9,0,6,7,14,18] .z) 275 [2,3,4,0,1] .z) 276 [2,0,4] (.n .z 277 [7,8,1,16,0,6,4,5] .z))) 278 [10,7,12,14,127,188,9,13,8,16,18,21,15,20,17,22,112,124,128,189,125,126,186,187,228,23,11,19,6,4,5,53,183,229,227,1,0] (.n (.n (.n (.n .z 279 [9,0,34,1,8,3,14,2] .z) 280 [8,12,0,11,3,21,33,10,9,1,2] .z) 281 [12,11,8,0,1,35,45,9,10,17,2] (.n .z 282 [13,10,11,0,1,3,8,9,12,14,55,34,36,57,60,2] .z)) 283 [8,9,0,15,1,2] (.n (.n (.n .z 284 [0,11,12,9,3,2,36,69,84,109,124,10,8,1,16,41,45,65,104] .z) 285 [11,12,0,1,4,47,65,70,3,10,2] .z) 286 [13,12,0,1,4,120,139,47,66,144,10,11,3,71,2] (.n .z 287 [0,2,4,8] .z))))) 288 [0,2,4,8,14] (.n (.n (.n (.n (.n (.n .z 289 [3,5,10,1,2,8,22,0] .z) 290 [0,1,5,7,12,4] .z) 291 [2,0,4] (.n .z 292 [1,2,0] .z)) 293 [0,2,3] (.n (.n (.n .z 294 [1,2,0] .z) 295 [0,1,2,7,11] .z) 296 [1,2,3,0] (.n .z 297 [1,2,0] .z))) 298 [0,2] (.n (.n (.n (.n .z 299 [8,6,7,0,1,2] .z) 300 [0,1,6,7,2] .z) 301 [7,8,1,16,0,6,4,5] (.n .z 302 [0,6,1,4,5,7,8,9,26] .z)) 303 [2,0] (.n (.n (.n .z 304 [15,6,8,5,7,16,13,14,1,0,4] .z) 305 [11,0,3,10,2,4,18,40,58,1] .z) 306 [2,0] (.n .z 307 [0,2] .z)))) 308 [1,8,0,2,3] (.n (.n (.n (.n (.n .z 309 [2,1,0,4,5,3,12] .z) 310 [1,2,0] .z) 311 [3,4,5,7,19,22,0,1] (.n .z 312 [1,2,0] .z)) 313 [53,9,10,7,11,54,8,51,52,1,34,0,4,5,6,14,19] (.n (.n (.n .z 314 [2,3,4,0,1] .z) 315 [1,0,6,10,4] .z) 316 [3,8,18,1,0] (.n .z 317 [1,2,10,11,0,22,3,4] .z))) 318 [3,8,18,1,0] (.n (.n (.n (.n .z 319 [11,5,6,12,10,1,0,4] .z) 320 [0,3,1] .z) 321 [2,0,4] (.n .z 322 [2,3,4,5,0,1] .z)) 323 [0,2] (.n (.n (.n .z 324 [2,3,4,0,1] .z) 325 [4,0,1,2] .z) 326 [0,2,5] (.n .z 327 [0] .z))))))))
def gP:Nat→List Nat:=kpTree.get
def aH:aP:=xe Tryz.prog gP
end
end Go.Proofs.YtfiijelajgifiaaGreat
namespace Go.Mach
noncomputable section
open Go
def ayw (n:Nat):(@OfNat.ofNat Int n instOfNat)=af n:=rfl
def ayx (n:Nat) : -(af (n+1))=aT2 n:=rfl
def pk {α:Type}(p:α→Prop){d c:α}(_:p d:=by show _=_;cbv)(_:d=c:=by(try simp(maxSteps:=9^9) only[ayw,ayx]);rfl):α:=c
def ph:CC→List CC
 |.seq a b=>ph a++ph b
 |.cond _ a b=>ph a++ph b
 |.block _ b=>ph b
 |.scope b=>ph b
 |.loop b=>b::ph b
 |_=>[]
def z8:CC→List CC→CC × List CC
 |.seq a b,l=>match z8 a l with|(x,l)=>match z8 b l with|(y,l)=>(.seq x y,l)
 |.cond c a b,l=>match z8 a l with|(x,l)=>match z8 b l with|(y,l)=>(.cond c x y,l)
 |.block i b,l=>match z8 b l with|(x,l)=>(.block i x,l)
 |.scope b,l=>match z8 b l with|(x,l)=>(.scope x,l)
 |.loop b,l=>(.loop (l.headD .ret),l.drop ((ph b).length+1))
 |c,l=>(c,l)
end
end Go.Mach
namespace Go.Proofs.YtfiijelajgifiaaGreat
noncomputable section
open Go Go.Mach Go.Flow
set_option maxRecDepth 100000
inductive Tt (α:Type) where
 |l (x:α)
 |n (a b:Tt α)
def bt {α:Type}(f:Nat→α):Nat→Nat→Tt α
 |0,k=>.l (f k)
 |d+1,k=>.n (bt f d k) (bt f d (k+2 ^ d))
def gt {α:Type}:Tt α→Nat→Nat→α
 |.l x,_,_=>x
 |.n a b,d,t=>match d with
  |0=>gt a 0 t
  |d+1=>match ah t (2 ^ d)with
   |true=>gt a d t
   |false=>gt b d (t-2 ^ d)
def apr {α:Type}(f:Nat→α):∀(d k t:Nat),t<2 ^ d→gt (bt f d k) d t=f (k+t)
 |0,k,t,h=>by
  obtain rfl:t=0:=by simpa using h
  rfl
 |d+1,k,t,h=>by
  rw[bt,gt]
  split
  ·rename_i e
   rw[aTR]at e
   exact apr f d k t e
  ·rename_i e
   have e:¬t<2 ^ d:=by rw[← aTR,e];simp
   rw[apr f d _ _ (by rw[Nat.pow_succ]at h;omega)]
   congr 1
   omega
def tyL:=pk (bt (acC Tryz.prog) 9 0=·)
def aNY:tyL=bt (acC Tryz.prog) 9 0:=by kernel_rfl
def tD:im:=fun t=>match ah t 512 with|true=>gt tyL 9 t|false=>U
def age:TabOk Tryz.prog tD:=fun t y h=>abb Tryz.prog t y (by
 unfold tD at h
 rw[aNY]at h
 split at h
 ·rename_i e
  rw[aTR]at e
  rw[apr _ 9 0 t e,aUe]at h
  exact h
 ·cases h)
abbrev Cn (k:Cls):=ko Tryz.prog k
abbrev CX (k:Cls):=pZ Tryz.prog k aH
abbrev FO:=FnOk Tryz.prog aH
def dC (nt:Nat)(kp:List Tmp)(bi:Nat):Code→CC
 |.label _=>.skip
 |.region _ ops dr=>.reg ((match dr with
  |true=>o7 tD nt kp ops.toList (dI [] ops.toList) (aiF ops.toList (dI [] ops.toList) 0 []) 0 []
  |false=>vR tD nt kp ops.toList 0 []).getD [])
 |.seq a b=>.seq (dC nt kp bi a) (dC nt kp bi b)
 |.cond c t e=>.cond (jJ kp c) (dC nt kp bi t) (dC nt kp bi e)
 |.block id b=>.block id (dC nt kp bi b)
 |.loop b=>.loop (dC nt kp bi b)
 |.rangeFunc g _ _ _=>.rf (jJ kp g) bi
 |.exit id=>.exit id
 |.scope b=>.scope (dC nt kp bi b)
 |.ret=>.ret
 |_=>.skip
def fc (wm:Bool)(f na:Nat)(fn:Func):FnC:=match fn.body with
 |some b=>⟨wm,(gP f).length,(List.range na).map fun j=>ic j (gP f) 0,dC fn.ntmps (gP f) f b,(j0 tD (gP f) fn.results.toList).getD []⟩
 |none=>default
structure FQ (f:Nat) where
 c:FnC
 h:FO f c
noncomputable def mq (wm:Bool)(f na:Nat){fn:Func}(hf:Tryz.prog.funcs[f]?=Z fn){d c:FnC}(hd:fc wm f na fn=d:=by cbv)(_:d=c:=by(try simp(maxSteps:=9^9) only[ayw,ayx]);rfl)
  (hc:qj tD wm (gP f) f na fn=Z c:=by kernel_rfl)(hname:(fn.name == "runtime.NumGoroutine")=aa:=by kernel_rfl)(h1:acz fn=ab:=by kernel_rfl):FQ f:=
 ⟨c,x9 age hf hname h1 (fun bd h=>by unfold aH xe;rw[hf];exact h) hc⟩
section
variable {nt:Nat} {kp:List Tmp} {bi:Nat} {a b:Code} {x y:CC}
def aSz (h:dC nt kp bi a=x)(g:dC nt kp bi b=y):dC nt kp bi (.seq a b)=.seq x y:=by rw[dC,h,g]
def aPl {c:Operand}{z:Od}(e:jJ kp c=z)(h:dC nt kp bi a=x)(g:dC nt kp bi b=y):dC nt kp bi (.cond c a b)=.cond z x y:=by rw[dC,h,g,e]
def aMv {i:Nat}(h:dC nt kp bi a=x):dC nt kp bi (.block i a)=.block i x:=by rw[dC,h]
def aPm (h:dC nt kp bi a=x):dC nt kp bi (.loop a)=.loop x:=by rw[dC,h]
def aMw (h:dC nt kp bi a=x):dC nt kp bi (.scope a)=.scope x:=by rw[dC,h]
end
noncomputable def mr (wm:Bool)(f na:Nat){fn:Func}(hf:Tryz.prog.funcs[f]?=Z fn){code:Code}{c:CC}{d:FnC}{rs:List Rs1}{nk:Nat}{pin:List (Option Nat)}(_:fn.body=Z code:=by rfl)
  (_:dC fn.ntmps (gP f) f code=c:=by(repeat' first|apply aSz|apply aPl|apply aMv|apply aPm|apply aMw);all_goals (try cbv))
  (_:(j0 tD (gP f) fn.results.toList).getD []=rs:=by cbv)(_:(gP f).length=nk:=by cbv)(_:((List.range na).map fun j=>ic j (gP f) 0)=pin:=by cbv)
  (_:(⟨wm,nk,pin,c,rs⟩:FnC)=d:=by(try simp(maxSteps:=9^9) only[ayw,ayx]);rfl)
  (hc:qj tD wm (gP f) f na fn=Z d:=by kernel_rfl)(hname:(fn.name == "runtime.NumGoroutine")=aa:=by kernel_rfl)(h1:acz fn=ab:=by kernel_rfl):FQ f:=
 ⟨d,x9 age hf hname h1 (fun bd h=>by unfold aH xe;rw[hf];exact h) hc⟩
def bc (f:Nat)(fn:Func):BdC:=match x8 tD (gP f) f fn with|some c=>c|none=>default
def ac0 {f:Nat}{fn:Func}(hf:Tryz.prog.funcs[f]?=Z fn){c:BdC}(hc:x8 tD (gP f) f fn=Z c:=by kernel_rfl)(hn:gX (gP f)=ab:=by kernel_rfl):BdOk Tryz.prog aH f c:=
 agx age hn (fun bd h=>by unfold aH xe;rw[hf];exact h) hc
def lp (j:FnC)(i:Nat)(l:List CC):CC:=match (ph j.code)[i]? with|some b=>(z8 b l).1|none=>default
def fl (j:FnC)(l:List CC):FnC:=⟨j.wm,j.nk,j.pin,(z8 j.code l).1,j.res⟩
section
variable {α:Type} (a:List CC→α) (b:α) (x y z u v:CC)
def ev {c:α}(h:a []=c:=by cbv)(q:b=a []:=by kernel_rfl):b=c:=q.trans h
def bO {c:CC→α}(h:∀x,a [x]=c x:=by intro x;cbv)(q:b=a [x]:=by kernel_rfl):b=c x:=q.trans (h x)
def kf {c:CC→CC→α}(h:∀x y,a [x,y]=c x y:=by intro x y;cbv)(q:b=a [x,y]:=by kernel_rfl):b=c x y:=q.trans (h x y)
def ev3 {c:CC→CC→CC→α}(h:∀x y z,a [x,y,z]=c x y z:=by intro x y z;cbv)(q:b=a [x,y,z]:=by kernel_rfl):b=c x y z:=q.trans (h x y z)
def ev4 {c:CC→CC→CC→CC→α}(h:∀x y z u,a [x,y,z,u]=c x y z u:=by intro x y z u;cbv)(q:b=a [x,y,z,u]:=by kernel_rfl):b=c x y z u:=q.trans (h x y z u)
def ev5 {c:CC→CC→CC→CC→CC→α}(h:∀x y z u v,a [x,y,z,u,v]=c x y z u v:=by intro x y z u v;cbv)(q:b=a [x,y,z,u,v]:=by kernel_rfl):b=c x y z u v:=q.trans (h x y z u v)
end
set_option maxHeartbeats 4000000
def afS:=mq aa 237 2 Tryz.func237
def yD:=pk (lp afS.1 0 []=·)
def aik:=ev (lp afS.1 0) yD
def aH2:=bO (fl afS.1) afS.1 yD
def aqC:=mq aa 180 1 Tryz.func180
def aHT:=ev (fl aqC.1) aqC.1
def aqJ:=mq aa 215 1 Tryz.func215
def aQQ:=ev (fl aqJ.1) aqJ.1
def azD:=mq aa 178 1 Tryz.func178
def aHS:=ev (fl azD.1) azD.1
def acu:=mq aa 236 2 Tryz.func236
def yC:=pk (lp acu.1 0 []=·)
def acQ:=ev (lp acu.1 0) yC
def aoF:=bO (fl acu.1) acu.1 yC
def aqK:=mq aa 216 1 Tryz.func216
def aQR:=ev (fl aqK.1) aqK.1
def azE:=mq aa 179 2 Tryz.func179
def aoC:=ev (fl azE.1) azE.1
def aqU:=mq aa 253 1 Tryz.func253
def aQ7:=ev (fl aqU.1) aqU.1
def afX:=mq aa 272 2 Tryz.func272
def yI:=pk (lp afX.1 0 []=·)
def ain:=ev (lp afX.1 0) yI
def aH9:=bO (fl afX.1) afX.1 yI
def acv:=mq aa 273 2 Tryz.func273
def yJ:=pk (lp acv.1 0 []=·)
def aio:=ev (lp acv.1 0) yJ
def aRa:=bO (fl acv.1) acv.1 yJ
def aqR:=mq aa 238 2 Tryz.func238
def aw8:=ev (fl aqR.1) aqR.1
def az7:=mq aa 270 2 Tryz.func270
def aQ9:=ev (fl az7.1) az7.1
def zM:=mq aa 246 2 Tryz.func246
def uH:=pk (lp zM.1 1 []=·)
def aso:=ev (lp zM.1 1) uH
def adD:=pk (lp zM.1 0 [uH]=·)
def asn:=bO (lp zM.1 0) adD uH
def aQ5:=kf (fl zM.1) zM.1 adD uH
def afY:=mq aa 277 2 Tryz.func277
def yK:=pk (lp afY.1 0 []=·)
def ast:=ev (lp afY.1 0) yK
def aRd:=bO (fl afY.1) afY.1 yK
def af2:=mq ab 304 2 Tryz.func304
def yO:=pk (lp af2.1 0 []=·)
def asy:=ev (lp af2.1 0) yO
def aRm:=bO (fl af2.1) af2.1 yO
def my:=mr aa 278 2 Tryz.func278
def adG:=pk (lp my.1 4 []=·)
def asw:=ev (lp my.1 4) adG
def uM:=pk (lp my.1 3 []=·)
def asv:=ev (lp my.1 3) uM
def uL:=pk (lp my.1 2 []=·)
def asu:=ev (lp my.1 2) uL
def oi:=pk (lp my.1 1 []=·)
def xL:=ev (lp my.1 1) oi
def yL:=pk (lp my.1 0 [oi,uL,uM]=·)
def aip:=ev3 (lp my.1 0) yL oi uL uM
def aRe:=ev5 (fl my.1) my.1 yL oi uL uM adG
def aqT:=mq aa 247 2 Tryz.func247
def aoG:=ev (fl aqT.1) aqT.1
def aqV:=mq aa 254 2 Tryz.func254
def aH8:=ev (fl aqV.1) aqV.1
def afQ:=mq aa 217 2 Tryz.func217
def adB:=pk (lp afQ.1 0 []=·)
def ask:=ev (lp afQ.1 0) adB
def aQS:=bO (fl afQ.1) afQ.1 adB
def act:=mq aa 207 2 Tryz.func207
def yz:=pk (lp act.1 0 []=·)
def aig:=ev (lp act.1 0) yz
def aHV:=bO (fl act.1) act.1 yz
def aqG:=mq aa 203 1 Tryz.func203
def aQI:=ev (fl aqG.1) aqG.1
def aqp:=mq aa 140 1 Tryz.func140
def aHE:=ev (fl aqp.1) aqp.1
def afL:=mq aa 206 2 Tryz.func206
def adz:=pk (lp afL.1 0 []=·)
def aif:=ev (lp afL.1 0) adz
def aoE:=bO (fl afL.1) afL.1 adz
def azz:=mq aa 139 2 Tryz.func139
def aQm:=ev (fl azz.1) azz.1
def aqH:=mq aa 204 1 Tryz.func204
def aQJ:=ev (fl aqH.1) aqH.1
def azW:=mq aa 252 1 Tryz.func252
def aQ6:=ev (fl azW.1) azW.1
def afU:=mq aa 249 2 Tryz.func249
def yF:=pk (lp afU.1 0 []=·)
def xK:=ev (lp afU.1 0) yF
def aH5:=bO (fl afU.1) afU.1 yF
def afV:=mq aa 250 2 Tryz.func250
def yG:=pk (lp afV.1 0 []=·)
def tG:=ev (lp afV.1 0) yG
def aH6:=bO (fl afV.1) afV.1 yG
def azO:=mq aa 220 2 Tryz.func220
def aw7:=ev (fl azO.1) azO.1
def az9:=mq aa 275 2 Tryz.func275
def aRb:=ev (fl az9.1) az9.1
def zJ:=mq aa 221 2 Tryz.func221
def uE:=pk (lp zJ.1 1 []=·)
def aih:=ev (lp zJ.1 1) uE
def adC:=pk (lp zJ.1 0 [uE]=·)
def asl:=bO (lp zJ.1 0) adC uE
def aQU:=kf (fl zJ.1) zJ.1 adC uE
def af0:=mq aa 301 2 Tryz.func301
def yN:=pk (lp af0.1 0 []=·)
def asx:=ev (lp af0.1 0) yN
def aRk:=bO (fl af0.1) af0.1 yN
def af1:=mq aa 302 2 Tryz.func302
def aIc:=ev (fl af1.1) af1.1
def wN:=mq aa 274 2 Tryz.func274
def uK:=pk (lp wN.1 1 []=·)
def ass:=ev (lp wN.1 1) uK
def uJ:=pk (lp wN.1 0 []=·)
def asr:=ev (lp wN.1 0) uJ
def aIa:=kf (fl wN.1) wN.1 uJ uK
def akI:=mq aa 243 2 Tryz.func243
def aQ3:=ev (fl akI.1) akI.1
def afK:=mq aa 205 2 Tryz.func205
def uC:=pk (lp afK.1 0 []=·)
def asg:=ev (lp afK.1 0) uC
def aQK:=bO (fl afK.1) afK.1 uC
def akH:=mq aa 218 2 Tryz.func218
def aeC:=ev (fl akH.1) akH.1
def az8:=mq aa 271 2 Tryz.func271
def axb:=ev (fl az8.1) az8.1
def akJ:=mq aa 248 1 Tryz.func248
def aH4:=ev (fl akJ.1) akJ.1
def aAf:=mq aa 298 1 Tryz.func298
def aRh:=ev (fl aAf.1) aAf.1
def aqZ:=mq aa 299 3 Tryz.func299
def aRi:=ev (fl aqZ.1) aqZ.1
def aq0:=mq aa 300 3 Tryz.func300
def aRj:=ev (fl aq0.1) aq0.1
def aAg:=mq aa 303 1 Tryz.func303
def aRl:=ev (fl aAg.1) aAg.1
def aqW:=mq aa 287 1 Tryz.func287
def aoI:=ev (fl aqW.1) aqW.1
def akK:=mq ab 276 1 Tryz.func276
def aRc:=ev (fl akK.1) akK.1
end
end Go.Proofs.YtfiijelajgifiaaGreat
