/-
  The program in annotated form.
-/
import Derived.Test.YtcejidongpkpoaaGreatA4
set_option linter.all false
set_option linter.unusedSectionVars false
set_option linter.constructorNameAsVariable false
namespace Go.Proofs.YtcejidongpkpoaaGreat
open Go Go.Mach Go.Flow
set_option maxRecDepth 100000
abbrev o (a : COp) : Ro1 := ⟨none, none, [], a⟩
abbrev p (k : Nat) (a : COp) : Ro1 := ⟨none, some k, [], a⟩
def q0 : Od := (.k (.t (.one (.c (.v (.int .i64 (Int.ofNat 0)))))))
def q1 : Od := (.k (.t (.one (.c (.v (.int .i64 (Int.ofNat 1)))))))
def q2 : Od := (.k (.t (.one (.c (.v (.slice none 0 0))))))
def q3 : Od := (.k (.t (.one (.c (.v (.bool false))))))
def q4 : Od := (.k (.t (.one (.c (.v (.bool true))))))
def q5 : Od := (.k (.t (.one (.c (.v (.func (.func 37) ⟨[]⟩ ⟨[]⟩))))))
def q6 : Od := (.k (.t (.one (.c (.v (.int .u64 (Int.ofNat 0)))))))
def q7 : Od := (.k (.t (.one (.c (.v (.int .i64 (Int.ofNat 3)))))))
def q8 : Od := (.k (.t (.one (.c (.v (.func (.func 88) ⟨[]⟩ ⟨[]⟩))))))
def q9 : Od := (.k (.t (.one (.c (.v (.int .u64 (Int.ofNat 2147483647)))))))
def q10 : Od := (.k (.t (.one (.c (.v (.int .i64 (Int.ofNat 2)))))))
def q11 : Od := (.k (.t (.one (.c (.v (.int .i64 (Int.negSucc 0)))))))
def q12 : Od := (.k (.t (.one (.c (.v (.func (.func 40) ⟨[]⟩ ⟨[]⟩))))))
def q13 : Od := (.k (.t (.one (.c (.v (.func (.func 61) ⟨[]⟩ ⟨[]⟩))))))
def q14 : Od := (.k (.t (.one (.c (.v (.func (.func 92) ⟨[]⟩ ⟨[]⟩))))))
def q15 : Od := (.k (.t (.one (.c (.v (.int .i64 (Int.ofNat 4)))))))
def q16 : Od := (.k (.t (.one (.c (.v (.func (.func 13) ⟨[]⟩ ⟨[]⟩))))))
def q17 : Od := (.k (.t (.one (.c (.v (.func (.func 22) ⟨[]⟩ ⟨[]⟩))))))
def q18 : Od := (.k (.t (.one (.c (.v (.func (.func 95) ⟨[]⟩ ⟨[]⟩))))))
def q19 : Od := (.k (.t (.one (.c (.v (.func (.func 5) ⟨[]⟩ ⟨[]⟩))))))
def q20 : Od := (.k (.t (.one (.c (.v (.func (.func 189) ⟨[]⟩ ⟨[]⟩))))))
def q21 : Od := (.k (.t (.one (.c (.v (.func (.func 84) ⟨[]⟩ ⟨[]⟩))))))
def q22 : Od := (.k (.t (.one (.c (.v (.func (.func 6) ⟨[]⟩ ⟨[]⟩))))))
def q23 : Od := (.k (.t (.one (.c (.v (.func (.func 8) ⟨[]⟩ ⟨[]⟩))))))
def q24 : Od := (.k (.t (.one (.c (.v (.func (.func 86) ⟨[]⟩ ⟨[]⟩))))))
def q25 : Od := (.k (.t (.one (.c (.v (.func (.func 184) ⟨[]⟩ ⟨[]⟩))))))
def q26 : Od := (.k (.t (.one (.c (.v (.int .u64 (Int.ofNat 32)))))))
def q27 : Od := (.k (.t (.one (.c (.v (.func (.func 38) ⟨[]⟩ ⟨[]⟩))))))
def q28 : Od := (.k (.t (.one (.c (.v (.func (.func 70) ⟨[]⟩ ⟨[]⟩))))))
def q29 : Od := (.k (.t (.one (.c (.v (.func (.func 125) ⟨[]⟩ ⟨[]⟩))))))
def q30 : Od := (.k (.t (.one (.c (.v (.func (.func 156) ⟨[]⟩ ⟨[]⟩))))))
def q31 : Od := (.k (.t (.one (.c (.v (.func (.func 202) ⟨[]⟩ ⟨[]⟩))))))
def q32 : Od := (.k (.t (.one (.c (.v (.int .u64 (Int.ofNat 1)))))))
def q33 : Od := (.k (.t (.one (.c (.v (.int .i64 (Int.ofNat 6)))))))
def q34 : Od := (.k (.t (.one (.c (.v (.func (.func 16) ⟨[]⟩ ⟨[]⟩))))))
def q35 : Od := (.k (.t (.one (.c (.v (.func (.func 35) ⟨[]⟩ ⟨[]⟩))))))
def q36 : Od := (.k (.t (.one (.c (.v (.func (.func 76) ⟨[]⟩ ⟨[]⟩))))))
def q37 : Od := (.k (.t (.one (.c (.v (.func (.func 87) ⟨[]⟩ ⟨[]⟩))))))
def q38 : Od := (.k (.t (.one (.c (.v (.func (.func 104) ⟨[]⟩ ⟨[]⟩))))))
def q39 : Od := (.k (.t (.one (.c (.v (.func (.func 160) ⟨[]⟩ ⟨[]⟩))))))
def q40 : Od := (.k (.t (.one (.c (.v (.func (.func 10) ⟨[]⟩ ⟨[]⟩))))))
def q41 : Od := (.k (.t (.one (.c (.v (.func (.func 113) ⟨[]⟩ ⟨[]⟩))))))
def q42 : Od := (.k (.t (.one (.c (.v (.func (.func 123) ⟨[]⟩ ⟨[]⟩))))))
def q43 : Od := (.k (.t (.one (.c (.v (.func (.func 66) ⟨[]⟩ ⟨[]⟩))))))
def q44 : Od := (.k (.t (.one (.c (.v (.func (.func 135) ⟨[]⟩ ⟨[]⟩))))))
def q45 : Od := (.k (.t (.one (.c (.v (.func (.func 139) ⟨[]⟩ ⟨[]⟩))))))
def q46 : Od := (.k (.t (.one (.c (.v (.func (.func 172) ⟨[]⟩ ⟨[]⟩))))))
def q47 : Od := (.k (.t (.one (.c (.v (.func (.func 177) ⟨[]⟩ ⟨[]⟩))))))
def q48 : Od := (.k (.t (.one (.c (.v (.int .i64 (Int.ofNat 8)))))))
def q49 : Od := (.k (.t (.one (.c (.v (.func (.func 7) ⟨[]⟩ ⟨[]⟩))))))
def q50 : Od := (.k (.t (.one (.c (.v (.func (.func 9) ⟨[]⟩ ⟨[]⟩))))))
def q51 : Od := (.k (.t (.one (.c (.v (.func (.func 34) ⟨[]⟩ ⟨[]⟩))))))
def q52 : Od := (.k (.t (.one (.c (.v (.func (.func 55) ⟨[]⟩ ⟨[]⟩))))))
def q53 : Od := (.k (.t (.one (.c (.v (.func (.func 78) ⟨[]⟩ ⟨[]⟩))))))
def q54 : Od := (.k (.t (.one (.c (.v (.func (.func 93) ⟨[]⟩ ⟨[]⟩))))))
def q55 : Od := (.k (.t (.one (.c (.v (.func (.func 103) ⟨[]⟩ ⟨[]⟩))))))
def q56 : Od := (.k (.t (.one (.c (.v (.func (.func 115) ⟨[]⟩ ⟨[]⟩))))))
def q57 : Od := (.k (.t (.one (.c (.v (.func (.func 114) ⟨[]⟩ ⟨[]⟩))))))
def q58 : Od := (.k (.t (.one (.c (.v (.func (.func 148) ⟨[]⟩ ⟨[]⟩))))))
def q59 : Od := (.k (.t (.one (.c (.v (.func (.func 150) ⟨[]⟩ ⟨[]⟩))))))
def q60 : Od := (.k (.t (.one (.c (.v (.func (.func 151) ⟨[]⟩ ⟨[]⟩))))))
def q61 : Od := (.k (.t (.one (.c (.v (.func (.func 152) ⟨[]⟩ ⟨[]⟩))))))
def q62 : Od := (.k (.t (.one (.c (.v (.func (.func 168) ⟨[]⟩ ⟨[]⟩))))))
def q63 : Od := (.k (.t (.one (.c (.v (.func (.func 170) ⟨[]⟩ ⟨[]⟩))))))
def q64 : Od := (.k (.t (.one (.c (.v (.func (.func 174) ⟨[]⟩ ⟨[]⟩))))))
def q65 : Od := (.k (.t (.one (.c (.v (.func (.func 175) ⟨[]⟩ ⟨[]⟩))))))
def q66 : Od := (.k (.t (.one (.c (.v (.func (.func 208) ⟨[]⟩ ⟨[]⟩))))))
def q67 : Od := (.k (.t (.one (.c (.v .nilFunc)))))
def q68 : Od := (.k (.t (.one (.c (.v (.int .i64 (Int.ofNat 2147483645)))))))
def q69 : Od := (.k (.t (.one (.c (.v (.func (.func 11) ⟨[]⟩ ⟨[]⟩))))))
def q70 : Od := (.k (.t (.one (.c (.v (.func (.func 21) ⟨[]⟩ ⟨[]⟩))))))
def q71 : Od := (.k (.t (.one (.c (.v (.func (.func 23) ⟨[]⟩ ⟨[]⟩))))))
def q72 : Od := (.k (.t (.one (.c (.v (.func (.func 25) ⟨[]⟩ ⟨[]⟩))))))
def q73 : Od := (.k (.t (.one (.c (.v (.func (.func 26) ⟨[]⟩ ⟨[]⟩))))))
def q74 : Od := (.k (.t (.one (.c (.v (.func (.func 29) ⟨[]⟩ ⟨[]⟩))))))
def q75 : Od := (.k (.t (.one (.c (.v (.func (.func 30) ⟨[]⟩ ⟨[]⟩))))))
def q76 : Od := (.k (.t (.one (.c (.v (.func (.func 48) ⟨[]⟩ ⟨[]⟩))))))
def q77 : Od := (.k (.t (.one (.c (.v (.func (.func 57) ⟨[]⟩ ⟨[]⟩))))))
def q78 : Od := (.k (.t (.one (.c (.v (.func (.func 58) ⟨[]⟩ ⟨[]⟩))))))
def q79 : Od := (.k (.t (.one (.c (.v (.func (.func 59) ⟨[]⟩ ⟨[]⟩))))))
def q80 : Od := (.k (.t (.one (.c (.v (.func (.func 62) ⟨[]⟩ ⟨[]⟩))))))
def q81 : Od := (.k (.t (.one (.c (.v (.func (.func 72) ⟨[]⟩ ⟨[]⟩))))))
def q82 : Od := (.k (.t (.one (.c (.v (.func (.func 71) ⟨[]⟩ ⟨[]⟩))))))
def q83 : Od := (.k (.t (.one (.c (.v (.func (.func 90) ⟨[]⟩ ⟨[]⟩))))))
def q84 : Od := (.k (.t (.one (.c (.v (.func (.func 89) ⟨[]⟩ ⟨[]⟩))))))
def q85 : Od := (.k (.t (.one (.c (.v (.func (.func 94) ⟨[]⟩ ⟨[]⟩))))))
def q86 : Od := (.k (.t (.one (.c (.v (.func (.func 105) ⟨[]⟩ ⟨[]⟩))))))
def q87 : Od := (.k (.t (.one (.c (.v (.func (.func 120) ⟨[]⟩ ⟨[]⟩))))))
def q88 : Od := (.k (.t (.one (.c (.v (.func (.func 121) ⟨[]⟩ ⟨[]⟩))))))
def q89 : Od := (.k (.t (.one (.c (.v (.func (.func 65) ⟨[]⟩ ⟨[]⟩))))))
def q90 : Od := (.k (.t (.one (.c (.v (.func (.func 132) ⟨[]⟩ ⟨[]⟩))))))
def q91 : Od := (.k (.t (.one (.c (.v (.func (.func 140) ⟨[]⟩ ⟨[]⟩))))))
def q92 : Od := (.k (.t (.one (.c (.v (.func (.func 163) ⟨[]⟩ ⟨[]⟩))))))
def q93 : Od := (.k (.t (.one (.c (.v (.func (.func 164) ⟨[]⟩ ⟨[]⟩))))))
def q94 : Od := (.k (.t (.one (.c (.v (.func (.func 165) ⟨[]⟩ ⟨[]⟩))))))
def q95 : Od := (.k (.t (.one (.c (.v (.func (.func 169) ⟨[]⟩ ⟨[]⟩))))))
def q96 : Od := (.k (.t (.one (.c (.v (.func (.func 178) ⟨[]⟩ ⟨[]⟩))))))
def q97 : Od := (.k (.t (.one (.c (.v (.func (.func 187) ⟨[]⟩ ⟨[]⟩))))))
def q98 : Od := (.k (.t (.one (.c (.v (.func (.func 188) ⟨[]⟩ ⟨[]⟩))))))
def q99 : Od := (.k (.t (.one (.c (.v (.func (.func 209) ⟨[]⟩ ⟨[]⟩))))))
def q100 : Od := (.k (.t (.one (.c (.v (.func (.func 223) ⟨[]⟩ ⟨[]⟩))))))
def q101 : Od := (.k (.t (.one (.c (.v (.func (.func 231) ⟨[]⟩ ⟨[]⟩))))))
def q102 : Od := (.k (.t (.one (.c (.v (.func (.func 248) ⟨[]⟩ ⟨[]⟩))))))
def q103 : Od := (.k (.t (.one (.c (.v (.int .u64 (Int.ofNat 4294967295)))))))
def q104 : Od := (.k (.t (.one (.c (.v (.int .u64 (Int.ofNat 17)))))))
def q105 : Od := (.k (.t (.one (.c (.v (.func (.func 259) ⟨[]⟩ ⟨[]⟩))))))
def q106 : Od := (.k (.t (.one (.c (.v (.func (.func 277) ⟨[]⟩ ⟨[]⟩))))))
def q107 : Od := (.k (.t (.one (.c (.v (.func (.func 285) ⟨[]⟩ ⟨[]⟩))))))
def q108 : Od := (.k (.t (.one (.c (.v (.func (.func 288) ⟨[]⟩ ⟨[]⟩))))))
def q109 : Od := (.k (.t (.one (.c (.v (.int .i8 (Int.ofNat 0)))))))
def q110 : Od := (.k (.t (.one (.c (.v (.int .i64 (Int.ofNat 5)))))))
def q111 : Od := (.k (.t (.one (.c (.v (.func (.func 14) ⟨[]⟩ ⟨[]⟩))))))
def q112 : Od := (.k (.t (.one (.c (.v (.func (.func 17) ⟨[]⟩ ⟨[]⟩))))))
def q113 : Od := (.k (.t (.one (.c (.v (.func (.func 20) ⟨[]⟩ ⟨[]⟩))))))
def q114 : Od := (.k (.t (.one (.c (.v (.func (.func 24) ⟨[]⟩ ⟨[]⟩))))))
def q115 : Od := (.k (.t (.one (.c (.v (.func (.func 27) ⟨[]⟩ ⟨[]⟩))))))
def q116 : Od := (.k (.t (.one (.c (.v (.func (.func 28) ⟨[]⟩ ⟨[]⟩))))))
def q117 : Od := (.k (.t (.one (.c (.v (.func (.func 33) ⟨[]⟩ ⟨[]⟩))))))
def q118 : Od := (.k (.t (.one (.c (.v (.func (.func 36) ⟨[]⟩ ⟨[]⟩))))))
def q119 : Od := (.k (.t (.one (.c (.v (.func (.func 43) ⟨[]⟩ ⟨[]⟩))))))
def q120 : Od := (.k (.t (.one (.c (.v (.func (.func 49) ⟨[]⟩ ⟨[]⟩))))))
def q121 : Od := (.k (.t (.one (.c (.v (.func (.func 56) ⟨[]⟩ ⟨[]⟩))))))
def q122 : Od := (.k (.t (.one (.c (.v (.func (.func 75) ⟨[]⟩ ⟨[]⟩))))))
def q123 : Od := (.k (.t (.one (.c (.v (.func (.func 81) ⟨[]⟩ ⟨[]⟩))))))
def q124 : Od := (.k (.t (.one (.c (.v (.func (.func 85) ⟨[]⟩ ⟨[]⟩))))))
def q125 : Od := (.k (.t (.one (.c (.v (.func (.func 91) ⟨[]⟩ ⟨[]⟩))))))
def q126 : Od := (.k (.t (.one (.c (.v (.func (.func 96) ⟨[]⟩ ⟨[]⟩))))))
def q127 : Od := (.k (.t (.one (.c (.v (.func (.func 98) ⟨[]⟩ ⟨[]⟩))))))
def q128 : Od := (.k (.t (.one (.c (.v (.func (.func 99) ⟨[]⟩ ⟨[]⟩))))))
def q129 : Od := (.k (.t (.one (.c (.v (.func (.func 102) ⟨[]⟩ ⟨[]⟩))))))
def q130 : Od := (.k (.t (.one (.c (.v (.func (.func 110) ⟨[]⟩ ⟨[]⟩))))))
def q131 : Od := (.k (.t (.one (.c (.v (.func (.func 53) ⟨[]⟩ ⟨[]⟩))))))
def q132 : Od := (.k (.t (.one (.c (.v (.func (.func 112) ⟨[]⟩ ⟨[]⟩))))))
def q133 : Od := (.k (.t (.one (.c (.v (.func (.func 122) ⟨[]⟩ ⟨[]⟩))))))
def q134 : Od := (.k (.t (.one (.c (.v (.func (.func 126) ⟨[]⟩ ⟨[]⟩))))))
def q135 : Od := (.k (.t (.one (.c (.v (.func (.func 64) ⟨[]⟩ ⟨[]⟩))))))
def q136 : Od := (.k (.t (.one (.c (.v (.func (.func 129) ⟨[]⟩ ⟨[]⟩))))))
def q137 : Od := (.k (.t (.one (.c (.v (.func (.func 131) ⟨[]⟩ ⟨[]⟩))))))
def q138 : Od := (.k (.t (.one (.c (.v (.func (.func 130) ⟨[]⟩ ⟨[]⟩))))))
def q139 : Od := (.k (.t (.one (.c (.v (.func (.func 134) ⟨[]⟩ ⟨[]⟩))))))
def q140 : Od := (.k (.t (.one (.c (.v (.func (.func 143) ⟨[]⟩ ⟨[]⟩))))))
def q141 : Od := (.k (.t (.one (.c (.v (.func (.func 144) ⟨[]⟩ ⟨[]⟩))))))
def q142 : Od := (.k (.t (.one (.c (.v (.func (.func 154) ⟨[]⟩ ⟨[]⟩))))))
def q143 : Od := (.k (.t (.one (.c (.v (.int .u64 (Int.ofNat 9223372036854775807)))))))
def q144 : Od := (.k (.t (.one (.c (.v (.func (.func 161) ⟨[]⟩ ⟨[]⟩))))))
def q145 : Od := (.k (.t (.one (.c (.v (.func (.func 176) ⟨[]⟩ ⟨[]⟩))))))
def q146 : Od := (.k (.t (.one (.c (.v (.func (.func 192) ⟨[]⟩ ⟨[]⟩))))))
def q147 : Od := (.k (.t (.one (.c (.v (.func (.func 193) ⟨[]⟩ ⟨[]⟩))))))
def q148 : Od := (.k (.t (.one (.c (.v (.func (.func 194) ⟨[]⟩ ⟨[]⟩))))))
def q149 : Od := (.k (.t (.one (.c (.v (.func (.func 198) ⟨[]⟩ ⟨[]⟩))))))
def q150 : Od := (.k (.t (.one (.c (.v (.func (.func 199) ⟨[]⟩ ⟨[]⟩))))))
def q151 : Od := (.k (.t (.one (.c (.v (.func (.func 205) ⟨[]⟩ ⟨[]⟩))))))
def q152 : Od := (.k (.t (.one (.c (.v (.func (.func 142) ⟨[]⟩ ⟨[]⟩))))))
def q153 : Od := (.k (.t (.one (.c (.v (.func (.func 224) ⟨[]⟩ ⟨[]⟩))))))
def q154 : Od := (.k (.t (.one (.c (.v (.func (.func 230) ⟨[]⟩ ⟨[]⟩))))))
def q155 : Od := (.k (.t (.one (.c (.v (.func (.func 236) ⟨[]⟩ ⟨[]⟩))))))
def q156 : Od := (.k (.t (.one (.c (.v (.func (.func 241) ⟨[]⟩ ⟨[]⟩))))))
def q157 : Od := (.k (.t (.one (.c (.v (.func (.func 207) ⟨[]⟩ ⟨[]⟩))))))
def q158 : Od := (.k (.t (.one (.c (.v (.func (.func 249) ⟨[]⟩ ⟨[]⟩))))))
def q159 : Od := (.k (.t (.one (.c (.v (.int .u32 (Int.ofNat 0)))))))
def q160 : Od := (.k (.t (.one (.c (.v (.func (.func 250) ⟨[]⟩ ⟨[]⟩))))))
def q161 : Od := (.k (.t (.one (.c (.v (.int .u64 (Int.ofNat 100)))))))
def q162 : Od := (.k (.t (.one (.c (.v (.func (.func 252) ⟨[]⟩ ⟨[]⟩))))))
def q163 : Od := (.k (.t (.one (.c (.v (.func (.func 258) ⟨[]⟩ ⟨[]⟩))))))
def q164 : Od := (.k (.t (.one (.c (.v (.func (.func 264) ⟨[]⟩ ⟨[]⟩))))))
def q165 : Od := (.k (.t (.one (.c (.v (.int .i64 (Int.ofNat 12)))))))
def q166 : Od := (.k (.t (.one (.c (.v (.func (.func 276) ⟨[]⟩ ⟨[]⟩))))))
def q167 : Od := (.k (.t (.one (.c (.v (.int .u64 (Int.ofNat 4294967296)))))))
def q168 : Od := (.k (.t (.one (.c (.v (.func (.func 282) ⟨[]⟩ ⟨[]⟩))))))
def q169 : Od := (.k (.t (.one (.c (.v (.int .i64 (Int.ofNat 50)))))))
def q170 : Od := (.k (.t (.one (.c (.v (.func (.func 286) ⟨[]⟩ ⟨[]⟩))))))
def q171 : Od := (.k (.t (.one (.c (.v (.int .u64 (Int.ofNat 16)))))))
def q172 : Od := (.k (.t (.one (.c (.v (.int .i64 (Int.ofNat 16)))))))
def q173 : Od := (.k (.t (.one (.c (.v (.int .u64 (Int.ofNat 8)))))))
def q174 : Od := (.k (.t (.one (.c (.v (.string ⟨⟨[0, 1, 2, 2, 3, 3, 3, 3, 4, 4, 4, 4, 4, 4, 4, 4, 5, 5, 5, 5, 5, 5, 5, 5, 5, 5, 5, 5, 5, 5, 5, 5, 6, 6, 6, 6, 6, 6, 6, 6, 6, 6, 6, 6, 6, 6, 6, 6, 6, 6, 6, 6, 6, 6, 6, 6, 6, 6, 6, 6, 6, 6, 6, 6, 7, 7, 7, 7, 7, 7, 7, 7, 7, 7, 7, 7, 7, 7, 7, 7, 7, 7, 7, 7, 7, 7, 7, 7, 7, 7, 7, 7, 7, 7, 7, 7, 7, 7, 7, 7, 7, 7, 7, 7, 7, 7, 7, 7, 7, 7, 7, 7, 7, 7, 7, 7, 7, 7, 7, 7, 7, 7, 7, 7, 7, 7, 7, 7, 8, 8, 8, 8, 8, 8, 8, 8, 8, 8, 8, 8, 8, 8, 8, 8, 8, 8, 8, 8, 8, 8, 8, 8, 8, 8, 8, 8, 8, 8, 8, 8, 8, 8, 8, 8, 8, 8, 8, 8, 8, 8, 8, 8, 8, 8, 8, 8, 8, 8, 8, 8, 8, 8, 8, 8, 8, 8, 8, 8, 8, 8, 8, 8, 8, 8, 8, 8, 8, 8, 8, 8, 8, 8, 8, 8, 8, 8, 8, 8, 8, 8, 8, 8, 8, 8, 8, 8, 8, 8, 8, 8, 8, 8, 8, 8, 8, 8, 8, 8, 8, 8, 8, 8, 8, 8, 8, 8, 8, 8, 8, 8, 8, 8, 8, 8, 8, 8, 8, 8, 8, 8, 8, 8, 8, 8, 8, 8]⟩⟩))))))
def q175 : COp := (.ld false 1 (.x 0))
def q176 : COp := (.ld true 4 (.x 0))
def q177 : COp := (.pk (.bin .sub) [(.x 0), q1])
def q178 : COp := (.ext 0 (.x 0))
def q179 : COp := (.ext 1 (.x 1))
def q180 : COp := (.ld true 8 (.x 0))
def q181 : COp := (.ld true 2 (.x 0))
def q182 : COp := (.pk (.bin .add) [(.x 0), q1])
def q183 : COp := (.new [(.c (.v (.bool false))), (.c (.v (.slice none 0 0))), (.c (.v (.bool false))), (.c (.v (.slice none 0 0)))])
def q184 : COp := (.ixS 8 (.x 1) (.x 0))
def q185 : COp := (.pk (.bin .eql) [(.x 0), q0])
def q186 : COp := (.off 0 (.f 0))
def q187 : COp := (.ld true 2 (.f 0))
def q188 : COp := (.off 0 (.f 1))
def q189 : COp := (.ld true 2 (.f 1))
def q190 : COp := (.ixS 1 (.x 1) (.x 0))
def q191 : COp := (.new [(.c (.v (.slice none 0 0))), (.c (.v (.slice none 0 0)))])
def q192 : COp := (.off 0 (.x 0))
def q193 : COp := (.off 1 (.f 0))
def q194 : COp := (.pk .not [(.x 0)])
def q195 : COp := (.pk (.bin .gtr) [(.x 0), q0])
def q196 : COp := (.new [(.c (.v (.bool false))), (.c (.v (.slice none 0 0)))])
def q197 : COp := (.pk (.bin .add) [(.f 0), q1])
def q198 : COp := (.sto 4 (.x 0) (.x 1))
def q199 : COp := (.nilc (.x 0))
def q200 : COp := (.pk (.bin .add) [(.x 1), (.x 0)])
def q201 : COp := (.pk (.bin .lss) [(.x 0), q0])
def q202 : COp := (.ld true 4 (.f 3))
def q203 : COp := (.pk (.bin .geq) [(.x 0), q0])
def q204 : COp := (.pk (.bin .lss) [(.x 2), (.x 0)])
def q205 : COp := (.sto 1 (.x 0) (.x 1))
def q206 : COp := (.off 4 (.x 0))
def q207 : COp := (.off 2 (.f 0))
def q208 : COp := (.pk (.bin .sub) [(.x 1), (.x 0)])
def q209 : COp := (.ixS 8 (.x 0) q0)
def q210 : COp := (.ld true 4 (.f 0))
def q211 : COp := (.bsl [(.int .i64 (Int.ofNat 0)), (.int .i64 (Int.ofNat 0)), (.int .i64 (Int.ofNat 0)), (.int .i64 (Int.ofNat 0)), (.bool false), (.slice none 0 0), (.bool false), (.slice none 0 0)] 8 1 [0] [(.x 0)])
def q212 : COp := (.ixS 4 (.x 1) (.x 0))
def q213 : COp := (.call q5 [q1])
def q214 : COp := (.sto 2 (.x 0) (.x 1))
def q215 : COp := (.pick (.x 2) (.x 0) q3)
def q216 : COp := (.sto 4 (.x 0) (.x 2))
def q217 : COp := (.off 1 (.f 1))
def q218 : COp := (.pk (.bin .neq) [(.x 0), q0])
def q219 : COp := (.ld true 4 (.f 1))
def q220 : COp := (.new [(.c (.v (.int .i64 (Int.ofNat 0)))), (.c (.v (.int .i64 (Int.ofNat 0)))), (.c (.v (.int .i64 (Int.ofNat 0)))), (.c (.v (.int .i64 (Int.ofNat 0)))), (.c (.v (.bool false))), (.c (.v (.slice none 0 0))), (.c (.v (.bool false))), (.c (.v (.slice none 0 0)))])
def q221 : COp := (.pk (.cvt .u64) [(.x 0)])
def q222 : COp := (.pk (.bin .rem) [(.x 0), q9])
def q223 : COp := (.ixS 8 (.x 11) (.x 10))
def q224 : COp := (.pick (.x 3) (.x 0) q3)
def q225 : COp := (.ext 2 (.x 2))
def q226 : COp := (.sto 8 (.x 0) (.x 1))
def q227 : COp := (.ixR 4 1 (.x 0) (.x 1))
def q228 : COp := (.sto 4 (.f 1) (.x 0))
def q229 : COp := (.sto 8 (.x 0) (.x 3))
def q230 : COp := (.sto 2 (.f 2) (.x 0))
def q231 : COp := (.off 2 (.f 1))
def q232 : COp := (.pk (.bin .mul) [(.x 1), (.x 0)])
def q233 : COp := (.sto 8 (.x 0) (.x 5))
def q234 : COp := (.bsl [(.bool false), (.slice none 0 0), (.bool false), (.slice none 0 0)] 4 1 [0] [(.x 0)])
def q235 : COp := (.sto 4 (.f 2) (.x 0))
def q236 : COp := (.bsl [(.int .i64 (Int.ofNat 0)), (.int .i64 (Int.ofNat 0)), (.int .i64 (Int.ofNat 0)), (.int .i64 (Int.ofNat 0)), (.bool false), (.slice none 0 0), (.bool false), (.slice none 0 0)] 8 0 [] [])
def q237 : COp := (.call q13 [(.x 1), (.x 0)])
def q238 : COp := (.bsl [(.bool false), (.slice none 0 0)] 2 2 [0, 1] [(.x 2), (.x 0)])
def q239 : COp := (.call q18 [(.x 0)])
def q240 : COp := (.ld false 1 (.f 0))
def q241 : COp := (.sto 2 (.x 1) (.x 4))
def q242 : COp := (.sto 2 (.f 0) (.x 0))
def q243 : COp := (.ld true 2 (.f 3))
def q244 : COp := (.call q5 [q0])
def q245 : COp := (.off 4 (.f 1))
def q246 : COp := (.ld true 2 (.f 2))
def q247 : COp := (.ld false 1 (.f 2))
def q248 : COp := (.call q20 [(.x 1), (.x 0)])
def q249 : COp := (.ixS 1 (.x 3) (.x 0))
def q250 : COp := (.pk (.bin .lss) [(.x 1), (.x 0)])
def q251 : COp := (.sto 4 (.f 0) (.x 0))
def q252 : COp := (.call q21 [(.x 0)])
def q253 : COp := (.pk (.bin .add) [(.x 2), (.x 0)])
def q254 : COp := (.new [(.c (.v (.slice none 0 0)))])
def q255 : COp := (.ld false 1 (.f 1))
def q256 : COp := (.ixS 8 (.x 2) (.x 0))
def q257 : COp := (.pk (.cvt .i64) [(.x 0)])
def q258 : COp := (.new [(.c (.v (.bool false))), (.c (.v (.slice none 0 0))), (.c (.v (.slice none 0 0))), (.c (.v (.int .i64 (Int.ofNat 0)))), (.c (.v (.slice none 0 0)))])
def q259 : COp := (.sto 2 (.f 1) (.x 0))
def q260 : COp := (.call q8 [(.x 2), (.x 0)])
def q261 : COp := (.pk (.bin .eql) [(.x 0), q1])
def q262 : COp := (.call q23 [(.x 0)])
def q263 : COp := (.sto 5 (.x 0) (.x 2))
def q264 : COp := (.pick (.x 4) (.x 0) q3)
def q265 : COp := (.ld true 4 (.f 5))
def q266 : COp := (.ld true 4 (.f 4))
def q267 : COp := (.call q14 [q1])
def q268 : COp := (.ld false 1 (.f 3))
def q269 : COp := (.call q25 [(.x 0)])
def q270 : COp := (.call q17 [(.x 2), (.x 0)])
def q271 : COp := (.ld true 4 (.f 2))
def q272 : COp := (.pick (.x 7) (.x 0) q3)
def q273 : COp := (.off 4 (.f 0))
def q274 : COp := (.pick (.x 4) q4 (.x 0))
def q275 : COp := (.call (.x 1) [(.x 0)])
def q276 : COp := (.pk (.bin .lss) [(.f 0), (.f 6)])
def q277 : COp := (.call q12 [(.x 1), (.x 0)])
def q278 : COp := (.call q29 [(.x 2), (.x 0)])
def q279 : COp := (.pk (.bin .leq) [(.x 1), (.x 0)])
def q280 : COp := (.pk (.bin .geq) [(.x 1), (.x 0)])
def q281 : COp := (.ld true 8 (.f 1))
def q282 : COp := (.call q31 [(.x 1), (.x 0)])
def q283 : COp := (.pk (.bin .shr) [(.x 0), q26])
def q284 : COp := (.ixS 8 (.x 3) (.x 0))
def q285 : COp := (.call (.x 8) [(.x 4), (.x 0)])
def q286 : COp := (.call q22 [(.x 1), (.x 0)])
def q287 : COp := (.call q16 [q1])
def q288 : COp := (.off 1 (.f 3))
def q289 : COp := (.call q34 [(.x 0)])
def q290 : COp := (.ld true 2 (.f 4))
def q291 : COp := (.call q35 [(.x 0)])
def q292 : COp := (.sto 2 (.x 0) (.x 2))
def q293 : COp := (.pk (.bin .eql) [(.x 2), (.x 0)])
def q294 : COp := (.pick (.x 2) q4 (.x 0))
def q295 : COp := (.pick (.x 3) q4 (.x 0))
def q296 : COp := (.bsl [(.slice none 0 0)] 1 1 [0] [(.x 0)])
def q297 : COp := (.sto 4 (.x 1) (.x 2))
def q298 : COp := (.sto 1 (.x 0) (.x 2))
def q299 : COp := (.pk (.bin .neq) [(.x 1), (.x 0)])
def q300 : COp := (.off 2 (.x 0))
def q301 : COp := (.ixR 4 1 (.x 0) (.x 2))
def q302 : COp := (.ld false 1 (.f 7))
def q303 : COp := (.pk (.bin .add) [(.x 3), (.x 0)])
def q304 : COp := (.pk (.bin .gtr) [(.x 1), (.x 0)])
def q305 : COp := (.call q19 [q1])
def q306 : COp := (.off 0 (.f 3))
def q307 : COp := (.pick (.x 6) (.x 0) q3)
def q308 : COp := (.call q5 [(.x 0)])
def q309 : COp := (.bld [(.c (.v (.bool false))), (.c (.v (.slice none 0 0))), (.c (.v (.bool false))), (.c (.v (.slice none 0 0)))] [(0, 2), (2, 2)] [0, 1] [(.x 1), (.x 0)])
def q310 : COp := (.bld [(.c (.v (.int .i64 (Int.ofNat 0)))), (.c (.v (.int .i64 (Int.ofNat 0)))), (.c (.v (.int .i64 (Int.ofNat 0)))), (.c (.v (.int .i64 (Int.ofNat 0)))), (.c (.v (.bool false))), (.c (.v (.slice none 0 0))), (.c (.v (.bool false))), (.c (.v (.slice none 0 0)))] [(0, 4), (4, 4)] [1] [(.x 0)])
def q311 : COp := (.pk (.bin .lss) [(.f 0), (.f 5)])
def q312 : COp := (.call q28 [(.x 1), (.x 0)])
def q313 : COp := (.off 1 (.x 0))
def q314 : COp := (.pk (.bin .lss) [(.f 0), (.f 8)])
def q315 : COp := (.pick (.x 5) (.x 0) q3)
def q316 : COp := (.call q41 [(.x 0)])
def q317 : COp := (.pk (.bin .add) [(.x 4), (.x 0)])
def q318 : COp := (.call q45 [(.x 0)])
def q319 : COp := (.call q46 [(.x 1), (.x 0)])
def q320 : COp := (.app 8 96 (.x 2) (.x 0))
def q321 : COp := (.slc 8 (.x 0) (some q1) none)
def q322 : COp := (.pk (.cvt .u32) [(.x 0)])
def q323 : COp := (.sto 1 (.f 0) (.x 0))
def q324 : COp := (.pk (.bin .quo) [(.x 0), q15])
def q325 : COp := (.off 0 (.f 7))
def q326 : COp := (.new [(.c (.v (.slice none 0 0))), (.c (.v (.slice none 0 0))), (.c (.v (.slice none 0 0)))])
def q327 : COp := (.new [(.c (.v (.slice none 0 0))), (.c (.v (.slice none 0 0))), (.c (.v (.slice none 0 0))), (.c (.v .nilFunc))])
def q328 : COp := (.call (.x 2) [(.x 1), (.x 0)])
def q329 : COp := (.sto 4 (.x 1) (.x 3))
def q330 : COp := (.ixR 2 1 (.f 1) q1)
def q331 : COp := (.sto 4 (.f 3) (.x 0))
def q332 : COp := (.bsl [(.bool false), (.slice none 0 0), (.bool false), (.slice none 0 0)] 4 0 [] [])
def q333 : COp := (.box (.f 10))
def q334 : COp := (.call q52 [(.x 0)])
def q335 : COp := (.pick (.x 11) (.x 0) q3)
def q336 : COp := (.bld [(.c (.v (.int .i64 (Int.ofNat 0)))), (.c (.v (.int .i64 (Int.ofNat 0)))), (.c (.v (.int .i64 (Int.ofNat 0)))), (.c (.v (.int .i64 (Int.ofNat 0)))), (.c (.v (.bool false))), (.c (.v (.slice none 0 0))), (.c (.v (.bool false))), (.c (.v (.slice none 0 0)))] [(0, 4), (4, 4)] [0, 1] [(.x 1), (.x 0)])
def q337 : COp := (.ixS 1 (.f 5) (.f 0))
def q338 : COp := (.call q24 [(.x 4), (.x 0)])
def q339 : COp := (.call q37 [(.x 5), (.x 0)])
def q340 : COp := (.ixS 4 (.x 3) (.x 0))
def q341 : COp := (.ixS 4 (.x 2) (.x 0))
def q342 : COp := (.new [(.c (.v (.int .i64 (Int.ofNat 0))))])
def q343 : COp := (.call q42 [(.x 1), (.x 0)])
def q344 : COp := (.sto 1 (.x 0) (.x 3))
def q345 : COp := (.pk (.bin .sub) [(.x 2), (.x 0)])
def q346 : COp := (.ixS 1 (.x 0) q0)
def q347 : COp := (.nilS false (.x 0) q2)
def q348 : COp := (.call q38 [(.x 1), (.x 0)])
def q349 : COp := (.call q58 [(.x 1), (.x 0)])
def q350 : COp := (.call q59 [(.x 1), (.x 0)])
def q351 : COp := (.call q61 [(.x 0)])
def q352 : COp := (.pk (.bin .gtr) [(.x 0), q6])
def q353 : COp := (.call q30 [(.x 1), (.x 0)])
def q354 : COp := (.call q39 [(.x 1), (.x 0)])
def q355 : COp := (.call q62 [(.x 0)])
def q356 : COp := (.call q63 [])
def q357 : COp := (.call q65 [(.x 0)])
def q358 : COp := (.pk (.bin .lss) [(.x 0), q1])
def q359 : COp := (.call q17 [(.x 1), (.x 0)])
def q360 : COp := (.call q8 [(.x 7), (.x 0)])
def q361 : COp := (.app 8 96 (.x 1) (.x 0))
def q362 : COp := (.call q66 [(.x 0)])
def q363 : COp := (.pk .max [(.x 0), q0])
def q364 : COp := (.nilc (.x 7))
def q365 : COp := (.sto 2 (.x 1) (.x 3))
def q366 : COp := (.pk (.bin .eql) [(.x 0), q6])
def q367 : COp := (.pk (.bin .sub) [q9, (.x 0)])
def q368 : COp := (.call (.x 9) [(.x 5), (.x 0)])
def q369 : COp := (.pick (.x 12) (.x 0) q3)
def q370 : COp := (.ixS 8 (.x 13) (.x 12))
def q371 : COp := (.ixS 8 (.x 13) (.x 11))
def q372 : COp := (.call q50 [(.x 1), (.x 0)])
def q373 : COp := (.call q40 [(.x 1), (.x 0)])
def q374 : COp := (.call q69 [(.x 1), (.x 0)])
def q375 : COp := (.pick (.x 8) (.x 0) q3)
def q376 : COp := (.call q16 [(.x 0)])
def q377 : COp := (.call q71 [(.x 0)])
def q378 : COp := (.call q72 [(.x 0)])
def q379 : COp := (.bld [(.c (.v (.bool false))), (.c (.v (.slice none 0 0))), (.c (.v (.slice none 0 0))), (.c (.v (.int .i64 (Int.ofNat 0)))), (.c (.v (.slice none 0 0)))] [(0, 1), (1, 2), (3, 1), (4, 1)] [] [])
def q380 : COp := (.sto 5 (.f 0) (.x 0))
def q381 : COp := (.call q73 [(.x 0)])
def q382 : COp := (.call q74 [(.x 0)])
def q383 : COp := (.call q75 [(.x 0)])
def q384 : COp := (.ld true 2 (.f 11))
def q385 : COp := (.sto 4 (.f 5) (.x 0))
def q386 : COp := (.ixR 2 1 (.f 1) q0)
def q387 : COp := (.call q27 [(.x 1), (.x 0)])
def q388 : COp := (.call q76 [(.x 0)])
def q389 : COp := (.app 8 96 (.x 5) (.x 0))
def q390 : COp := (.pk .max [(.x 4), (.x 0)])
def q391 : COp := (.call q80 [(.x 0)])
def q392 : COp := (.sto 3 (.f 6) (.x 0))
def q393 : COp := (.pk (.bin .add) [(.f 9), q1])
def q394 : COp := (.call q81 [(.x 0)])
def q395 : COp := (.pk (.bin .add) [(.f 6), q1])
def q396 : COp := (.call q83 [(.x 0)])
def q397 : COp := (.call q84 [(.x 0)])
def q398 : COp := (.call q54 [(.x 6), (.x 0)])
def q399 : COp := (.call q36 [(.x 1), (.x 0)])
def q400 : COp := (.call q57 [(.x 1), (.x 0)])
def q401 : COp := (.sto 1 (.x 1) (.x 3))
def q402 : COp := (.pk (.bin .neq) [(.x 2), (.x 0)])
def q403 : COp := (.pk (.bin .lss) [(.f 0), (.f 7)])
def q404 : COp := (.call q88 [(.x 1), (.x 0)])
def q405 : COp := (.ixR 4 1 (.f 1) (.x 0))
def q406 : COp := (.ixR 4 1 (.f 2) (.x 0))
def q407 : COp := (.new [(.c (.v (.int .i64 (Int.ofNat 0)))), (.c (.v (.int .i64 (Int.ofNat 0)))), (.c (.v (.int .i64 (Int.ofNat 0)))), (.c (.v (.int .i64 (Int.ofNat 0))))])
def q408 : COp := (.pk (.bin .lss) [(.x 0), q15])
def q409 : COp := (.pk (.bin .lss) [(.x 3), (.x 0)])
def q410 : COp := (.call q43 [(.x 1), (.x 0)])
def q411 : COp := (.mk [(.bool false), (.slice none 0 0), (.bool false), (.slice none 0 0)] 4 64 (.x 0) (.x 0))
def q412 : COp := (.pk (.bin .geq) [(.x 2), (.x 0)])
def q413 : COp := (.call q91 [(.x 1), (.x 0)])
def q414 : COp := (.call q24 [(.x 1), (.x 0)])
def q415 : COp := (.app 4 64 (.x 1) (.x 0))
def q416 : COp := (.pk (.bin .add) [(.f 1), q1])
def q417 : COp := (.pk (.bin .lss) [(.f 0), q15])
def q418 : COp := (.pk (.bin .add) [(.x 7), (.x 0)])
def q419 : COp := (.sto 2 (.f 1) (.x 2))
def q420 : COp := (.call q60 [(.x 4), (.x 2), (.x 0)])
def q421 : COp := (.call q92 [(.x 0)])
def q422 : COp := (.call q93 [(.x 0)])
def q423 : COp := (.call q95 [(.x 0)])
def q424 : COp := (.call q64 [(.x 1), (.x 0)])
def q425 : COp := (.call q96 [(.x 1), (.x 0)])
def q426 : COp := (.call q55 [(.x 2), (.x 0)])
def q427 : COp := (.call q97 [(.x 1), (.x 0)])
def q428 : COp := (.call q98 [(.x 1), (.x 0)])
def q429 : COp := (.ixS 8 (.x 1) q0)
def q430 : COp := (.app 8 96 (.x 4) (.x 0))
def q431 : COp := (.ld true 2 (.f 6))
def q432 : COp := (.call q99 [(.x 2), (.x 0)])
def q433 : COp := (.ixS 8 (.x 2) (.x 1))
def q434 : COp := (.ld true 2 (.f 5))
def q435 : COp := (.mk [(.slice none 0 0)] 1 24 (.x 0) (.x 0))
def q436 : COp := (.ixS 2 (.x 1) (.x 0))
def q437 : COp := (.pk (.bin .eql) [(.x 1), (.x 0)])
def q438 : COp := (.pk (.bin .mul) [(.x 2), (.x 0)])
def q439 : COp := (.pk (.bin .and) [(.x 0), q103])
def q440 : COp := (.slc 1 (.x 3) none (some (.x 0)))
def q441 : COp := (.call q8 [(.x 1), (.x 0)])
def q442 : COp := (.call (.x 5) [(.x 4), (.x 0)])
def q443 : COp := (.pk (.bin .mul) [(.x 0), q10])
def q444 : COp := (.call q107 [(.x 2), (.x 1), (.f 2), (.x 0)])
def q445 : COp := (.pk (.bin .xor) [(.x 4), (.x 0)])
def q446 : COp := (.call q108 [(.x 4), (.x 3), (.x 2), (.x 1), (.x 0)])
def q447 : COp := (.bld [(.c (.v (.slice none 0 0))), (.c (.v (.slice none 0 0))), (.c (.v (.slice none 0 0)))] [(0, 1), (1, 1), (2, 1)] [0, 1, 2] [(.x 2), (.x 1), (.x 0)])
def q448 : COp := (.pk (.bin .eql) [(.x 0), q10])
def q449 : COp := (.bld [(.c (.v (.slice none 0 0))), (.c (.v (.slice none 0 0)))] [(0, 1), (1, 1)] [0, 1] [(.x 1), (.x 0)])
def q450 : COp := (.bld [(.c (.v (.slice none 0 0))), (.c (.v (.slice none 0 0))), (.c (.v (.slice none 0 0)))] [(0, 1), (1, 1), (2, 1)] [] [])
def q451 : COp := (.mk [(.bool false), (.slice none 0 0), (.bool false), (.slice none 0 0)] 4 64 q0 (.x 0))
def q452 : COp := (.pk (.bin .lss) [(.f 6), (.f 13)])
def q453 : COp := (.pk (.bin .lss) [(.f 0), (.f 9)])
def q454 : COp := (.call q126 [(.x 2), (.x 1), (.x 0)])
def q455 : COp := (.call q127 [(.x 2), (.x 1), (.x 0)])
def q456 : COp := (.bld [(.c (.v (.slice none 0 0))), (.c (.v (.slice none 0 0)))] [(0, 1), (1, 1)] [] [])
def q457 : COp := (.bld [(.c (.v (.slice none 0 0))), (.c (.v (.slice none 0 0)))] [(0, 1), (1, 1)] [0, 1] [(.x 3), (.x 0)])
def q458 : COp := (.bld [(.c (.v (.int .i64 (Int.ofNat 0)))), (.c (.v (.int .i64 (Int.ofNat 0)))), (.c (.v (.int .i64 (Int.ofNat 0)))), (.c (.v (.int .i64 (Int.ofNat 0))))] [(0, 1), (1, 1), (2, 1), (3, 1)] [0] [(.x 0)])
def q459 : COp := (.bsl [(.int .i64 (Int.ofNat 0))] 1 1 [0] [(.x 0)])
def q460 : COp := (.bld [(.c (.v (.bool false))), (.c (.v (.slice none 0 0))), (.c (.v (.bool false))), (.c (.v (.slice none 0 0)))] [(0, 2), (2, 2)] [0, 1] [(.x 2), (.x 0)])
def q461 : COp := (.pk (.bin .add) [(.f 11), q1])
def q462 : COp := (.pk (.bin .gtr) [(.x 0), q143])
def q463 : COp := (.slc 4 (.x 1) (some (.x 0)) none)
def q464 : COp := (.slc 4 (.x 1) none (some (.x 0)))
def q465 : COp := (.pk (.bin .sub) [(.x 6), (.x 0)])
def q466 : COp := (.pk (.bin .eql) [(.x 3), (.x 0)])
def q467 : COp := (.mk [(.int .i64 (Int.ofNat 0)), (.int .i64 (Int.ofNat 0)), (.int .i64 (Int.ofNat 0)), (.int .i64 (Int.ofNat 0)), (.bool false), (.slice none 0 0), (.bool false), (.slice none 0 0)] 8 96 q0 (.x 0))
def q468 : COp := (.slc 4 (.x 2) none (some (.x 0)))
def q469 : COp := (.bld [(.c (.v (.bool false))), (.c (.v (.slice none 0 0))), (.c (.v (.bool false))), (.c (.v (.slice none 0 0)))] [(0, 2), (2, 2)] [] [])
def q470 : COp := (.call q100 [(.x 2), (.x 1), (.x 0)])
def q471 : COp := (.pk (.eqA 4) [(.x 2), (.x 0)])
def q472 : COp := (.call q154 [(.x 2), (.x 1), (.x 0)])
def q473 : COp := (.call q155 [(.x 3), (.x 2), (.x 0)])
def q474 : COp := (.call (.x 4) [(.x 3), (.x 2), (.x 1), (.x 0)])
def q475 : COp := (.pk (.bin .mul) [q161, (.x 0)])
def q476 : COp := (.pk (.bin .add) [q104, (.x 0)])
def q477 : COp := (.call q162 [(.x 4), (.x 3), (.x 0)])
def q478 : COp := (.pk (.bin .shr) [(.x 0), q32])
def q479 : COp := (.mk [(.int .u64 (Int.ofNat 0))] 1 8 (.x 0) (.x 0))
def q480 : COp := (.bsl [(.int .u64 (Int.ofNat 0))] 1 0 [] [])
def q481 : COp := (.pk (.bin .quo) [(.x 0), q10])
def q482 : COp := (.call q168 [(.x 4), (.x 3), (.x 2), (.x 1), (.x 0)])
def q483 : COp := (.pk (.bin .geq) [(.x 0), q48])
def q484 : COp := (.new [(.c (.v (.int .u64 (Int.ofNat 0))))])
def q485 : COp := (.pk (.bin .geq) [(.x 0), q10])
def q486 : COp := (.pk (.bin .shr) [(.x 0), q171])
def q487 : COp := (.pk (.bin .shr) [(.x 0), q173])
def q488 : COp := (.pk (.bin .add) [(.x 0), q48])
def q489 : Ro1 := (o (.mv (.f 0)))
def q490 : Ro1 := (o (.mv (.f 1)))
def q491 : Ro1 := (o (.mv (.f 2)))
def q492 : Ro1 := (o (.mv (.x 0)))
def q493 : Ro1 := (o (.len (.x 0)))
def q494 : Ro1 := (o (.mv (.f 3)))
def q495 : Ro1 := (p 0 (.mv (.x 0)))
def q496 : Ro1 := (o (.mv (.f 4)))
def q497 : Ro1 := (p 1 (.mv (.x 0)))
def q498 : Ro1 := (o (.mv (.f 5)))
def q499 : Ro1 := (o (.mv (.f 6)))
def q500 : Ro1 := (p 2 (.mv (.x 0)))
def q501 : Ro1 := (p 0 (.mv q0))
def q502 : Ro1 := (p 3 (.mv (.x 0)))
def q503 : Ro1 := (o (.mv (.f 7)))
def q504 : Ro1 := (p 4 (.mv (.x 0)))
def q505 : Ro1 := (o (.mv (.f 10)))
def q506 : Ro1 := (o (.mv (.f 8)))
def q507 : Ro1 := (p 5 (.mv (.x 0)))
def q508 : Ro1 := (o (.mv (.f 11)))
def q509 : Ro1 := (p 6 (.mv (.x 0)))
def q510 : Ro1 := (o (.mv (.f 9)))
def q511 : Ro1 := (p 0 (.box (.f 3)))
def q512 : Ro1 := (p 0 (.box (.f 2)))
def q513 : Ro1 := (p 1 (.box (.f 4)))
def q514 : Ro1 := (p 8 (.mv (.x 0)))
def q515 : Ro1 := (p 0 (.mv q2))
def q516 : Ro1 := (p 1 (.mv q2))
def q517 : Ro1 := (p 9 (.mv (.x 0)))
def q518 : Ro1 := (p 1 (.mv q0))
def q519 : Ro1 := (p 1 (.mv (.x 1)))
def q520 : Ro1 := (o (.mv (.f 12)))
def q521 : Ro1 := (p 7 (.mv (.x 0)))
def q522 : Ro1 := ⟨(some (1, true)), none, [], q175⟩
def q523 : Ro1 := (o (.mv (.x 2)))
def q524 : Ro1 := (p 0 (.mv (.x 1)))
def q525 : Ro1 := (p 3 (.mv (.x 1)))
def q526 : Ro1 := (o (.mv (.f 13)))
def q527 : Ro1 := (p 3 (.mv q0))
def q528 : Ro1 := (o (.mv (.f 14)))
def q529 : Ro1 := (p 1 (.box (.f 5)))
def q530 : Ro1 := (p 4 (.mv q0))
def q531 : Ro1 := (p 6 (.mv q2))
def q532 : Ro1 := (p 0 (.box (.f 4)))
def q533 : Ro1 := ⟨(some (1, true)), none, [], (.mv (.f 0))⟩
def q534 : Ro1 := (p 9 (.mv q0))
def q535 : Ro1 := ⟨(some (1, true)), none, [], (.mv (.f 2))⟩
def q536 : Ro1 := (p 2 (.mv q0))
def q537 : Ro1 := (p 7 (.mv q0))
def q538 : Ro1 := (p 4 (.mv (.x 1)))
def q539 : Ro1 := (p 9 (.mv q2))
def q540 : Ro1 := (p 2 (.mv q3))
def q541 : Ro1 := (p 1 (.mv q3))
def q542 : Ro1 := (o (.mv (.x 1)))
def q543 : Ro1 := (p 2 (.mv q2))
def q544 : Ro1 := (p 5 (.mv (.x 1)))
def q545 : Ro1 := (p 2 (.mv (.x 1)))
def q546 : Ro1 := (p 6 (.mv q0))
def q547 : Ro1 := (p 10 (.mv (.x 0)))
def q548 : Ro1 := (p 6 (.len (.x 0)))
def q549 : Ro1 := ⟨(some (0, true)), none, [], (.mv (.f 4))⟩
def q550 : Ro1 := ⟨(some (3, true)), none, [], q184⟩
def q551 : Ro1 := ⟨(some (4, true)), none, [], q180⟩
def q552 : Ro1 := ⟨(some (1, true)), none, [], q185⟩
def q553 : Ro1 := (p 2 (.mv (.x 2)))
def q554 : Ro1 := (p 12 (.mv (.x 0)))
def q555 : Ro1 := ⟨(some (7, true)), none, [], q184⟩
def q556 : Ro1 := (p 13 (.mv (.x 1)))
def q557 : Ro1 := (p 12 (.mv q2))
def q558 : Ro1 := (p 11 (.mv (.x 0)))
def q559 : Ro1 := (p 5 (.mv q3))
def q560 : Ro1 := (p 4 (.mv q2))
def q561 : Ro1 := (p 15 (.mv (.x 0)))
def q562 : Ro1 := (p 8 (.len (.x 0)))
def q563 : Ro1 := (p 2 (.mv (.x 3)))
def q564 : Ro1 := (p 1 (.box (.f 6)))
def q565 : Ro1 := ⟨(some (0, true)), none, [], q193⟩
def q566 : Ro1 := (o (.mv (.x 4)))
def q567 : Ro1 := ⟨(some (5, true)), none, [], (.mv (.f 2))⟩
def q568 : Ro1 := ⟨(some (8, true)), none, [], q180⟩
def q569 : Ro1 := ⟨(some (9, true)), none, [], q285⟩
def q570 : Ro1 := ⟨(some (10, true)), none, [], q201⟩
def q571 : Ro1 := ⟨(some (0, true)), none, [], (.mv (.f 2))⟩
def q572 : Ro1 := (p 14 (.mv (.x 0)))
def q573 : Ro1 := (p 8 (.mv (.x 1)))
def q574 : Ro1 := (p 13 (.mv (.x 0)))
def q575 : Ro1 := (p 6 (.mv (.x 1)))
def q576 : Ro1 := (p 5 (.mv q2))
def q577 : Ro1 := ⟨(some (2, false)), none, [], (.len (.x 0))⟩
def q578 : Ro1 := ⟨(some (4, true)), none, [], q176⟩
def q579 : Ro1 := (p 5 (.len (.x 0)))
def q580 : Ro1 := (p 7 (.mv q2))
def q581 : Ro1 := (p 9 (.len (.x 0)))
def q582 : Ro1 := (p 7 (.mv (.x 1)))
def q583 : Ro1 := (p 8 (.mv q2))
def q584 : Ro1 := (p 13 (.mv q2))
def q585 : Ro1 := ⟨(some (6, true)), none, [], (.mv (.f 3))⟩
def q586 : Ro1 := ⟨(some (0, true)), none, [], (.mv (.f 6))⟩
def q587 : Ro1 := ⟨(some (2, true)), none, [], q194⟩
def q588 : Ro1 := (p 6 (.mv q3))
def q589 : Ro1 := ⟨(some (1, false)), none, [], q175⟩
def q590 : Ro1 := (p 4 (.mv (.x 2)))
def q591 : Ro1 := ⟨(some (0, true)), none, [], (.mv (.f 0))⟩
def q592 : Ro1 := (p 1 (.box (.f 9)))
def q593 : Ro1 := (p 10 (.mv q2))
def q594 : Ro1 := (p 0 (.mv q7))
def q595 : Ro1 := (p 8 (.mv q0))
def q596 : Ro1 := (o (.mv (.f 15)))
def q597 : Ro1 := (p 15 (.mv q2))
def q598 : Ro1 := ⟨(some (1, false)), none, [], (.len (.x 0))⟩
def q599 : Ro1 := (p 3 (.mv q2))
def q600 : Ro1 := (p 0 (.box (.f 5)))
def q601 : Ro1 := ⟨(some (3, true)), none, [], q175⟩
def q602 : Ro1 := (p 10 (.mv q0))
def q603 : Ro1 := ⟨(some (0, true)), none, [], (.mv (.f 1))⟩
def q604 : Ro1 := (p 5 (.mv q0))
def q605 : Ro1 := (p 12 (.mv q3))
def q606 : Ro1 := (p 0 (.mv (.x 2)))
def q607 : Ro1 := (p 1 (.mv q67))
def q608 : Ro1 := ⟨(some (2, true)), none, [], (.mv (.f 0))⟩
def q609 : Ro1 := ⟨(some (0, true)), none, [], (.mv (.f 8))⟩
def q610 : Ro1 := (p 10 (.mv (.x 2)))
def q611 : Ro1 := (p 12 (.mv (.x 2)))
def q612 : Ro1 := ⟨(some (0, true)), none, [], (.mv (.f 5))⟩
def q613 : Ro1 := (p 9 (.mv (.x 1)))
def q614 : Ro1 := ⟨(some (0, false)), none, [], (.mv (.f 1))⟩
def q615 : Ro1 := (p 10 (.mv (.x 1)))
def q616 : Ro1 := (p 16 (.mv (.x 0)))
def q617 : Ro1 := (p 14 (.mv (.x 1)))
def q618 : Ro1 := (p 16 (.mv (.x 1)))
def q619 : Ro1 := ⟨(some (2, false)), none, [], q185⟩
def q620 : Ro1 := (p 1 (.mv (.x 3)))
def q621 : Ro1 := ⟨(some (2, true)), none, [], q177⟩
def q622 : Ro1 := ⟨(some (0, true)), none, [], (.mv (.f 3))⟩
def q623 : Ro1 := ⟨(some (2, true)), none, [], (.len (.x 0))⟩
def q624 : Ro1 := ⟨(some (1, true)), none, [], q176⟩
def q625 : Ro1 := (p 7 (.len (.x 0)))
def q626 : Ro1 := (p 12 (.len (.x 0)))
def q627 : Ro1 := ⟨(some (3, true)), none, [], q176⟩
def q628 : Ro1 := ⟨(some (2, true)), none, [], (.mv (.f 1))⟩
def q629 : Ro1 := (p 3 (.mv (.x 4)))
def q630 : Ro1 := (p 1 (.mv (.x 2)))
def q631 : Ro1 := ⟨(some (2, true)), none, [], q203⟩
def q632 : Ro1 := (o (.call q14 [q0]))
def q633 : Ro1 := ⟨(some (3, true)), none, [], q177⟩
def q634 : Ro1 := ⟨(some (9, true)), none, [], q180⟩
def q635 : Ro1 := ⟨(some (11, true)), none, [], q201⟩
def q636 : Ro1 := ⟨(some (2, true)), none, [], (.mv (.f 3))⟩
def q637 : Ro1 := ⟨(some (11, true)), none, [], q194⟩
def q638 : Ro1 := ⟨(some (0, true)), none, [], (.mv (.f 13))⟩
def q639 : Ro1 := ⟨(some (1, true)), none, [], (.pk (.bin .eql) [(.x 0), q7])⟩
def q640 : Ro1 := ⟨(some (0, true)), none, [], q189⟩
def q641 : Ro1 := ⟨(some (2, true)), none, [], q181⟩
def q642 : Ro1 := ⟨(some (1, true)), none, [], q189⟩
def q643 : Ro1 := ⟨(some (3, true)), none, [0], q187⟩
def q644 : Ro1 := ⟨(some (3, true)), none, [], q447⟩
def q645 : Ro1 := ⟨(some (4, true)), none, [], (.call q112 [(.x 0)])⟩
def q646 : Ro1 := ⟨(some (2, true)), none, [], (.mv (.f 2))⟩
def q647 : Ro1 := (o (.call q113 [(.x 5), (.x 0)]))
def q648 : Ro1 := ⟨(some (0, false)), none, [], q189⟩
def q649 : Ro1 := ⟨(some (3, false)), none, [], q204⟩
def q650 : Ro1 := ⟨(some (0, false)), none, [], (.mv (.f 0))⟩
def q651 : Ro1 := ⟨(some (1, false)), none, [], (.mv (.f 2))⟩
def q652 : Ro1 := ⟨(some (4, false)), none, [], (.mv (.x 0))⟩
def q653 : Ro1 := ⟨(some (2, true)), none, [], q184⟩
def q654 : Ro1 := ⟨(some (3, true)), none, [], q192⟩
def q655 : Ro1 := ⟨(some (6, true)), none, [], (.mv (.f 1))⟩
def q656 : Ro1 := ⟨(some (2, false)), none, [], q184⟩
def q657 : Ro1 := ⟨(some (4, false)), none, [], q176⟩
def q658 : Ro1 := ⟨(some (5, false)), none, [], (.mv (.f 2))⟩
def q659 : Ro1 := ⟨(some (6, false)), none, [], (.mv (.f 0))⟩
def q660 : Ro1 := ⟨(some (7, false)), none, [], q184⟩
def q661 : Ro1 := ⟨(some (9, false)), none, [], q176⟩
def q662 : Ro1 := (o (.pk (.bin .add) [(.f 8), q1]))
def q663 : Ro1 := (o (.call q28 [(.x 2), (.x 0)]))
def q664 : Ro1 := (o (.pk (.bin .add) [(.f 7), q1]))
def q665 : Ro1 := ⟨(some (3, true)), none, [], q341⟩
def q666 : Ro1 := ⟨(some (6, true)), none, [], q185⟩
def q667 : Ro1 := ⟨(some (2, true)), none, [], q217⟩
def q668 : Ro1 := ⟨(some (0, false)), none, [], q207⟩
def q669 : Ro1 := ⟨(some (1, false)), none, [], q181⟩
def q670 : Ro1 := ⟨(some (3, false)), none, [], q194⟩
def q671 : Ro1 := (o (.call q133 [(.x 4), (.x 0)]))
def q672 : Ro1 := (o (.call q134 [(.x 5), (.x 0)]))
def q673 : Ro1 := (o (.call q43 [(.x 4), (.x 0)]))
def q674 : Ro1 := (o (.call q138 [(.x 2), (.x 0)]))
def q675 : Ro1 := (o (.call q53 [(.x 6), (.x 0)]))
def q676 : Ro1 := ⟨(some (0, false)), none, [], (.mv (.f 12))⟩
def q677 : Ro1 := (o (.call q44 [(.x 1), (.x 0)]))
def q678 : Ro1 := (o (.pk (.bin .add) [(.f 5), q1]))
def q679 : Ro1 := ⟨(some (0, false)), none, [], q193⟩
def q680 : Ro1 := (o (.call q142 [(.x 2), (.x 0)]))
def q681 : Ro1 := ⟨(some (0, false)), none, [], (.mv (.f 3))⟩
def q682 : Ro1 := ⟨(some (1, false)), none, [], q462⟩
def q683 : Ro1 := (o (.pk (.bin .add) [(.f 4), q1]))
def q684 : Ro1 := (o (.call q144 [(.x 1), (.x 0)]))
def q685 : Ro1 := ⟨(some (0, false)), none, [], q245⟩
def q686 : Ro1 := ⟨(some (1, false)), none, [], q176⟩
def q687 : Ro1 := ⟨(some (5, true)), none, [], q176⟩
def q688 : Ro1 := (o (.call q8 [(.x 8), (.x 0)]))
def q689 : Ro1 := (o (.call q148 [(.x 3), (.x 0)]))
def q690 : Ro1 := (o (.call q152 [(.x 1), (.x 0)]))
def q691 : Ro1 := (o (.call q30 [(.x 2), (.x 0)]))
def q692 : Ro1 := ⟨(some (1, true)), none, [], q252⟩
def q693 : Ro1 := ⟨(some (2, true)), none, [], q218⟩
def q694 : Ro1 := ⟨(some (1, true)), none, [], q209⟩
def q695 : Ro1 := ⟨(some (2, true)), none, [], q192⟩
def q696 : Ro1 := (o (.call q101 [(.x 4), (.x 0)]))
def q697 : Ro1 := ⟨(some (2, true)), none, [], q248⟩
def q698 : Ro1 := ⟨(some (3, true)), none, [], q358⟩
def q699 : Ro1 := (o (.call q156 [(.x 1), (.x 0)]))
def q700 : Ro1 := (o (.pk (.bin .add) [(.f 3), q1]))
def q701 : Ro1 := (o (.pk (.bin .and) [(.x 0), q1]))
def q702 : Ro1 := (o (.pk (.bin .neq) [(.x 0), q6]))
def q703 : Ro1 := ⟨(some (4, true)), none, [], q249⟩
def q704 : Ro1 := ⟨(some (5, true)), none, [], q175⟩
def q705 : Ro1 := ⟨(some (6, true)), none, [], q366⟩
def q706 : Ro1 := ⟨(some (12, true)), none, [], q194⟩
def q707 : Ro1 := ⟨(some (1, true)), none, [], q352⟩
def q708 : Ro1 := ⟨(some (1, true)), none, [], (.mv (.f 1))⟩
def q709 : Ro1 := ⟨(some (6, true)), none, [], (.mv (.f 0))⟩
def q710 : Ro1 := ⟨(some (7, true)), none, [], q177⟩
def q711 : Ro1 := ⟨(some (8, true)), none, [], q256⟩
def q712 : Ro1 := ⟨(some (10, true)), none, [], q368⟩
def q713 : Ro1 := (o (.call q39 [(.x 2), (.x 0)]))
def c3 : FnC := ⟨false, 11, [(some 10), (some 2)], (.seq (.reg [(p 3 (.mv q3))]) (.seq (.reg [(o (.call (.k (.t (.one (.c (.v (.func (.func 4) ⟨[]⟩ ⟨[]⟩)))))) [])), q504]) (.seq (.reg [q491, (o q257), (o (.call q19 [(.x 0)])), (p 0 q191), (o q214)]) (.seq (.seq (.reg [q491, (p 9 (.pk (.bin .eql) [(.x 0), q109]))]) (.cond (.f 9) (.reg [(o q305), (o q242)]) .skip)) (.seq (.reg [(o (.call q49 [q0])), q505, (o q257), (o (.call q19 [(.x 0)])), (o (.call q22 [(.x 3), (.x 0)])), (p 1 q191), (o q214)]) (.seq (.reg [(o q187), (o q189), (o q189), ⟨none, none, [0, 1, 2], q305⟩, ⟨none, none, [2, 3], q286⟩, ⟨none, none, [4], (.call q40 [(.x 3), (.x 0)])⟩, (o (.call q50 [(.x 5), (.x 0)])), (o q262), q492, (o q178), (o q179), (p 5 q258), (o q263), (p 6 (.mv (.x 2)))]) (.seq (.reg [(o q187), (o q189), (o q372), (o q262), q492, (o q178), (o q179), (p 7 q258), (o q263), (p 8 (.mv (.x 2)))]) (.seq (.reg [q496, q492, q586, q552, (o q215), q492, q609, q552, (o q215), q492, ⟨(some (0, true)), none, [], (.off 0 (.f 5))⟩, q522, q587, (o q224), q492, ⟨(some (0, true)), none, [], q325⟩, q522, q587, (o q224), q502]) .ret)))))))), [(.p 3)]⟩
theorem c3_ok : FnOk Tryz.prog Bts 3 c3 := fn_ok (wm := false) (na := 2) Tryz.func3 (by kernel_rfl) (by kernel_rfl) (by kernel_rfl)
def c4 : FnC := ⟨false, 21, [], (.seq (.reg [q588]) (.seq (.reg [(o (.call q49 [q0])), (p 0 q191), (o q214)]) (.seq (.reg [(o q305), (p 1 q191), (o q214)]) (.seq (.reg [(o q189), (o q262), q492, (o q178), (o q179), (p 3 q258), (o q263), (p 7 (.mv (.x 2)))]) (.seq (.reg [(o q187), (o q189), (o q286), ⟨none, none, [0], q187⟩, (o q373), (o q262), q492, (o q178), (o q179), (p 4 q258), (o q263), (p 8 (.mv (.x 2)))]) (.seq (.reg [(o q187), (o q187), (o q189), ⟨none, none, [2], q286⟩, (o (.call q40 [(.x 3), (.x 0)])), (o q262), q492, (o q178), (o q179), (p 9 q258), (o q263), q610]) (.seq (.reg [(o q187), (o q189), (o q286), (o q262), q492, (o q178), (o q179), (p 11 q258), (o q263), q611]) (.seq (.reg [(o (.call q19 [q0])), (o q262), q492, (o q178), (o q179), (o q258), (o q263), (p 13 (.mv (.x 2)))]) (.seq (.reg [(o (.call q49 [q1])), (o q262), q492, (o q178), (o q179), (o q258), (o q263), (p 14 (.mv (.x 2)))]) (.seq (.reg [(o (.call q19 [q10])), (o (.bld [(.c (.v (.int .i64 (Int.ofNat 0)))), (.c (.v (.int .i64 (Int.ofNat 0))))] [(0, 1), (1, 1)] [0, 1] [q7, q33])), (o q374), q492, (o q178), (o q179), (p 15 q183), (o q216), (p 16 (.mv (.x 2)))]) (.seq (.reg [(o q189), (o q187), (o q373), (o (.bld [(.c (.v (.int .i64 (Int.ofNat 0)))), (.c (.v (.int .i64 (Int.ofNat 0))))] [(0, 1), (1, 1)] [0, 1] [q11, q1])), (o q374), q492, (o q178), (o q179), (o q183), (o q216), (p 17 (.mv (.x 2)))]) (.seq (.reg [(o q189), (o (.bld [(.c (.v (.int .i64 (Int.ofNat 0)))), (.c (.v (.int .i64 (Int.ofNat 0))))] [(0, 1), (1, 1)] [0, 1] [q110, q15])), (o q374), q492, (o q178), (o q179), (p 18 q183), (o q216), (p 19 (.mv (.x 2)))]) (.seq (.reg [(o (.bsl [(.int .i8 (Int.ofNat 0))] 1 2 [0, 1] [q109, (.k (.t (.one (.c (.v (.int .i8 (Int.ofNat 1)))))))])), (o (.call (.k (.t (.one (.c (.v (.func (.func 12) ⟨[]⟩ ⟨[]⟩)))))) [(.x 0), q10])), q507]) (.seq (.reg [(o q287), (o q234), q500]) (.seq (.reg [q503, (o q185), q492, q609, q552, (o q215), q492, ⟨(some (0, true)), none, [], (.mv (.f 10))⟩, q552, (o q215), q492, ⟨(some (0, true)), none, [], (.mv (.f 12))⟩, q552, (o q215), q492, q638, q639, (o q215), q492, ⟨(some (0, true)), none, [], (.mv (.f 14))⟩, ⟨(some (1, true)), none, [], (.pk (.bin .eql) [(.x 0), q33])⟩, (o q215), q492, ⟨(some (0, true)), none, [], (.mv (.f 16))⟩, q552, (o q215), q492, ⟨(some (0, true)), none, [], (.mv (.f 17))⟩, q639, (o q215), q492, ⟨(some (0, true)), none, [], (.mv (.f 19))⟩, q552, (o q215), (p 20 (.mv (.x 0)))]) (.seq (.reg [(o (.mv (.f 20))), q492, ⟨(some (0, true)), none, [], q306⟩, q522, (o q215), q492, q640, ⟨(some (1, true)), none, [], q288⟩, q641, ⟨(some (3, true)), none, [], (.call q111 [(.x 2), (.x 0)])⟩, (o q264), q492, ⟨(some (0, true)), none, [], (.off 0 (.f 4))⟩, q522, (o q215), q492, ⟨(some (0, true)), none, [], q187⟩, q642, ⟨(some (2, true)), none, [], q286⟩, q643, ⟨(some (4, true)), none, [], q373⟩, ⟨(some (5, true)), none, [], (.off 1 (.f 4))⟩, ⟨(some (6, true)), none, [1, 3], q181⟩, ⟨(some (7, true)), none, [], (.call q111 [(.x 2), (.x 0)])⟩, (o q375), q492, ⟨(some (0, true)), none, [], (.off 0 (.f 9))⟩, q522, q587, (o q224), q492, ⟨(some (0, true)), none, [], (.off 0 (.f 11))⟩, q522, q587, (o q224), q492, ⟨(some (0, true)), none, [], (.ld true 4 (.f 15))⟩, ⟨(some (1, true)), none, [0], (.call q16 [(.k (.t (.one (.c (.v (.int .i64 (Int.ofNat 15)))))))])⟩, ⟨(some (2, true)), none, [], (.call (.k (.t (.one (.c (.v (.func (.func 15) ⟨[]⟩ ⟨[]⟩)))))) [(.x 1), (.x 0)])⟩, ⟨(some (3, true)), none, [], q185⟩, (o q264), q492, ⟨(some (0, true)), none, [], (.ld true 4 (.f 18))⟩, ⟨(some (1, true)), none, [], q289⟩, ⟨(some (2, true)), none, [], q185⟩, (o q224), q492, q571, q535, ⟨(some (2, true)), none, [], (.mv (.f 5))⟩, q644, q645, ⟨(some (5, true)), none, [], q448⟩, (o q307), q492, q612, q535, q646, q644, q645, ⟨(some (5, true)), none, [], (.pk (.bin .eql) [(.x 0), q11])⟩, (o q307), q492, ⟨(some (0, true)), none, [], (.call q19 [q0])⟩, ⟨(some (1, true)), none, [0], (.ld true 5 (.f 3))⟩, ⟨(some (2, true)), none, [], (.call (.k (.t (.one (.c (.v (.func (.func 18) ⟨[]⟩ ⟨[]⟩)))))) [(.x 1), (.x 0)])⟩, ⟨(some (3, true)), none, [], q194⟩, (o q264), q509]) .ret)))))))))))))))), [(.p 6)]⟩
theorem c4_ok : FnOk Tryz.prog Bts 4 c4 := fn_ok (wm := false) (na := 0) Tryz.func4 (by kernel_rfl) (by kernel_rfl) (by kernel_rfl)
def c5 : FnC := ⟨false, 2, [(some 1)], (.seq (.reg [(p 0 q191)]) (.seq (.reg [q490, (o q376), (o (.call (.k (.t (.one (.c (.v (.func (.func 19) ⟨[]⟩ ⟨[]⟩)))))) [(.x 0)])), (o q242)]) .ret)), [(.cell true 2 0)]⟩
theorem c5_ok : FnOk Tryz.prog Bts 5 c5 := fn_ok (wm := false) (na := 1) Tryz.func5 (by kernel_rfl) (by kernel_rfl) (by kernel_rfl)
def c6 : FnC := ⟨false, 5, [(some 3), (some 4)], (.seq (.reg [q511, q513, (p 2 q191)]) (.seq (.reg [(o q186), (o q175), (o q217), (o q175), (o q270), (o q188), ⟨none, none, [1], q175⟩, (o q193), ⟨none, none, [3], q175⟩, (o q270), (o (.call q70 [(.x 5), (.x 0)])), (o q193), ⟨none, none, [1, 2, 7], q175⟩, (o q217), ⟨none, none, [3, 4, 9], q175⟩, (o q270), q647, (o q230)]) .ret)), [(.cell true 2 2)]⟩
theorem c6_ok : FnOk Tryz.prog Bts 6 c6 := fn_ok (wm := false) (na := 2) Tryz.func6 (by kernel_rfl) (by kernel_rfl) (by kernel_rfl)
def c7 : FnC := ⟨false, 2, [(some 1)], (.seq (.reg [(p 0 q191)]) (.seq (.reg [q490, (o (.call q114 [(.x 0)])), (o q377), (o q242)]) .ret)), [(.cell true 2 0)]⟩
theorem c7_ok : FnOk Tryz.prog Bts 7 c7 := fn_ok (wm := false) (na := 1) Tryz.func7 (by kernel_rfl) (by kernel_rfl) (by kernel_rfl)
def c8 : FnC := ⟨false, 19, [(some 18)], (.seq (.reg [(p 4 (.box (.f 18))), (p 0 q258), q518]) (.seq (.block 0 (.seq (.reg [(o q290), (o q378), q572]) (.cond (.f 14) (.seq (.reg [(o q379), (o q380), (p 1 (.mv q7))]) .ret) (.seq (.reg [(o q290), (o q381), (o q195), q561]) (.cond (.f 15) (.seq (.reg [(o q379), (o q380), (p 1 (.mv q33))]) .ret) .skip))))) (.seq (.reg [(o q290), (o (.call q115 [(.x 0)])), q492, (o q178), (o q179), (p 6 q326), (o (.sto 3 (.x 0) (.x 2))), q553]) (.seq (.seq (.reg [q491, (p 16 q218)]) (.cond (.f 16) (.seq (.reg [(o q379), q491, (o (.sto 5 (.f 0) (.x 1))), q519]) .ret) .skip)) (.seq (.reg [(p 7 (.mv q116))]) (.seq (.reg [(o (.ld true 3 (.f 6))), (o q382), (p 3 q327), (o q198)]) (.seq (.reg [(o q202), (o q383), q507]) (.seq (.reg [q503, (o q202), q498, (o q328), q492, (o q178), (o q179), q573, q613]) (.seq (.reg [q506, q510, (o (.call (.k (.t (.one (.c (.v (.func (.func 31) ⟨[]⟩ ⟨[]⟩)))))) [(.x 1), (.x 0)])), q492, (o q178), (o q179), (o q225), q610, (p 11 (.mv (.x 2))), q611]) (.seq (.seq (.reg [q520, (p 17 q194)]) (.cond (.f 17) (.seq (.reg [q498, q508, (o (.bld [(.c (.v (.bool false))), (.c (.v (.slice none 0 0))), (.c (.v (.slice none 0 0))), (.c (.v (.int .i64 (Int.ofNat 0)))), (.c (.v (.slice none 0 0)))] [(0, 1), (1, 2), (3, 1), (4, 1)] [2, 3] [(.x 1), (.x 0)])), (o q380), q518]) .ret) .skip)) (.seq (.reg [(o q288), (o q175), q505, ⟨none, none, [1], q291⟩, (o (.call q51 [(.x 2), (.x 0)])), (o (.call q117 [(.x 0)])), (o (.off 2 (.f 3))), ⟨none, none, [1, 2, 3], q175⟩, (o (.call q117 [(.x 0)])), (o (.call (.k (.t (.one (.c (.v (.func (.func 32) ⟨[]⟩ ⟨[]⟩)))))) [(.x 3), (.x 0)])), q492, (o q178), (o q179), (p 13 q191), (o q292), q553]) (.seq (.reg [(o (.ld true 2 (.f 13))), q498, (o (.bld [(.c (.v (.bool false))), (.c (.v (.slice none 0 0))), (.c (.v (.slice none 0 0))), (.c (.v (.int .i64 (Int.ofNat 0)))), (.c (.v (.slice none 0 0)))] [(0, 1), (1, 2), (3, 1), (4, 1)] [0, 1, 2] [q4, (.x 1), (.x 0)])), q491, (o (.sto 5 (.f 0) (.x 1))), q519]) .ret)))))))))))), [(.cell true 5 0), (.p 1)]⟩
theorem c8_ok : FnOk Tryz.prog Bts 8 c8 := fn_ok (wm := false) (na := 1) Tryz.func8 (by kernel_rfl) (by kernel_rfl) (by kernel_rfl)
def c9 : FnC := ⟨false, 5, [(some 3), (some 4)], (.seq (.reg [q511, q513, (p 2 q191)]) (.seq (.reg [(o q186), (o q175), (o q188), (o q175), (o q270), (o q193), ⟨none, none, [1], q175⟩, (o q217), ⟨none, none, [3], q175⟩, (o q270), q647, (o q230)]) .ret)), [(.cell true 2 2)]⟩
theorem c9_ok : FnOk Tryz.prog Bts 9 c9 := fn_ok (wm := false) (na := 2) Tryz.func9 (by kernel_rfl) (by kernel_rfl) (by kernel_rfl)
def c10 : FnC := ⟨false, 6, [(some 4), (some 5)], (.seq (.reg [q532, q529, (p 2 q191)]) (.seq (.reg [(o q187), (o q189), (o (.call q118 [(.x 1), (.x 0)])), q492, (o q178), (o q179), (p 3 q191), (o q292), q523]) (.seq (.reg [(o q243), (o q230)]) .ret))), [(.cell true 2 2)]⟩
theorem c10_ok : FnOk Tryz.prog Bts 10 c10 := fn_ok (wm := false) (na := 2) Tryz.func10 (by kernel_rfl) (by kernel_rfl) (by kernel_rfl)
def c11 : FnC := ⟨false, 16, [(some 14), (some 15)], (.seq (.reg [(p 11 (.box (.f 14))), (p 1 (.box (.f 15))), (p 5 q183), q546]) (.seq (.reg [(o q244), (o q213), (p 3 q183), (p 2 q183), (o q329), (o q329)]) (.seq (.block 0 (.seq (.reg [(o q384), (o q381), (o q195), q554]) (.cond (.f 12) (.seq (.reg [(o q202), (o q385), (p 6 (.mv q33))]) .ret) (.seq (.reg [(o q386), (o q175), (o q330), (o q175), (o (.pk .min [(.x 2), (.x 0)])), (o (.pk (.bin .lss) [(.x 0), (.k (.t (.one (.c (.v (.int .i64 (Int.negSucc 999)))))))])), q492, ⟨(some (0, false)), none, [], q386⟩, q589, ⟨(some (2, false)), none, [], q330⟩, ⟨(some (3, false)), none, [], q175⟩, ⟨(some (4, false)), none, [], (.pk .max [(.x 2), (.x 0)])⟩, ⟨(some (5, false)), none, [], (.pk (.bin .gtr) [(.x 0), (.k (.t (.one (.c (.v (.int .i64 (Int.ofNat 1000)))))))])⟩, (o (.pick (.x 6) q4 (.x 0))), q574]) (.cond (.f 13) (.seq (.reg [(o q202), (o q385), (p 6 (.mv q1))]) .ret) .skip))))) (.seq (.seq (.reg [(o q386), (o q175), q495]) (.block 1 (.loop (.seq (.seq (.reg [q489, (o q330), (o q175), (p 8 (.pk (.bin .leq) [(.x 2), (.x 0)]))]) (.cond (.f 8) .skip (.exit 1))) (.seq (.block 2 (.seq (.reg [(o q202), (o q271), (o q387), (o q331)]) (.seq (.seq (.reg [q489, (o q330), (o q175), (p 9 q293)]) (.cond (.f 9) (.exit 1) .skip)) (.seq (.reg [(o q384), q489, ⟨none, none, [1], q308⟩, (o (.call (.k (.t (.one (.c (.v (.func (.func 39) ⟨[]⟩ ⟨[]⟩)))))) [(.x 2), q0, (.x 0)])), q492, (o q178), (o q179), (p 7 q191), (o q292), q590]) (.seq (.seq (.reg [q496, (p 10 q218)]) (.cond (.f 10) (.seq (.reg [(o q244), q496, (o (.sto 4 (.f 5) (.x 1))), q575]) .ret) .skip)) (.reg [(o q271), (o (.ld true 2 (.f 7))), ⟨none, none, [1], (.call (.k (.t (.one (.c (.v (.func (.func 41) ⟨[]⟩ ⟨[]⟩)))))) [(.x 0)])⟩, (o (.call q12 [(.x 2), (.x 0)])), (o q235)])))))) (.reg [q489, (o q182), q495])))))) (.seq (.reg [(o q202), (o q385), q546]) .ret))))), [(.cell true 4 5), (.p 6)]⟩
theorem c11_ok : FnOk Tryz.prog Bts 11 c11 := fn_ok (wm := false) (na := 2) Tryz.func11 (by kernel_rfl) (by kernel_rfl) (by kernel_rfl)
def c12 : FnC := ⟨false, 6, [(some 2), (some 4)], (.seq (.reg [q576]) (.seq (.reg [(o q332), q497]) (.seq (.seq (.reg [q501]) (.block 0 (.loop (.seq (.seq (.reg [q489, q491, q493, (o q204), q492, q591, ⟨(some (1, true)), none, [], (.mv (.f 4))⟩, ⟨(some (2, true)), none, [], q250⟩, (p 3 q224)]) (.cond (.f 3) .skip (.exit 0))) (.seq (.block 1 (.reg [q490, q491, q489, (o q190), (o q175), (o q257), (o q376), (o q234), (o (.app 4 64 (.x 7) (.x 0))), q497])) (.reg [q489, (o q182), q495])))))) (.seq (.reg [q490, (o (.call (.k (.t (.one (.c (.v (.func (.func 42) ⟨[]⟩ ⟨[]⟩)))))) [(.x 0)])), q507]) .ret)))), [(.p 5)]⟩
theorem c12_ok : FnOk Tryz.prog Bts 12 c12 := fn_ok (wm := false) (na := 2) Tryz.func12 (by kernel_rfl) (by kernel_rfl) (by kernel_rfl)
def c13 : FnC := ⟨false, 2, [(some 1)], (.seq (.reg [(p 0 q183)]) (.seq (.reg [q490, (o (.call q119 [(.x 0)])), (o (.call q119 [q1])), (o q309), (o q251)]) .ret)), [(.cell true 4 0)]⟩
theorem c13_ok : FnOk Tryz.prog Bts 13 c13 := fn_ok (wm := false) (na := 1) Tryz.func13 (by kernel_rfl) (by kernel_rfl) (by kernel_rfl)
def c14 : FnC := ⟨false, 7, [(some 5), (some 6)], (.seq (.reg [q529, (p 0 (.box (.f 6))), q540]) (.seq (.reg [(o q187), ⟨none, none, [0], (.call q49 [q0])⟩, ⟨none, none, [1], q305⟩, ⟨none, none, [2], q286⟩, (o (.call (.k (.t (.one (.c (.v (.func (.func 44) ⟨[]⟩ ⟨[]⟩)))))) [(.x 3), q0, (.x 0)])), q492, (o q178), (o q179), (p 3 q191), (o q292), q590]) (.seq (.reg [q496, (o q185), q492, ⟨(some (0, true)), none, [], q243⟩, q642, ⟨(some (2, true)), none, [], q372⟩, q643, ⟨(some (4, true)), none, [], (.call (.k (.t (.one (.c (.v (.func (.func 46) ⟨[]⟩ ⟨[]⟩)))))) [(.x 1), (.x 0)])⟩, ⟨(some (5, true)), none, [], q305⟩, ⟨(some (6, true)), none, [], (.call (.k (.t (.one (.c (.v (.func (.func 45) ⟨[]⟩ ⟨[]⟩)))))) [(.x 1), (.x 0)])⟩, (o q272), q500]) .ret))), [(.p 2)]⟩
theorem c14_ok : FnOk Tryz.prog Bts 14 c14 := fn_ok (wm := false) (na := 2) Tryz.func14 (by kernel_rfl) (by kernel_rfl) (by kernel_rfl)
def c15 : FnC := ⟨false, 5, [(some 3), (some 4)], (.seq (.reg [q511, q513, q536]) (.seq (.reg [(o q210), (o q219), (o (.call (.k (.t (.one (.c (.v (.func (.func 47) ⟨[]⟩ ⟨[]⟩)))))) [(.x 1), (.x 0)])), (o q289), q500]) .ret)), [(.p 2)]⟩
theorem c15_ok : FnOk Tryz.prog Bts 15 c15 := fn_ok (wm := false) (na := 2) Tryz.func15 (by kernel_rfl) (by kernel_rfl) (by kernel_rfl)
def c16 : FnC := ⟨false, 3, [(some 2)], (.seq (.reg [q512, q518]) (.seq (.reg [(o q186), (o q181), (o q388), q497]) .ret)), [(.p 1)]⟩
theorem c16_ok : FnOk Tryz.prog Bts 16 c16 := fn_ok (wm := false) (na := 1) Tryz.func16 (by kernel_rfl) (by kernel_rfl) (by kernel_rfl)
def c17 : FnC := ⟨false, 3, [(some 2)], (.seq (.reg [q512, q518]) (.seq (.reg [(o (.ld true 3 (.f 0))), (o q382), (o q383), q497]) .ret)), [(.p 1)]⟩
theorem c17_ok : FnOk Tryz.prog Bts 17 c17 := fn_ok (wm := false) (na := 1) Tryz.func17 (by kernel_rfl) (by kernel_rfl) (by kernel_rfl)
def c18 : FnC := ⟨false, 11, [(some 9), (some 10)], (.seq (.reg [q592, (p 0 q333), q540]) (.seq (.seq (.reg [(o q189), (o (.call q120 [(.x 0)])), (o q194), q492, q648, ⟨(some (1, false)), none, [], q378⟩, (o q294), q492, q648, ⟨(some (1, false)), none, [], q381⟩, ⟨(some (2, false)), none, [], q195⟩, (p 6 q295)]) (.cond (.f 6) (.seq (.reg [q540]) .ret) .skip)) (.seq (.seq (.reg [(o q186), (p 7 q175)]) (.cond (.f 7) (.seq (.reg [(o q193), (o q181), (o (.call q120 [(.x 0)])), q492, q640, ⟨(some (1, true)), none, [], q193⟩, q641, ⟨(some (3, true)), none, [], (.call (.k (.t (.one (.c (.v (.func (.func 50) ⟨[]⟩ ⟨[]⟩)))))) [(.x 2), (.x 0)])⟩, (o q264), q500]) .ret) .skip)) (.seq (.reg [(o q189), (o (.call q115 [(.x 0)])), q492, (o q178), (o q179), (p 4 q326), (o (.sto 3 (.x 0) (.x 2))), (p 5 (.mv (.x 2)))]) (.seq (.seq (.reg [q498, (o q218), q492, ⟨(some (0, false)), none, [], q273⟩, q589, ⟨(some (2, false)), none, [], (.call (.k (.t (.one (.c (.v (.func (.func 51) ⟨[]⟩ ⟨[]⟩)))))) [(.x 0), (.k (.t (.one (.c (.v (.func (.func 52) ⟨[]⟩ ⟨[]⟩))))))])⟩, (p 8 q295)]) (.cond (.f 8) (.seq (.reg [q540]) .ret) .skip)) (.seq (.reg [(o (.ld true 3 (.f 4))), (o q382), (p 3 q327), (o q198)]) (.seq (.reg [(o (.off 3 (.f 0))), (o q175), (o q202), ⟨none, none, [1], q383⟩, (o q293), q492, ⟨(some (0, true)), none, [], q202⟩, ⟨(some (1, true)), none, [], q273⟩, ⟨(some (2, true)), none, [], q175⟩, ⟨(some (3, true)), none, [], (.off 3 (.f 0))⟩, ⟨(some (4, true)), none, [], q175⟩, ⟨(some (5, true)), none, [], (.call (.k (.t (.one (.c (.v (.func (.func 54) ⟨[]⟩ ⟨[]⟩)))))) [(.x 4), (.x 2), (.x 0)])⟩, (o q307), q500]) .ret))))))), [(.p 2)]⟩
theorem c18_ok : FnOk Tryz.prog Bts 18 c18 := fn_ok (wm := false) (na := 2) Tryz.func18 (by kernel_rfl) (by kernel_rfl) (by kernel_rfl)
def c19 : FnC := ⟨false, 3, [(some 2)], (.seq (.reg [q512, (p 1 q191)]) (.seq (.reg [(o q210), (o q334), (o q377), (o q259)]) .ret)), [(.cell true 2 1)]⟩
theorem c19_ok : FnOk Tryz.prog Bts 19 c19 := fn_ok (wm := false) (na := 1) Tryz.func19 (by kernel_rfl) (by kernel_rfl) (by kernel_rfl)
def c20 : FnC := ⟨false, 4, [(some 2), (some 3)], (.seq (.reg [(p 0 q191)]) (.seq (.reg [q491, q494, (o (.call q121 [(.x 1), (.x 0)])), q492, (o q178), (o q179), (p 1 q191), (o q292), q523]) (.seq (.reg [(o q189), (o q242)]) .ret))), [(.cell true 2 0)]⟩
theorem c20_ok : FnOk Tryz.prog Bts 20 c20 := fn_ok (wm := false) (na := 2) Tryz.func20 (by kernel_rfl) (by kernel_rfl) (by kernel_rfl)
def c21 : FnC := ⟨false, 11, [(some 2), (some 4)], (.seq (.reg [q593]) (.seq (.reg [(o q236), q502, q501, q518]) (.seq (.block 0 (.loop (.seq (.seq (.reg [q489, q491, q493, (o q204), q492, q614, ⟨(some (1, false)), none, [], (.mv (.f 4))⟩, q577, q649, (p 6 q274)]) (.cond (.f 6) .skip (.exit 0))) (.block 1 (.seq (.reg [q490, q496, q493, (o q293), q492, q650, q651, q577, q649, q652, q571, q533, q653, q654, q578, ⟨(some (5, true)), none, [], (.mv (.f 4))⟩, q655, q555, ⟨(some (8, true)), none, [], q192⟩, ⟨(some (9, true)), none, [], q176⟩, ⟨(some (10, true)), none, [], (.call q77 [(.x 5), (.x 0)])⟩, ⟨(some (16, false)), none, [], q335⟩, (p 7 (.pick (.x 17) q4 (.x 0)))]) (.cond (.f 7) (.seq (.reg [q494, q491, q489, (o q184), (o q180), (o q211), (o q389), q502]) (.reg [q489, (o q182), q495])) (.seq (.reg [q489, q491, q493, (o q293), q492, ⟨(some (0, false)), none, [], (.mv (.f 4))⟩, ⟨(some (1, false)), none, [], (.mv (.f 1))⟩, q656, ⟨(some (3, false)), none, [], q192⟩, q657, q658, q659, q660, ⟨(some (8, false)), none, [], q192⟩, q661, ⟨(some (10, false)), none, [], (.call q77 [(.x 5), (.x 0)])⟩, (p 8 (.pick (.x 11) q4 (.x 0)))]) (.cond (.f 8) (.seq (.reg [q494, q496, q490, (o q184), (o q180), (o q211), (o q389), q502]) (.reg [q490, (o q182), q497])) (.seq (.reg [q491, q489, (o q184), (o q206), (o q176), q496, q490, (o q184), (o q206), (o q176), (o (.call q78 [(.x 5), (.x 0)])), (p 5 q183), (o q198)]) (.seq (.seq (.reg [(o q265), (o q289), (p 9 q218)]) (.cond (.f 9) (.reg [q494, q491, q489, (o q184), (o q192), (o q176), (o q265), (o q336), (o q211), (o (.app 8 96 (.x 8) (.x 0))), q502]) .skip)) (.seq (.reg [q489, (o q182), q495]) (.reg [q490, (o q182), q497])))))))))))) (.seq (.reg [q494, q547]) .ret)))), [(.p 10)]⟩
theorem c21_ok : FnOk Tryz.prog Bts 21 c21 := fn_ok (wm := false) (na := 2) Tryz.func21 (by kernel_rfl) (by kernel_rfl) (by kernel_rfl)
def c22 : FnC := ⟨false, 6, [(some 4), (some 2)], (.seq (.reg [q576]) (.seq (.reg [(o q236), q497]) (.seq (.seq (.reg [q501]) (.block 0 (.loop (.seq (.seq (.reg [q489, q491, q493, (p 3 q204)]) (.cond (.f 3) .skip (.exit 0))) (.seq (.block 1 (.reg [q490, q496, q491, q489, (o q184), (o q180), (o (.call q79 [(.x 4), (.x 0)])), (o (.call q70 [(.x 6), (.x 0)])), q497])) (.reg [q489, (o q182), q495])))))) (.seq (.reg [q490, q507]) .ret)))), [(.p 5)]⟩
theorem c22_ok : FnOk Tryz.prog Bts 22 c22 := fn_ok (wm := false) (na := 2) Tryz.func22 (by kernel_rfl) (by kernel_rfl) (by kernel_rfl)
def c23 : FnC := ⟨false, 2, [(some 1)], (.seq (.reg [(p 0 q191)]) (.seq (.reg [q490, (o (.call (.k (.t (.one (.c (.v (.func (.func 60) ⟨[]⟩ ⟨[]⟩)))))) [])), (o q449), (o q242)]) .ret)), [(.cell true 2 0)]⟩
theorem c23_ok : FnOk Tryz.prog Bts 23 c23 := fn_ok (wm := false) (na := 1) Tryz.func23 (by kernel_rfl) (by kernel_rfl) (by kernel_rfl)
def c24 : FnC := ⟨false, 3, [(some 2)], (.seq (.reg [q516]) (.seq (.reg [(o q287), (o q310), (p 0 q220), (o q226)]) (.seq (.reg [q491, (o q186), (o q227), (o (.sto 1 (.x 0) q1))]) (.seq (.reg [(o (.ld true 8 (.f 0))), (o q211), q497]) .ret)))), [(.p 1)]⟩
theorem c24_ok : FnOk Tryz.prog Bts 24 c24 := fn_ok (wm := false) (na := 1) Tryz.func24 (by kernel_rfl) (by kernel_rfl) (by kernel_rfl)
def c25 : FnC := ⟨false, 3, [(some 2)], (.seq (.reg [q512, q541]) (.seq (.reg [(o q186), (o q175), q493, (o q185), q497]) .ret)), [(.p 1)]⟩
theorem c25_ok : FnOk Tryz.prog Bts 25 c25 := fn_ok (wm := false) (na := 1) Tryz.func25 (by kernel_rfl) (by kernel_rfl) (by kernel_rfl)
def c26 : FnC := ⟨false, 6, [(some 5)], (.seq (.reg [q529, q530]) (.seq (.seq (.reg [q594]) (.block 0 (.loop (.seq (.seq (.reg [q489, (p 2 q203)]) (.cond (.f 2) .skip (.exit 0))) (.seq (.block 1 (.seq (.reg [(o q188), (o q175), q489, (o q237), (o q217), ⟨none, none, [1], q175⟩, q489, (o q237), (o q390), (p 3 q195)]) (.cond (.f 3) (.seq (.reg [q489, q504]) .ret) .skip))) (.reg [q489, (o q177), q495])))))) (.seq (.reg [(p 4 (.mv q11))]) .ret))), [(.p 4)]⟩
theorem c26_ok : FnOk Tryz.prog Bts 26 c26 := fn_ok (wm := false) (na := 1) Tryz.func26 (by kernel_rfl) (by kernel_rfl) (by kernel_rfl)
def c27 : FnC := ⟨false, 18, [(some 17)], (.seq (.reg [(p 9 (.box (.f 17))), (p 6 q326), q537]) (.seq (.reg [(o (.off 0 (.f 9))), (o q175), (o q391), q492, (o q178), (o q179), q573, (p 12 (.mv (.x 1)))]) (.seq (.reg [(o (.off 1 (.f 9))), (o q175), (o q391), q492, (o q178), (o q179), q615, q556]) (.seq (.block 0 (.seq (.reg [q520, (o q218), q492, ⟨(some (0, false)), none, [], (.mv (.f 13))⟩, ⟨(some (1, false)), none, [], q218⟩, (o q294), q561]) (.cond (.f 15) (.seq (.reg [(o q450), (o q392), (p 7 (.mv q33))]) .ret) (.seq (.reg [q506, q493, (o q185), q616]) (.cond (.f 16) (.seq (.reg [(o q450), (o q392), (p 7 (.mv q7))]) .ret) .skip))))) (.seq (.reg [q506, q505, (o q213), (o q234), (o (.bld [(.c (.v (.slice none 0 0))), (.c (.v (.slice none 0 0))), (.c (.v (.slice none 0 0)))] [(0, 1), (1, 1), (2, 1)] [0, 1, 2] [(.x 3), (.x 2), (.x 0)])), (p 11 q326), (o (.sto 3 (.x 0) (.x 1)))]) (.seq (.reg [(o (.mkf 63 [(.f 11)])), q502]) (.seq (.reg [q506, q505, (o (.call (.k (.t (.one (.c (.v (.func (.func 67) ⟨[]⟩ ⟨[]⟩)))))) [(.x 1), (.x 0)])), q492, (o q178), (o q179), q617, q542]) (.seq (.seq (.reg [(p 4 (.mv (.f 14))), q579, q501]) (.block 1 (.loop (.seq (.reg [(p 2 q311)]) (.seq (.cond (.f 2) .skip (.exit 1)) (.seq (.block 2 (.seq (.reg [(o (.ixS 1 (.f 4) (.f 0))), (o q175), q497]) (.reg [q494, q490, (o q275)]))) (.reg [(o q197), q495]))))))) (.seq (.reg [(o (.ld true 3 (.f 11))), (o q392), q537]) .ret))))))))), [(.cell true 3 6), (.p 7)]⟩
theorem c27_ok : FnOk Tryz.prog Bts 27 c27 := fn_ok (wm := false) (na := 1) Tryz.func27 (by kernel_rfl) (by kernel_rfl) (by kernel_rfl)
def c28 : FnC := ⟨true, 22, [(some 21), (some 18)], (.seq (.reg [(p 10 (.box (.f 21))), (p 19 (.mv q2)), (p 20 (.mv q2))]) (.seq (.reg [q580]) (.seq (.seq (.reg [(o (.mv (.f 18))), (p 16 q182), q595]) (.block 0 (.loop (.seq (.reg [(p 14 (.pk (.bin .lss) [(.f 8), (.f 16)]))]) (.seq (.cond (.f 14) .skip (.exit 0)) (.seq (.block 1 (.seq (.reg [q506, q574]) (.reg [q503, (o (.off 3 (.f 10))), (o q175), q526, ⟨none, none, [1], (.call (.k (.t (.one (.c (.v (.func (.func 68) ⟨[]⟩ ⟨[]⟩)))))) [(.x 0)])⟩, (o (.call (.x 2) [(.x 0)])), (o q296), (o (.app 1 24 (.x 6) (.x 0))), q521]))) (.reg [q662, q514]))))))) (.seq (.reg [(p 11 (.mv q2))]) (.seq (.reg [q557]) (.seq (.seq (.reg [(o (.ld true 4 (.f 10))), (o (.mv (.f 18))), (p 17 (.call (.k (.t (.one (.c (.v (.func (.func 69) ⟨[]⟩ ⟨[]⟩)))))) [(.x 1), (.x 0)])), q534]) (.block 2 (.loop (.seq (.reg [(p 15 (.pk (.bin .lss) [(.f 9), (.f 17)]))]) (.seq (.cond (.f 15) .skip (.exit 2)) (.seq (.block 3 (.seq (.reg [q510, q504]) (.seq (.reg [q503, q493, (o q451), q497]) (.seq (.seq (.reg [(p 5 (.mv (.f 7))), q548, q501]) (.block 4 (.loop (.seq (.reg [(p 3 q276)]) (.seq (.cond (.f 3) .skip (.exit 4)) (.seq (.block 5 (.seq (.reg [(o q337), (o q175), q500]) (.reg [q490, q491, q496, (o q312), (o q234), (o (.app 4 64 (.x 4) (.x 0))), q497]))) (.reg [(o q197), q495]))))))) (.seq (.reg [q508, q490, (o q296), (o (.app 1 24 (.x 2) (.x 0))), q558]) (.reg [q520, (o (.off 2 (.f 10))), (o q175), q496, (o q312), (o q234), (o (.app 4 64 (.x 5) (.x 0))), q554])))))) (.reg [(o q393), q517]))))))) (.seq (.reg [q508, q520, (p 19 (.mv (.x 1))), (p 20 (.mv (.x 1)))]) .ret))))))), [(.p 19), (.p 20)]⟩
theorem c28_ok : FnOk Tryz.prog Bts 28 c28 := fn_ok (wm := true) (na := 2) Tryz.func28 (by kernel_rfl) (by kernel_rfl) (by kernel_rfl)
def c29 : FnC := ⟨true, 5, [(some 4)], (.seq (.reg [q532, (p 3 q327)]) (.seq (.reg [(o q213), (p 2 q183), (o q198)]) (.seq (.reg [(o q186), (o q175), (o q193), (o q175), (o q271), ⟨none, none, [1, 3], q394⟩, ⟨none, none, [4], (.call q82 [(.x 2), (.x 0)])⟩, (o q207), ⟨none, none, [1, 2], q175⟩, (o (.bld [(.c (.v (.slice none 0 0))), (.c (.v (.slice none 0 0))), (.c (.v (.slice none 0 0))), (.c (.v .nilFunc))] [(0, 1), (1, 1), (2, 1), (3, 1)] [0, 1, 2] [(.x 7), (.x 2), (.x 0)])), (p 1 q327), (o q198)]) (.seq (.reg [(o (.mkf 73 [(.f 1), (.f 2)])), (o (.off 3 (.f 1))), (o q205)]) (.seq (.reg [(o q219), (o q331)]) .ret))))), [(.cell true 4 3)]⟩
theorem c29_ok : FnOk Tryz.prog Bts 29 c29 := fn_ok (wm := true) (na := 1) Tryz.func29 (by kernel_rfl) (by kernel_rfl) (by kernel_rfl)
def c30 : FnC := ⟨true, 10, [(some 9)], (.seq (.reg [(p 0 (.box (.f 9))), q527]) (.seq (.reg [(o q210), (o (.call q122 [(.x 0)])), (o q207), ⟨none, none, [1], q175⟩, q493, (o q177), (p 1 (.mv (.x 4))), q538]) (.seq (.seq (.reg [(o q186), (o q175), q490, (o q312), (o q193), ⟨none, none, [1], q175⟩, q490, (o q312), (o (.call q36 [(.x 4), (.x 0)])), (p 7 q218)]) (.cond (.f 7) (.seq (.reg [q496, q490, (o q208), (o (.pk .max [(.x 0), q11])), q502]) .ret) .skip)) (.seq (.reg [q496, q490, (o q208), (o q182), (o (.pk .max [(.x 0), q11])), q500]) (.seq (.reg [(o q193), (o q175), q490, (o q177), q663, (o q186), ⟨none, none, [1], q175⟩, q490, (o q177), q663, (o (.call q53 [(.x 5), (.x 0)])), (o q193), ⟨none, none, [1, 2, 7], q175⟩, q490, (o q312), (o (.call (.k (.t (.one (.c (.v (.func (.func 77) ⟨[]⟩ ⟨[]⟩)))))) [(.x 4), (.x 0)])), (p 5 q183), (o q198)]) (.seq (.seq (.reg [(o q265), (o (.call (.k (.t (.one (.c (.v (.func (.func 79) ⟨[]⟩ ⟨[]⟩)))))) [(.x 0)])), q509]) (.seq (.reg [(o q265), q499, ⟨none, none, [1], q308⟩, (o (.call q36 [(.x 2), (.x 0)])), (p 8 q185)]) (.cond (.f 8) (.reg [q491, q499, (o (.pk .max [(.x 1), (.x 0)])), q500]) .skip))) (.seq (.reg [q491, q502]) .ret))))))), [(.p 3)]⟩
theorem c30_ok : FnOk Tryz.prog Bts 30 c30 := fn_ok (wm := true) (na := 1) Tryz.func30 (by kernel_rfl) (by kernel_rfl) (by kernel_rfl)
def c31 : FnC := ⟨false, 33, [(some 21), (some 32)], (.seq (.reg [(p 22 (.mv q2)), (p 23 (.mv q2)), (p 24 (.mv q3))]) (.seq (.reg [(o (.mv (.f 21))), (o (.call (.k (.t (.one (.c (.v (.func (.func 80) ⟨[]⟩ ⟨[]⟩)))))) [(.x 0)])), q504]) (.seq (.reg [q557]) (.seq (.seq (.reg [(p 26 (.mv (.f 21))), (p 27 (.len (.x 0))), q546]) (.block 0 (.loop (.seq (.reg [(p 17 (.pk (.bin .lss) [(.f 6), (.f 27)]))]) (.seq (.cond (.f 17) .skip (.exit 0)) (.seq (.block 1 (.seq (.reg [q499, (o (.ixS 1 (.f 26) (.f 6))), (o q175), q610, q556]) (.seq (.reg [(o (.mv (.f 21))), q493, (o (.call q123 [(.x 0)])), q558]) (.seq (.reg [q508, q505, (o q213), (o (.ixS 4 (.x 2) (.x 1))), (o q198)]) (.reg [q520, q526, (o (.mv (.f 32))), q505, q505, (o q182), (o (.slc 4 (.x 3) (some (.x 2)) (some (.x 0)))), q508, (o (.bsl [(.slice none 0 0)] 1 3 [0, 1, 2] [(.x 6), (.x 1), (.x 0)])), (o (.call (.k (.t (.one (.c (.v (.func (.func 82) ⟨[]⟩ ⟨[]⟩)))))) [(.x 0)])), (o q296), (o (.app 1 24 (.x 10) (.x 0))), q554]))))) (.reg [(o q395), q509]))))))) (.seq (.reg [q520, q496, (o (.call (.k (.t (.one (.c (.v (.func (.func 83) ⟨[]⟩ ⟨[]⟩)))))) [(.x 1), (.x 0)])), q572]) (.seq (.seq (.reg [q528, (o q199), (o q192), (o q175), q528, (o q199), (o q313), (o q175), q493, (p 28 (.slc 1 (.x 5) (some (.x 0)) none)), (p 29 (.len (.x 0))), q534]) (.block 2 (.loop (.seq (.reg [(p 18 (.pk (.bin .lss) [(.f 9), (.f 29)]))]) (.seq (.cond (.f 18) .skip (.exit 2)) (.seq (.block 3 (.seq (.reg [(o (.ixS 1 (.f 28) (.f 9))), (o q175), q507]) (.seq (.seq (.reg [q498, q496, (o q212), (o q176), (o q252), (p 19 q185)]) (.cond (.f 19) (.exit 3) .skip)) (.seq (.reg [q498, q496, (o q182), (o (.slc 4 (.x 2) (some (.x 0)) none)), (o (.call q124 [(.x 0)])), q500]) (.seq (.seq (.reg [q491, q562, q501]) (.block 4 (.loop (.seq (.reg [(p 3 q314)]) (.seq (.cond (.f 3) .skip (.exit 4)) (.seq (.block 5 (.seq (.reg [q489, q497]) (.reg [q491, q490, q491, q490, (o q212), (o q176), q498, q496, (o q212), (o q176), (o q338), q492, (o q178), (o q179), (o (.ixS 4 (.x 13) (.x 12))), (o q216)]))) (.reg [(o q197), q495]))))))) (.seq (.reg [q491, (p 22 (.mv q2)), (p 23 (.mv (.x 1))), (p 24 (.mv q3))]) .ret)))))) (.reg [(o q393), q517]))))))) (.seq (.reg [q496, (o (.call q123 [(.x 0)])), (p 25 (.mv (.x 0)))]) (.seq (.seq (.reg [q528, (o q199), (o q313), (p 30 q175), (p 31 (.len (.x 0))), q537]) (.block 6 (.loop (.seq (.reg [(p 20 (.pk (.bin .lss) [(.f 7), (.f 31)]))]) (.seq (.cond (.f 20) .skip (.exit 6)) (.seq (.block 7 (.seq (.reg [q503, (o (.ixS 1 (.f 30) (.f 7))), (o q175), (p 15 (.mv (.x 2))), q618]) (.reg [(o (.mv (.f 25))), (o (.mv (.f 16))), q528, (o q199), (o q192), (o q175), q596, (o q190), (o q175), q496, (o q212), (o q176), (o (.ixS 4 (.x 11) (.x 10))), (o q198)]))) (.reg [q664, q521]))))))) (.seq (.reg [(o (.mv (.f 25))), (p 22 (.mv (.x 0))), (p 23 (.mv q2)), (p 24 (.mv q4))]) .ret))))))))), [(.p 22), (.p 23), (.p 24)]⟩
theorem c31_ok : FnOk Tryz.prog Bts 31 c31 := fn_ok (wm := false) (na := 2) Tryz.func31 (by kernel_rfl) (by kernel_rfl) (by kernel_rfl)
def c32 : FnC := ⟨false, 6, [(some 4), (some 5)], (.seq (.reg [q532, q529, (p 2 q191), q527]) (.seq (.reg [(o q186), (o q175), (o q217), (o q175), (o q260), (o q193), ⟨none, none, [1], q175⟩, (o q188), ⟨none, none, [3], q175⟩, (o q260), (o q339), (o q178), (o q179), (o (.sto 2 (.f 2) (.x 1))), q525]) .ret)), [(.cell true 2 2), (.p 3)]⟩
theorem c32_ok : FnOk Tryz.prog Bts 32 c32 := fn_ok (wm := false) (na := 2) Tryz.func32 (by kernel_rfl) (by kernel_rfl) (by kernel_rfl)
def c33 : FnC := ⟨false, 2, [(some 1)], (.seq (.reg [(p 0 q191)]) (.seq (.reg [q490, (o q396), (o q397), (o q242)]) .ret)), [(.cell true 2 0)]⟩
theorem c33_ok : FnOk Tryz.prog Bts 33 c33 := fn_ok (wm := false) (na := 1) Tryz.func33 (by kernel_rfl) (by kernel_rfl) (by kernel_rfl)
def c34 : FnC := ⟨false, 17, [(some 14), (some 11)], (.seq (.reg [q597]) (.seq (.seq (.reg [q528, q493, (o q185), q492, ⟨(some (0, false)), none, [], (.mv (.f 11))⟩, q598, q619, (p 16 q295)]) (.cond (.f 16) (.seq (.reg [q597]) .ret) .skip)) (.seq (.reg [(o q244), (o q234), q528, q493, q508, q493, (o q253), (o q177), (o (.call q125 [(.x 6), (.x 0)])), q502]) (.seq (.seq (.reg [(p 12 (.mv (.f 14))), (p 13 (.len (.x 0))), q546]) (.block 0 (.loop (.seq (.reg [(p 10 q452)]) (.seq (.cond (.f 10) .skip (.exit 0)) (.seq (.block 1 (.seq (.reg [q499, (o (.ixS 4 (.f 12) (.f 6))), (o q176), (p 7 q183), q563, (o q297)]) (.seq (.reg [(p 8 (.mv (.f 11))), q581, q501]) (.block 2 (.loop (.seq (.reg [(p 5 q453)]) (.seq (.cond (.f 5) .skip (.exit 2)) (.seq (.block 3 (.seq (.reg [q489, (o (.ixS 4 (.f 8) (.f 0))), (o q176), (p 4 q183), q620, (o q297)]) (.reg [q494, q491, q490, (o q200), q494, q491, q490, (o q200), (o q340), (o q176), (o (.ld true 4 (.f 7))), (o q266), ⟨none, none, [2], q277⟩, (o (.call q27 [(.x 3), (.x 0)])), (o (.ixS 4 (.x 13) (.x 10))), (o q198)]))) (.reg [(o q197), q495]))))))))) (.reg [(o q395), q509]))))))) (.seq (.reg [q494, (o q291), q561]) .ret))))), [(.p 15)]⟩
theorem c34_ok : FnOk Tryz.prog Bts 34 c34 := fn_ok (wm := false) (na := 2) Tryz.func34 (by kernel_rfl) (by kernel_rfl) (by kernel_rfl)
def c35 : FnC := ⟨false, 4, [(some 2)], (.seq (.reg [q599]) (.seq (.reg [q491, q493, q495]) (.seq (.block 0 (.loop (.seq (.seq (.reg [q489, (o q195), q492, q571, q533, q621, q665, q578, ⟨(some (5, true)), none, [], q252⟩, q666, (p 1 q272)]) (.cond (.f 1) .skip (.exit 0))) (.block 1 (.reg [q489, (o q177), q495]))))) (.seq (.reg [q491, q489, q489, (o (.slc3 4 (.x 2) none (.x 1) (.x 0))), q502]) .ret)))), [(.p 3)]⟩
theorem c35_ok : FnOk Tryz.prog Bts 35 c35 := fn_ok (wm := false) (na := 1) Tryz.func35 (by kernel_rfl) (by kernel_rfl) (by kernel_rfl)
def c36 : FnC := ⟨false, 6, [(some 4), (some 5)], (.seq (.reg [q532, q529, (p 2 q191), q527]) (.seq (.reg [(o q186), (o q175), (o q217), (o q175), (o q270), (o q193), ⟨none, none, [1], q175⟩, (o q188), ⟨none, none, [3], q175⟩, (o q270), (o (.call q121 [(.x 5), (.x 0)])), (o q178), (o q179), (o (.sto 2 (.f 2) (.x 1))), q525]) .ret)), [(.cell true 2 2), (.p 3)]⟩
theorem c36_ok : FnOk Tryz.prog Bts 36 c36 := fn_ok (wm := false) (na := 2) Tryz.func36 (by kernel_rfl) (by kernel_rfl) (by kernel_rfl)
def c37 : FnC := ⟨false, 2, [(some 1)], (.seq (.reg [(p 0 q183)]) (.seq (.reg [q490, (o (.call q14 [(.x 0)])), (o q267), (o q309), (o q251)]) .ret)), [(.cell true 4 0)]⟩
theorem c37_ok : FnOk Tryz.prog Bts 37 c37 := fn_ok (wm := false) (na := 1) Tryz.func37 (by kernel_rfl) (by kernel_rfl) (by kernel_rfl)
def c38 : FnC := ⟨false, 5, [(some 3), (some 4)], (.seq (.reg [q511, q513, (p 2 q183)]) (.seq (.reg [(o q186), (o q181), (o q231), (o q181), (o q238), (o q239), (o q188), ⟨none, none, [1], q181⟩, (o q207), ⟨none, none, [3], q181⟩, (o q238), (o q239), (o (.call q85 [(.x 6), (.x 0)])), (o q207), ⟨none, none, [1, 2, 8], q181⟩, (o q231), ⟨none, none, [3, 4, 10], q181⟩, (o q238), (o q239), (o q398), (o q235)]) .ret)), [(.cell true 4 2)]⟩
theorem c38_ok : FnOk Tryz.prog Bts 38 c38 := fn_ok (wm := false) (na := 2) Tryz.func38 (by kernel_rfl) (by kernel_rfl) (by kernel_rfl)
def c39 : FnC := ⟨false, 7, [(some 5), (some 2), (some 6)], (.seq (.reg [q600, q564, (p 3 q191), q530]) (.seq (.reg [(o q186), (o q175), q491, (o q219), (o q454), (o q193), ⟨none, none, [1], q175⟩, q491, ⟨none, none, [3], q219⟩, (o q454), (o q339), (o q178), (o q179), (o (.sto 2 (.f 3) (.x 1))), q538]) .ret)), [(.cell true 2 3), (.p 4)]⟩
theorem c39_ok : FnOk Tryz.prog Bts 39 c39 := fn_ok (wm := false) (na := 3) Tryz.func39 (by kernel_rfl) (by kernel_rfl) (by kernel_rfl)
def c40 : FnC := ⟨false, 5, [(some 3), (some 4)], (.seq (.reg [q511, q513, (p 2 q183)]) (.seq (.reg [(o q186), (o q181), (o q188), (o q181), (o q238), (o q239), (o q207), ⟨none, none, [1], q181⟩, (o q231), ⟨none, none, [3], q181⟩, (o q238), (o q239), (o q398), (o q235)]) .ret)), [(.cell true 4 2)]⟩
theorem c40_ok : FnOk Tryz.prog Bts 40 c40 := fn_ok (wm := false) (na := 2) Tryz.func40 (by kernel_rfl) (by kernel_rfl) (by kernel_rfl)
def c41 : FnC := ⟨false, 4, [(some 3)], (.seq (.reg [q511, (p 1 q183)]) (.seq (.seq (.reg [(o q187), (p 2 q378)]) (.cond (.f 2) (.seq (.reg [(o q244), (o q228)]) .ret) .skip)) (.seq (.reg [(o q186), (o q175), (o q209), (o q206), (o q176), (o q228)]) .ret))), [(.cell true 4 1)]⟩
theorem c41_ok : FnOk Tryz.prog Bts 41 c41 := fn_ok (wm := false) (na := 1) Tryz.func41 (by kernel_rfl) (by kernel_rfl) (by kernel_rfl)
def c42 : FnC := ⟨false, 7, [(some 3)], (.seq (.reg [q531]) (.seq (.reg [q494, q493, q495]) (.seq (.block 0 (.loop (.seq (.seq (.reg [q489, (o q195), q492, q622, q533, q621, q665, q578, ⟨(some (5, true)), none, [], q289⟩, q666, (p 4 q272)]) (.cond (.f 4) .skip (.exit 0))) (.block 1 (.reg [q489, (o q177), q495]))))) (.seq (.reg [(o q332), q500]) (.seq (.seq (.reg [q518]) (.block 2 (.loop (.seq (.seq (.reg [q490, q489, (p 5 q250)]) (.cond (.f 5) .skip (.exit 2))) (.seq (.block 3 (.reg [q491, q494, q490, (o q212), (o q176), (o q234), (o (.app 4 64 (.x 5) (.x 0))), q500])) (.reg [q490, (o q182), q497])))))) (.seq (.reg [q491, q509]) .ret)))))), [(.p 6)]⟩
theorem c42_ok : FnOk Tryz.prog Bts 42 c42 := fn_ok (wm := false) (na := 1) Tryz.func42 (by kernel_rfl) (by kernel_rfl) (by kernel_rfl)
def c44 : FnC := ⟨false, 7, [(some 5), (some 2), (some 6)], (.seq (.reg [q600, q564, (p 3 q191), q530]) (.seq (.reg [(o q186), (o q175), q491, (o q189), (o q455), (o q193), ⟨none, none, [1], q175⟩, q491, ⟨none, none, [3], q189⟩, (o q455), (o (.call q118 [(.x 5), (.x 0)])), (o q178), (o q179), (o (.sto 2 (.f 3) (.x 1))), q538]) .ret)), [(.cell true 2 3), (.p 4)]⟩
theorem c44_ok : FnOk Tryz.prog Bts 44 c44 := fn_ok (wm := false) (na := 3) Tryz.func44 (by kernel_rfl) (by kernel_rfl) (by kernel_rfl)
def c45 : FnC := ⟨false, 5, [(some 3), (some 4)], (.seq (.reg [q511, q513, q540]) (.seq (.reg [(o q186), (o q175), (o q188), (o q175), (o (.call q128 [(.x 2), (.x 0)])), q492, q565, q522, q667, q601, ⟨(some (4, true)), none, [], (.call q128 [(.x 2), (.x 0)])⟩, (o q315), q500]) .ret)), [(.p 2)]⟩
theorem c45_ok : FnOk Tryz.prog Bts 45 c45 := fn_ok (wm := false) (na := 2) Tryz.func45 (by kernel_rfl) (by kernel_rfl) (by kernel_rfl)
def c46 : FnC := ⟨false, 5, [(some 3), (some 4)], (.seq (.reg [q511, q513, (p 2 q191)]) (.seq (.reg [(o q187), (o q189), ⟨none, none, [1], (.call (.k (.t (.one (.c (.v (.func (.func 100) ⟨[]⟩ ⟨[]⟩)))))) [(.x 0)])⟩, (o (.call q22 [(.x 2), (.x 0)])), (o q230)]) .ret)), [(.cell true 2 2)]⟩
theorem c46_ok : FnOk Tryz.prog Bts 46 c46 := fn_ok (wm := false) (na := 2) Tryz.func46 (by kernel_rfl) (by kernel_rfl) (by kernel_rfl)
def c47 : FnC := ⟨false, 5, [(some 3), (some 4)], (.seq (.reg [q511, q513, (p 2 q183)]) (.seq (.reg [(o q210), (o q219), ⟨none, none, [1], (.call (.k (.t (.one (.c (.v (.func (.func 101) ⟨[]⟩ ⟨[]⟩)))))) [(.x 0)])⟩, (o (.call q78 [(.x 2), (.x 0)])), (o q235)]) .ret)), [(.cell true 4 2)]⟩
theorem c47_ok : FnOk Tryz.prog Bts 47 c47 := fn_ok (wm := false) (na := 2) Tryz.func47 (by kernel_rfl) (by kernel_rfl) (by kernel_rfl)
def c49 : FnC := ⟨false, 3, [(some 2)], (.seq (.reg [q512, q541]) (.seq (.reg [(o q186), (o q175), (o (.call q129 [(.x 0)])), q492, q565, q522, ⟨(some (2, true)), none, [], (.call q129 [(.x 0)])⟩, (o q224), q492, q565, q522, q623, ⟨(some (3, true)), none, [], q195⟩, (o q264), q492, q565, q522, ⟨(some (2, true)), none, [], q209⟩, ⟨(some (3, true)), none, [], q206⟩, q578, ⟨(some (5, true)), none, [0, 3], q213⟩, ⟨(some (6, true)), none, [], q399⟩, ⟨(some (7, true)), none, [], q185⟩, (o q375), q492, ⟨(some (0, true)), none, [], q186⟩, q522, ⟨(some (2, true)), none, [], q193⟩, q601, ⟨(some (4, true)), none, [], (.call q38 [(.x 2), (.x 0)])⟩, ⟨(some (5, true)), none, [], (.call q86 [])⟩, ⟨(some (6, true)), none, [], (.call q55 [(.x 1), (.x 0)])⟩, (o q272), q497]) .ret)), [(.p 1)]⟩
theorem c49_ok : FnOk Tryz.prog Bts 49 c49 := fn_ok (wm := false) (na := 1) Tryz.func49 (by kernel_rfl) (by kernel_rfl) (by kernel_rfl)
def c50 : FnC := ⟨false, 6, [(some 4), (some 5)], (.seq (.reg [q513, q600, q540]) (.seq (.reg [(o q187), (o (.call (.k (.t (.one (.c (.v (.func (.func 108) ⟨[]⟩ ⟨[]⟩)))))) [(.x 0), q0, q1])), ⟨none, none, [0], q189⟩, (o (.call (.k (.t (.one (.c (.v (.func (.func 107) ⟨[]⟩ ⟨[]⟩)))))) [(.x 1), (.x 0)])), ⟨none, none, [0, 2], q187⟩, (o (.call (.k (.t (.one (.c (.v (.func (.func 106) ⟨[]⟩ ⟨[]⟩)))))) [(.x 1), (.x 0)])), (p 3 q191), (o q214)]) (.seq (.reg [(o q243), ⟨none, none, [0], q213⟩, ⟨none, none, [1], (.call q130 [(.x 0)])⟩, (o (.call (.k (.t (.one (.c (.v (.func (.func 109) ⟨[]⟩ ⟨[]⟩)))))) [(.x 2), (.x 0)])), q500]) .ret))), [(.p 2)]⟩
theorem c50_ok : FnOk Tryz.prog Bts 50 c50 := fn_ok (wm := false) (na := 2) Tryz.func50 (by kernel_rfl) (by kernel_rfl) (by kernel_rfl)
def c51 : FnC := ⟨true, 3, [(some 1), (some 2)], (.seq (.reg [(p 0 (.mv q3))]) (.seq (.reg [q490, q491, (o (.call (.k (.t (.one (.c (.v (.func (.func 111) ⟨[]⟩ ⟨[]⟩)))))) [(.x 1), (.x 0)])), (o q203), q495]) .ret)), [(.p 0)]⟩
theorem c51_ok : FnOk Tryz.prog Bts 51 c51 := fn_ok (wm := true) (na := 2) Tryz.func51 (by kernel_rfl) (by kernel_rfl) (by kernel_rfl)
def c52 : FnC := ⟨false, 3, [(some 2)], (.seq (.reg [q512, q541]) (.seq (.reg [(o q210), (o (.call q131 [(.x 0)])), (o q194), q497]) .ret)), [(.p 1)]⟩
theorem c52_ok : FnOk Tryz.prog Bts 52 c52 := fn_ok (wm := false) (na := 1) Tryz.func52 (by kernel_rfl) (by kernel_rfl) (by kernel_rfl)
def c53 : FnC := ⟨false, 4, [(some 3)], (.seq (.reg [q511, q541]) (.seq (.seq (.reg [(o q186), (o q181), (o (.call q132 [(.x 0)])), (o q194), q492, q668, q669, ⟨(some (2, false)), none, [], (.call q132 [(.x 0)])⟩, q670, (o q274), q492, q668, q669, ⟨(some (2, false)), none, [], q316⟩, ⟨(some (3, false)), none, [], (.pk (.bin .leq) [(.x 0), q0])⟩, (p 2 q274)]) (.cond (.f 2) (.seq (.reg [q541]) .ret) .skip)) (.seq (.reg [(o q186), (o q181), (o q207), (o q181), (o (.call q56 [(.x 2), (.x 0)])), (o q267), (o q400), (o q185), q497]) .ret))), [(.p 1)]⟩
theorem c53_ok : FnOk Tryz.prog Bts 53 c53 := fn_ok (wm := false) (na := 1) Tryz.func53 (by kernel_rfl) (by kernel_rfl) (by kernel_rfl)
def c54 : FnC := ⟨true, 15, [(some 13), (some 14), (some 9)], (.seq (.reg [(p 10 (.box (.f 13))), (p 8 (.box (.f 14))), (p 4 (.mv q3))]) (.seq (.reg [(o (.ld true 4 (.f 10))), q510, (o (.call q116 [(.x 1), (.x 0)])), q492, (o q178), (o q179), (p 5 q254), (p 11 q254), (o q401), (o q401)]) (.seq (.seq (.reg [(o (.ld false 1 (.f 8))), q493, (o (.ld false 1 (.f 5))), q493, (p 12 q402)]) (.cond (.f 12) (.seq (.reg [(p 4 (.mv q3))]) .ret) .skip)) (.seq (.reg [(o (.mkf 116 [(.f 8)])), q509]) (.seq (.seq (.reg [q510, (p 7 q182), q501]) (.block 0 (.loop (.seq (.reg [(p 2 q403)]) (.seq (.cond (.f 2) .skip (.exit 0)) (.seq (.block 1 (.seq (.reg [q489, (p 1 q342), (o q205)]) (.seq (.reg [q499, (o (.mkf 117 [(.f 5), (.f 1)])), (o q275), (o q252), (p 3 q218)]) (.cond (.f 3) (.seq (.reg [(p 4 (.mv q3))]) .ret) .skip)))) (.reg [(o q197), q495]))))))) (.seq (.reg [q499, (o (.mkf 118 [(.f 11)])), (o q275), (o q213), (o q399), (o q185), q504]) .ret)))))), [(.p 4)]⟩
theorem c54_ok : FnOk Tryz.prog Bts 54 c54 := fn_ok (wm := true) (na := 3) Tryz.func54 (by kernel_rfl) (by kernel_rfl) (by kernel_rfl)
def c55 : FnC := ⟨false, 3, [(some 2)], (.seq (.reg [q512, q516]) (.seq (.reg [(o q210), (o q310), (o q211), (o (.call (.k (.t (.one (.c (.v (.func (.func 119) ⟨[]⟩ ⟨[]⟩)))))) [(.x 0)])), q497]) .ret)), [(.p 1)]⟩
theorem c55_ok : FnOk Tryz.prog Bts 55 c55 := fn_ok (wm := false) (na := 1) Tryz.func55 (by kernel_rfl) (by kernel_rfl) (by kernel_rfl)
def c56 : FnC := ⟨false, 9, [(some 6), (some 0)], (.seq (.reg [(p 1 q191), q536]) (.seq (.seq (.reg [q489, q493, (p 8 q185)]) (.cond (.f 8) (.seq (.reg [(o q456), (o q259), (p 2 (.mv q7))]) .ret) .skip)) (.seq (.reg [q499, q489, (o (.call q87 [(.x 1), (.x 0)])), q502]) (.seq (.reg [q499, q494, (o q404), q492, (o q178), (o q179), q582, q542]) (.seq (.reg [q489, q494, (o q404), q492, (o q178), (o q179), q538, q542]) (.seq (.reg [(o q287), q496, (o q209), (o q206), ⟨none, none, [3], q176⟩, q671, (p 5 q183), (o q198)]) (.seq (.reg [q503, (o q265), (o q343), q496, ⟨none, none, [1], q265⟩, (o q343), (o q457), (o q259), q536]) .ret))))))), [(.cell true 2 1), (.p 2)]⟩
theorem c56_ok : FnOk Tryz.prog Bts 56 c56 := fn_ok (wm := false) (na := 2) Tryz.func56 (by kernel_rfl) (by kernel_rfl) (by kernel_rfl)
def c57 : FnC := ⟨false, 8, [(some 6), (some 7)], (.seq (.reg [q564, (p 2 (.box (.f 7))), q559]) (.seq (.seq (.reg [q594]) (.block 0 (.loop (.seq (.seq (.reg [q489, (p 3 q203)]) (.cond (.f 3) .skip (.exit 0))) (.seq (.block 1 (.seq (.reg [q489, (o q405), (o q175), q489, (o q406), (o q175), (p 4 (.pk (.bin .neq) [(.x 3), (.x 0)]))]) (.cond (.f 4) (.seq (.reg [q489, (o q405), (o q175), q489, (o q406), (o q175), (o (.pk (.bin .gtr) [(.x 3), (.x 0)])), q507]) .ret) .skip))) (.reg [q489, (o q177), q495])))))) (.seq (.reg [q559]) .ret))), [(.p 5)]⟩
theorem c57_ok : FnOk Tryz.prog Bts 57 c57 := fn_ok (wm := false) (na := 2) Tryz.func57 (by kernel_rfl) (by kernel_rfl) (by kernel_rfl)
def c58 : FnC := ⟨false, 6, [(some 4), (some 5)], (.seq (.reg [q532, q529, (p 2 q183)]) (.seq (.reg [(o q186), (o q181), (o q231), (o q181), (o q278), (o q188), ⟨none, none, [1], q181⟩, (o q207), ⟨none, none, [3], q181⟩, (o q278), (o (.call (.k (.t (.one (.c (.v (.func (.func 124) ⟨[]⟩ ⟨[]⟩)))))) [(.x 5), (.x 0)])), (p 3 q196), (o q214)]) (.seq (.reg [(o q243), (o q207), (o q181), (o q231), (o q181), ⟨none, none, [4], q278⟩, q672, (o q235)]) .ret))), [(.cell true 4 2)]⟩
theorem c58_ok : FnOk Tryz.prog Bts 58 c58 := fn_ok (wm := false) (na := 2) Tryz.func58 (by kernel_rfl) (by kernel_rfl) (by kernel_rfl)
def c59 : FnC := ⟨false, 10, [(some 5), (some 9)], (.seq (.reg [(p 3 (.box (.f 9))), q583]) (.seq (.reg [(o q236), q509]) (.seq (.seq (.reg [q530]) (.block 0 (.loop (.seq (.seq (.reg [q496, q498, q493, (o q204), q492, ⟨(some (0, true)), none, [], (.off 4 (.f 3))⟩, q624, ⟨(some (2, true)), none, [], q289⟩, ⟨(some (3, true)), none, [], q218⟩, (p 7 q264)]) (.cond (.f 7) .skip (.exit 0))) (.seq (.block 1 (.seq (.reg [q498, q496, (o q184), (o q192), (o q176), (p 1 q407), (o q198)]) (.seq (.seq (.reg [q501]) (.block 2 (.loop (.seq (.seq (.reg [q489, (p 2 q408)]) (.cond (.f 2) .skip (.exit 2))) (.seq (.block 3 (.reg [q489, (o q405), (o q175), q489, (o q306), (o q227), (o q175), (o q317), (o (.ixR 4 1 (.f 1) (.x 7))), (o q205)])) (.reg [q489, (o q182), q495])))))) (.reg [q499, (o q219), q498, q496, (o q184), (o q206), (o q176), (o (.off 4 (.f 3))), (o q176), ⟨none, none, [7], (.call (.k (.t (.one (.c (.v (.func (.func 127) ⟨[]⟩ ⟨[]⟩)))))) [(.x 2), (.x 0)])⟩, (o (.bld [(.c (.v (.int .i64 (Int.ofNat 0)))), (.c (.v (.int .i64 (Int.ofNat 0)))), (.c (.v (.int .i64 (Int.ofNat 0)))), (.c (.v (.int .i64 (Int.ofNat 0)))), (.c (.v (.bool false))), (.c (.v (.slice none 0 0))), (.c (.v (.bool false))), (.c (.v (.slice none 0 0)))] [(0, 4), (4, 4)] [0, 1] [(.x 8), (.x 0)])), (o q211), (o (.app 8 96 (.x 11) (.x 0))), q509])))) (.reg [q496, (o q182), q504])))))) (.seq (.reg [q499, q514]) .ret)))), [(.p 8)]⟩
theorem c59_ok : FnOk Tryz.prog Bts 59 c59 := fn_ok (wm := false) (na := 2) Tryz.func59 (by kernel_rfl) (by kernel_rfl) (by kernel_rfl)
def c60 : FnC := ⟨false, 1, [], (.seq (.reg [q515]) (.seq (.reg [(o q287), (o q334), q495]) .ret)), [(.p 0)]⟩
theorem c60_ok : FnOk Tryz.prog Bts 60 c60 := fn_ok (wm := false) (na := 0) Tryz.func60 (by kernel_rfl) (by kernel_rfl) (by kernel_rfl)
def c61 : FnC := ⟨false, 9, [(some 8), (some 6)], (.seq (.reg [q537]) (.seq (.reg [(p 1 (.mv q11))]) (.seq (.seq (.reg [(p 4 (.mv (.f 8))), q579, q501]) (.block 0 (.loop (.seq (.reg [(p 3 q311)]) (.seq (.cond (.f 3) .skip (.exit 0)) (.seq (.block 1 (.seq (.reg [(o (.ixS 8 (.f 4) (.f 0))), (o q180), (p 2 q220), (o q226)]) (.reg [q490, q499, (o (.off 0 (.f 2))), (o q227), (o q175), (o q390), q497]))) (.reg [(o q197), q495]))))))) (.seq (.reg [q490, q521]) .ret)))), [(.p 7)]⟩
theorem c61_ok : FnOk Tryz.prog Bts 61 c61 := fn_ok (wm := false) (na := 2) Tryz.func61 (by kernel_rfl) (by kernel_rfl) (by kernel_rfl)
def c62 : FnC := ⟨false, 9, [(some 8)], (.seq (.reg [q531, q537]) (.seq (.reg [q515]) (.seq (.seq (.reg [q506, q493, (o q177), q502]) (.block 0 (.loop (.seq (.seq (.reg [q494, (p 4 q203)]) (.cond (.f 4) .skip (.exit 0))) (.seq (.block 1 (.seq (.reg [q506, q494, (o q184), (o q180), (p 1 q220), (o q226)]) (.seq (.seq (.reg [(o q188), (o q176), (o q188), (o (.ixR 4 1 (.x 0) q0)), (o q175), (o q458), (p 5 (.pk (.neA 4) [(.x 4), (.x 0)]))]) (.cond (.f 5) (.seq (.reg [q531, (p 7 (.mv q33))]) .ret) .skip)) (.seq (.block 2 (.loop (.seq (.seq (.reg [q489, q493, (o q188), (o (.ixR 4 1 (.x 0) q0)), (o q175), (p 2 q409)]) (.cond (.f 2) .skip (.exit 2))) (.block 3 (.reg [q489, (o q244), (o q234), (o (.app 4 64 (.x 2) (.x 0))), q495]))))) (.reg [q489, (o q245), (o q176), (o q234), (o (.app 4 64 (.x 3) (.x 0))), q495]))))) (.reg [q494, (o q177), q502])))))) (.seq (.reg [q489, (o q291), q509, q537]) .ret)))), [(.p 6), (.p 7)]⟩
theorem c62_ok : FnOk Tryz.prog Bts 62 c62 := fn_ok (wm := false) (na := 1) Tryz.func62 (by kernel_rfl) (by kernel_rfl) (by kernel_rfl)
def c63 : FnC := ⟨true, 6, [(some 4), (some 1)], (.seq (.reg [(o q188), (o q175), (o q217), (o q175), q496, ⟨none, none, [3], (.call q89 [(.x 1), (.x 0)])⟩, (o (.call q135 [(.x 4), (.x 0)])), q500]) (.seq (.reg [(o q188), (o q175), q491, (o q410), q492, (o q178), (o q179), (o q225), (o q188), (o q344)]) (.seq (.reg [(o q217), (o q175), q491, q496, (o (.pk .neg [(.x 0)])), ⟨none, none, [3], (.call q89 [(.x 2), (.x 0)])⟩, q673, q492, (o q178), (o q179), (o q225), (o q217), (o q344)]) (.seq (.seq (.reg [q491, q493, (p 5 q261)]) (.cond (.f 5) .ret .skip)) (.seq (.reg [(p 0 (.mv q1))]) (.block 0 (.loop (.seq (.seq (.reg [q489, q496, (p 3 q279)]) (.cond (.f 3) .skip (.exit 0))) (.seq (.block 1 (.reg [(o q231), (o q175), q491, q489, (o (.pk .neg [(.x 0)])), ⟨none, none, [3], (.call q89 [(.x 2), (.x 0)])⟩, (o (.call q51 [(.x 4), (.x 0)])), (o q231), (o q205)])) (.reg [q489, (o q182), q495])))))))))), []⟩
theorem c63_ok : FnOk Tryz.prog Bts 63 c63 := fn_ok (wm := true) (na := 2) Tryz.func63 (by kernel_rfl) (by kernel_rfl) (by kernel_rfl)
def c64 : FnC := ⟨false, 5, [(some 1), (some 0)], (.seq (.reg [q560]) (.seq (.block 0 (.loop (.seq (.seq (.reg [q489, q493, (p 3 q195)]) (.cond (.f 3) .skip (.exit 0))) (.block 1 (.seq (.reg [q490, q489, (o q410), q492, (o q178), (o q179), (o q225), q523, q553, q523]) (.reg [q489, q491, q519, q524])))))) (.seq (.reg [q490, (o (.call (.k (.t (.one (.c (.v (.func (.func 128) ⟨[]⟩ ⟨[]⟩)))))) [(.x 0)])), q504]) .ret))), [(.p 4)]⟩
theorem c64_ok : FnOk Tryz.prog Bts 64 c64 := fn_ok (wm := false) (na := 2) Tryz.func64 (by kernel_rfl) (by kernel_rfl) (by kernel_rfl)
def c65 : FnC := ⟨false, 3, [(some 1), (some 2)], (.seq (.reg [q515]) (.seq (.reg [q490, q491, (o q308), (o (.call q82 [(.x 2), (.x 0)])), q495]) .ret)), [(.p 0)]⟩
theorem c65_ok : FnOk Tryz.prog Bts 65 c65 := fn_ok (wm := false) (na := 2) Tryz.func65 (by kernel_rfl) (by kernel_rfl) (by kernel_rfl)
def c66 : FnC := ⟨false, 17, [(some 11), (some 9)], (.seq (.reg [q557, q584, (p 14 (.mv q0))]) (.seq (.seq (.reg [q510, q493, (p 15 q185)]) (.cond (.f 15) (.seq (.reg [q557, q584, (p 14 (.mv q7))]) .ret) .skip)) (.seq (.seq (.reg [q508, q493, q510, q493, (p 16 q204)]) (.cond (.f 16) (.seq (.reg [q508, q557, q556, (p 14 (.mv q0))]) .ret) .skip)) (.seq (.reg [q508, (o (.call q136 [(.x 0)])), q502]) (.seq (.reg [q508, q493, q510, q493, (o q345), (o q182), (o q411), q509]) (.seq (.seq (.reg [q499, q493, (o q177), q497]) (.block 0 (.loop (.seq (.seq (.reg [q490, (p 10 q203)]) (.cond (.f 10) .skip (.exit 0))) (.seq (.block 1 (.seq (.reg [q499, q490, q494, q490, q510, q493, (o q253), (o q177), (o (.ixS 4 (.x 5) (.x 0))), (o q176), q510, ⟨none, none, [1], (.call q137 [(.x 0)])⟩, q674, (o (.ixS 4 (.x 12) (.x 11))), (o q198)]) (.seq (.reg [(p 7 (.mv (.f 9))), q562, q501]) (.block 2 (.loop (.seq (.reg [(p 5 q314)]) (.seq (.cond (.f 5) .skip (.exit 2)) (.seq (.block 3 (.seq (.reg [q489, (o (.ixS 4 (.f 7) (.f 0))), (o q176), (p 4 q183), q563, (o q297)]) (.reg [q494, q490, q491, (o q200), q494, q490, q491, (o q200), (o q340), (o q176), q499, q490, (o q212), (o q176), (o q266), ⟨none, none, [5], q277⟩, q675, (o (.ixS 4 (.x 16) (.x 13))), (o q198)]))) (.reg [(o q197), q495]))))))))) (.reg [q490, (o q177), q497])))))) (.seq (.reg [q499, (o q291), q494, (o q291), q611, q556, (p 14 (.mv q0))]) .ret))))))), [(.p 12), (.p 13), (.p 14)]⟩
theorem c66_ok : FnOk Tryz.prog Bts 66 c66 := fn_ok (wm := false) (na := 2) Tryz.func66 (by kernel_rfl) (by kernel_rfl) (by kernel_rfl)
def c67 : FnC := ⟨false, 19, [(some 11), (some 12)], (.seq (.reg [q539, q602]) (.seq (.seq (.reg [q508, q493, (o q185), q492, q676, q598, q619, (p 17 q295)]) (.cond (.f 17) (.seq (.reg [q539, (p 10 (.mv q7))]) .ret) .skip)) (.seq (.seq (.reg [q508, q493, (o q261), q492, q676, q598, ⟨(some (2, false)), none, [], q261⟩, (p 18 q295)]) (.cond (.f 18) (.seq (.reg [q539, q602]) .ret) .skip)) (.seq (.reg [(o (.call q90 [q0])), (o (.call q90 [q1])), q556, q617]) (.seq (.reg [q508, (o q396), q520, (o q396), q526, q528, q677, (o (.call q139 [(.x 3), q0, (.x 0)])), (o (.call (.k (.t (.one (.c (.v (.func (.func 133) ⟨[]⟩ ⟨[]⟩)))))) [(.x 6), (.x 0), q0])), q561]) (.seq (.reg [q596, q526, (o (.call q139 [(.x 1), q1, (.x 0)])), (o q391), q492, (o q178), (o q179), q618, q542]) (.seq (.reg [q543]) (.seq (.seq (.reg [(o (.mv (.f 16))), (p 7 (.call (.k (.t (.one (.c (.v (.func (.func 136) ⟨[]⟩ ⟨[]⟩)))))) [(.x 0)])), q562, q501]) (.block 0 (.loop (.seq (.reg [(p 5 q314)]) (.seq (.cond (.f 5) .skip (.exit 0)) (.seq (.block 1 (.seq (.reg [(o (.ixS 2 (.f 7) (.f 0))), (o q181), (p 3 q196), (o q214)]) (.seq (.reg [(o q243), (o (.call (.k (.t (.one (.c (.v (.func (.func 137) ⟨[]⟩ ⟨[]⟩)))))) [(.x 0)])), q492, (o q178), (o q179), q519, q538]) (.seq (.reg [q496, q492, q603, ⟨(some (1, true)), none, [], q203⟩, (o q215), q492, q603, ⟨(some (1, true)), none, [], (.pk (.bin .lss) [(.x 0), (.k (.t (.one (.c (.v (.int .i64 (Int.ofNat 4611686018427387904)))))))])⟩, (p 6 q215)]) (.cond (.f 6) (.reg [q491, q490, (o q459), (o (.app 1 8 (.x 2) (.x 0))), q500]) .skip))))) (.reg [(o q197), q495]))))))) (.seq (.reg [q491, q517, q602]) .ret))))))))), [(.p 9), (.p 10)]⟩
theorem c67_ok : FnOk Tryz.prog Bts 67 c67 := fn_ok (wm := false) (na := 2) Tryz.func67 (by kernel_rfl) (by kernel_rfl) (by kernel_rfl)
def c68 : FnC := ⟨false, 2, [(some 1)], (.seq (.reg [q515]) (.seq (.reg [(o q244), (o q234), q490, (o (.call (.k (.t (.one (.c (.v (.func (.func 138) ⟨[]⟩ ⟨[]⟩)))))) [(.x 1), (.x 0)])), (o q213), (o q234), (o (.app 4 64 (.x 2) (.x 0))), q495]) .ret)), [(.p 0)]⟩
theorem c68_ok : FnOk Tryz.prog Bts 68 c68 := fn_ok (wm := false) (na := 1) Tryz.func68 (by kernel_rfl) (by kernel_rfl) (by kernel_rfl)
def c69 : FnC := ⟨true, 4, [(some 2), (some 3)], (.seq (.reg [q512, q518]) (.seq (.reg [(o q207), (o q175), q493, (o q177), q494, (o q210), ⟨none, none, [4], (.call q122 [(.x 0)])⟩, (o q253), (o q390), (o q182), q497]) .ret)), [(.p 1)]⟩
theorem c69_ok : FnOk Tryz.prog Bts 69 c69 := fn_ok (wm := true) (na := 2) Tryz.func69 (by kernel_rfl) (by kernel_rfl) (by kernel_rfl)
def c70 : FnC := ⟨false, 4, [(some 2), (some 0)], (.seq (.reg [(p 1 q183)]) (.seq (.seq (.reg [q489, (o q201), q492, q650, q651, q577, ⟨(some (3, false)), none, [], q412⟩, (p 3 q274)]) (.cond (.f 3) (.seq (.reg [(o q244), (o q228)]) .ret) .skip)) (.seq (.reg [q491, q489, (o q212), (o q176), (o q228)]) .ret))), [(.cell true 4 1)]⟩
theorem c70_ok : FnOk Tryz.prog Bts 70 c70 := fn_ok (wm := false) (na := 2) Tryz.func70 (by kernel_rfl) (by kernel_rfl) (by kernel_rfl)
def c71 : FnC := ⟨false, 11, [(some 9), (some 10)], (.seq (.reg [(p 4 q333), q583]) (.seq (.reg [q510, (o (.call q136 [(.x 0)])), q497]) (.seq (.seq (.reg [q490, q625, q604]) (.block 0 (.loop (.seq (.reg [(p 6 (.pk (.bin .lss) [(.f 5), (.f 7)]))]) (.seq (.cond (.f 6) .skip (.exit 0)) (.seq (.block 1 (.seq (.reg [q498, q502]) (.seq (.reg [q490, q493, (o (.pk (.bin .sub) [(.x 0), q10])), q495]) (.block 2 (.loop (.seq (.seq (.reg [q489, q494, (p 2 q280)]) (.cond (.f 2) .skip (.exit 2))) (.seq (.block 3 (.reg [q490, q489, q490, q489, (o q212), (o q176), (o q266), q490, q489, (o q182), (o q341), (o q176), ⟨none, none, [6], (.call q12 [(.x 5), (.x 0)])⟩, (o (.call q27 [(.x 7), (.x 0)])), (o (.ixS 4 (.x 13) (.x 12))), (o q198)])) (.reg [q489, (o q177), q495])))))))) (.reg [q678, q507]))))))) (.seq (.reg [q490, q514]) .ret)))), [(.p 8)]⟩
theorem c71_ok : FnOk Tryz.prog Bts 71 c71 := fn_ok (wm := false) (na := 2) Tryz.func71 (by kernel_rfl) (by kernel_rfl) (by kernel_rfl)
def c72 : FnC := ⟨false, 3, [(some 2)], (.seq (.reg [q512, (p 1 q183)]) (.seq (.reg [(o q186), (o q181), (o q318), (o q207), ⟨none, none, [1], q181⟩, (o q460), (o q228)]) .ret)), [(.cell true 4 1)]⟩
theorem c72_ok : FnOk Tryz.prog Bts 72 c72 := fn_ok (wm := false) (na := 1) Tryz.func72 (by kernel_rfl) (by kernel_rfl) (by kernel_rfl)
def c73 : FnC := ⟨true, 4, [(some 0), (some 1), (some 3)], (.seq (.reg [q543]) (.seq (.reg [(o q188), (o q175), q489, (o q202), ⟨none, none, [2], (.call q82 [(.x 1), (.x 0)])⟩, (o (.call q51 [(.x 3), (.x 0)])), (o q217), ⟨none, none, [1, 2], q175⟩, q489, (o (.call q51 [(.x 1), (.x 0)])), (o (.call (.k (.t (.one (.c (.v (.func (.func 74) ⟨[]⟩ ⟨[]⟩)))))) [(.x 4), (.x 0)])), q500]) .ret)), [(.p 2)]⟩
theorem c73_ok : FnOk Tryz.prog Bts 73 c73 := fn_ok (wm := true) (na := 3) Tryz.func73 (by kernel_rfl) (by kernel_rfl) (by kernel_rfl)
def c74 : FnC := ⟨false, 5, [(some 3), (some 4)], (.seq (.reg [q511, q513, q543]) (.seq (.reg [(o q240), q493, (o q255), q493, (o (.pk .max [(.x 2), (.x 0)])), (o (.mkf 141 [(.f 0), (.f 1)])), (o q413), q500]) .ret)), [(.p 2)]⟩
theorem c74_ok : FnOk Tryz.prog Bts 74 c74 := fn_ok (wm := false) (na := 2) Tryz.func74 (by kernel_rfl) (by kernel_rfl) (by kernel_rfl)
def c75 : FnC := ⟨true, 3, [(some 2)], (.seq (.reg [q512, q518]) (.seq (.reg [(o q186), (o q175), q493, (o q193), (o q175), q493, (o (.pk .max [(.x 3), (.x 0)])), (o q177), q497]) .ret)), [(.p 1)]⟩
theorem c75_ok : FnOk Tryz.prog Bts 75 c75 := fn_ok (wm := true) (na := 1) Tryz.func75 (by kernel_rfl) (by kernel_rfl) (by kernel_rfl)
def c76 : FnC := ⟨false, 5, [(some 3), (some 4)], (.seq (.reg [q511, q513, q536]) (.seq (.reg [(o q186), (o q181), (o q231), (o q181), (o q238), (o q239), (o q188), ⟨none, none, [1], q181⟩, (o q207), ⟨none, none, [3], q181⟩, (o q238), (o q239), (o (.call q57 [(.x 6), (.x 0)])), q500]) .ret)), [(.p 2)]⟩
theorem c76_ok : FnOk Tryz.prog Bts 76 c76 := fn_ok (wm := false) (na := 2) Tryz.func76 (by kernel_rfl) (by kernel_rfl) (by kernel_rfl)
def c77 : FnC := ⟨false, 6, [(some 4), (some 5)], (.seq (.reg [q532, q529, (p 2 q183)]) (.seq (.reg [(o q210), (o q219), (o q414), q492, (o q178), (o q179), (p 3 q183), (o q216), q523]) (.seq (.reg [(o q202), (o q235)]) .ret))), [(.cell true 4 2)]⟩
theorem c77_ok : FnOk Tryz.prog Bts 77 c77 := fn_ok (wm := false) (na := 2) Tryz.func77 (by kernel_rfl) (by kernel_rfl) (by kernel_rfl)
def c78 : FnC := ⟨false, 5, [(some 3), (some 4)], (.seq (.reg [q511, q513, (p 2 q183)]) (.seq (.reg [(o q186), (o q181), (o q231), (o q181), (o q238), (o q239), (o q188), ⟨none, none, [1], q181⟩, (o q207), ⟨none, none, [3], q181⟩, (o q238), (o q239), (o (.call q140 [(.x 6), (.x 0)])), (o q207), ⟨none, none, [1, 2, 8], q181⟩, (o q231), ⟨none, none, [3, 4, 10], q181⟩, (o q238), (o q239), (o q398), (o q235)]) .ret)), [(.cell true 4 2)]⟩
theorem c78_ok : FnOk Tryz.prog Bts 78 c78 := fn_ok (wm := false) (na := 2) Tryz.func78 (by kernel_rfl) (by kernel_rfl) (by kernel_rfl)
def c79 : FnC := ⟨false, 6, [(some 5)], (.seq (.reg [(p 2 (.box (.f 5))), q518]) (.seq (.reg [(o q271), (o (.call q141 [(.x 0)])), (p 0 q196), (o q214)]) (.seq (.seq (.reg [(o q186), (o q175), q492, q679, q589, q577, ⟨(some (3, false)), none, [], (.pk (.bin .gtr) [(.x 0), q1])⟩, (o q274), q492, q679, q589, q577, ⟨(some (3, false)), none, [], q261⟩, q652, q565, q522, ⟨(some (2, true)), none, [], q346⟩, q601, ⟨(some (4, true)), none, [], (.pk (.bin .gtr) [(.x 0), (.k (.t (.one (.c (.v (.int .u32 (Int.ofNat 1048576)))))))])⟩, ⟨(some (10, false)), none, [], q315⟩, (p 3 (.pick (.x 11) q4 (.x 0)))]) (.cond (.f 3) (.seq (.reg [(p 1 (.mv q11))]) .ret) .skip)) (.seq (.seq (.reg [(o q193), (o q175), q493, (p 4 q185)]) (.cond (.f 4) (.seq (.reg [q518]) .ret) .skip)) (.seq (.reg [(o q193), (o q175), (o q346), (o q175), (o q257), q497]) .ret))))), [(.p 1)]⟩
theorem c79_ok : FnOk Tryz.prog Bts 79 c79 := fn_ok (wm := false) (na := 1) Tryz.func79 (by kernel_rfl) (by kernel_rfl) (by kernel_rfl)
def c80 : FnC := ⟨false, 3, [(some 1)], (.seq (.reg [q501]) (.seq (.seq (.reg [q490, q493, (p 2 q185)]) (.cond (.f 2) (.seq (.reg [q501]) .ret) .skip)) (.seq (.reg [q490, (o q346), (o q175), q493, q495]) .ret))), [(.p 0)]⟩
theorem c80_ok : FnOk Tryz.prog Bts 80 c80 := fn_ok (wm := false) (na := 1) Tryz.func80 (by kernel_rfl) (by kernel_rfl) (by kernel_rfl)
def c81 : FnC := ⟨true, 2, [(some 1)], (.seq (.reg [q515]) (.seq (.reg [(o q244), (o q234), q490, (o (.call q125 [(.x 1), (.x 0)])), q495]) .ret)), [(.p 0)]⟩
theorem c81_ok : FnOk Tryz.prog Bts 81 c81 := fn_ok (wm := true) (na := 1) Tryz.func81 (by kernel_rfl) (by kernel_rfl) (by kernel_rfl)
def c82 : FnC := ⟨false, 15, [(some 13)], (.seq (.reg [(p 14 (.mv q2))]) (.seq (.reg [q536]) (.seq (.seq (.reg [(p 9 (.mv (.f 13))), (p 10 (.len (.x 0))), q501]) (.block 0 (.loop (.seq (.reg [(p 6 (.pk (.bin .lss) [(.f 0), (.f 10)]))]) (.seq (.cond (.f 6) .skip (.exit 0)) (.seq (.block 1 (.seq (.reg [(o (.ixS 1 (.f 9) (.f 0))), (o q175), q504]) (.seq (.reg [q491, q496, q493, (o q253), q500]) (.seq (.reg [q491, (p 7 q201)]) (.cond (.f 7) (.reg [(o .bad), (o .bad)]) .skip))))) (.reg [(o q197), q495]))))))) (.seq (.reg [q491, (o (.call (.k (.t (.one (.c (.v (.func (.func 145) ⟨[]⟩ ⟨[]⟩)))))) [q2, (.x 0)])), q502]) (.seq (.seq (.reg [(p 11 (.mv (.f 13))), q626, q518]) (.block 2 (.loop (.seq (.reg [(p 8 (.pk (.bin .lss) [(.f 1), (.f 12)]))]) (.seq (.cond (.f 8) .skip (.exit 2)) (.seq (.block 3 (.seq (.reg [(o (.ixS 1 (.f 11) (.f 1))), (o q175), q507]) (.reg [q494, q498, (o q415), q502]))) (.reg [(o q416), q497]))))))) (.seq (.reg [q494, q572]) .ret)))))), [(.p 14)]⟩
theorem c82_ok : FnOk Tryz.prog Bts 82 c82 := fn_ok (wm := false) (na := 1) Tryz.func82 (by kernel_rfl) (by kernel_rfl) (by kernel_rfl)
def c83 : FnC := ⟨true, 18, [(some 16), (some 17)], (.seq (.reg [(p 15 (.mv (.k (.t (.one (.c (.v (.pointer none))))))))]) (.scope (.seq (.reg [(o q213), (o (.bld [(.c (.v (.slice none 0 0))), (.c (.v (.slice none 0 0))), (.c (.v (.bool false))), (.c (.v (.slice none 0 0))), (.c (.v (.bool false))), (.c (.v (.slice none 0 0)))] [(0, 1), (1, 1), (2, 4)] [2] [(.x 0)])), (o (.box (.x 0))), q497]) (.seq (.seq (.reg [(p 12 (.mv (.f 16))), (p 13 (.len (.x 0))), q546]) (.block 0 (.loop (.seq (.reg [(p 9 q452)]) (.seq (.cond (.f 9) .skip (.exit 0)) (.seq (.block 1 (.seq (.reg [(o (.ixS 1 (.f 12) (.f 6))), (o q175), q514]) (.reg [q490, q490, (o q199), (o q192), (o q175), q506, ⟨none, none, [1], (.call q124 [(.x 0)])⟩, (o q296), (o (.app 1 24 (.x 3) (.x 0))), (o (.nilc (.x 8))), (o q192), (o q298)]))) (.reg [(o q395), q509]))))))) (.seq .skip (.seq (.seq (.reg [(p 14 (.mv (.f 17))), q537]) (.block 2 (.loop (.seq (.reg [(p 10 (.pk (.bin .lss) [(.f 7), (.f 14)]))]) (.seq (.cond (.f 10) .skip (.exit 2)) (.seq (.block 3 (.seq (.reg [q503, q504]) (.seq (.reg [q490, (o q199), (o q313), (o q175), q493, q507]) (.seq (.reg [q498, q495]) (.seq (.block 4 (.loop (.block 5 (.seq (.seq (.reg [q489, q490, (o q199), (o q192), (o q175), q493, (p 2 (.pk (.bin .eql) [(.x 5), (.x 0)]))]) (.cond (.f 2) (.exit 3) .skip)) (.seq (.seq (.reg [q490, (o q199), (o q192), (o q175), q489, (o q190), (o q175), q496, (o q212), (o q176), (o q252), (p 3 q218)]) (.cond (.f 3) (.exit 4) .skip)) (.reg [q489, (o q182), q495])))))) (.seq (.seq (.reg [q489, q498, (p 11 q299)]) (.cond (.f 11) (.seq (.reg [q490, (o q199), (o q192), (o q175), q498, q490, (o q199), (o q192), (o q175), q489, q490, (o q199), (o q192), (o q175), q489, (o q190), (o q175), q490, (o q199), (o q192), (o q175), q498, (o q190), (o q175), (o (.ixS 1 (.x 20) (.x 19))), (o (.sto 1 (.x 0) (.x 8))), (o (.ixS 1 (.x 17) (.x 16))), (o q344)]) (.reg [q490, q490, (o q199), (o q300), (o q176), (o q394), (o (.nilc (.x 5))), (o q300), (o q216)])) .skip)) (.reg [q490, q498, q496, (o (.call (.k (.t (.one (.c (.v (.func (.func 146) ⟨[]⟩ ⟨[]⟩)))))) [(.x 2), (.x 1), (.x 0)]))]))))))) (.reg [q664, q521]))))))) (.seq (.reg [q490, q561]) .ret))))))), [(.p 15)]⟩
theorem c83_ok : FnOk Tryz.prog Bts 83 c83 := fn_ok (wm := true) (na := 2) Tryz.func83 (by kernel_rfl) (by kernel_rfl) (by kernel_rfl)
def c84 : FnC := ⟨false, 3, [(some 2)], (.seq (.reg [q512, q518]) (.seq (.reg [(o q186), (o q181), (o q316), q497]) .ret)), [(.p 1)]⟩
theorem c84_ok : FnOk Tryz.prog Bts 84 c84 := fn_ok (wm := false) (na := 1) Tryz.func84 (by kernel_rfl) (by kernel_rfl) (by kernel_rfl)
def c85 : FnC := ⟨true, 3, [(some 1)], (.seq (.reg [q515]) (.seq (.seq (.reg [q490, (p 2 q347)]) (.cond (.f 2) (.seq (.reg [q515]) .ret) .skip)) (.seq (.reg [(o q332), q490, (o q415), q495]) .ret))), [(.p 0)]⟩
theorem c85_ok : FnOk Tryz.prog Bts 85 c85 := fn_ok (wm := true) (na := 1) Tryz.func85 (by kernel_rfl) (by kernel_rfl) (by kernel_rfl)
def c86 : FnC := ⟨false, 6, [(some 4), (some 5)], (.seq (.reg [q532, q529, (p 2 q183), q527]) (.seq (.reg [(o q186), (o q181), (o q231), (o q181), (o q238), (o q239), (o q207), ⟨none, none, [1], q181⟩, (o q188), ⟨none, none, [3], q181⟩, (o q238), (o q239), (o (.call (.k (.t (.one (.c (.v (.func (.func 147) ⟨[]⟩ ⟨[]⟩)))))) [(.x 6), (.x 0)])), (o q178), (o q179), (o (.sto 4 (.f 2) (.x 1))), q525]) .ret)), [(.cell true 4 2), (.p 3)]⟩
theorem c86_ok : FnOk Tryz.prog Bts 86 c86 := fn_ok (wm := false) (na := 2) Tryz.func86 (by kernel_rfl) (by kernel_rfl) (by kernel_rfl)
def c87 : FnC := ⟨false, 8, [(some 1), (some 0)], (.seq (.reg [(p 2 q191), q527]) (.seq (.seq (.reg [q489, q493, (p 6 q185)]) (.cond (.f 6) (.seq (.reg [(o q456), (o q230), (p 3 (.mv q7))]) .ret) .skip)) (.seq (.seq (.reg [q490, q493, (p 7 q185)]) (.cond (.f 7) (.seq (.reg [(o (.call q86 [])), (o (.bld [(.c (.v (.slice none 0 0))), (.c (.v (.slice none 0 0)))] [(0, 1), (1, 1)] [1] [(.x 0)])), (o q230), q527]) .ret) .skip)) (.seq (.reg [q490, q489, (o q348), q504]) (.seq (.reg [q490, q496, (o q349), q492, (o q178), (o q179), q519]) (.seq (.reg [q489, q496, (o q349), q492, (o q178), (o q179), q524]) (.seq (.reg [(o q213), q489, (o q209), (o q206), ⟨none, none, [3], q176⟩, (o q338), (o q178), (o q179), (o (.call (.k (.t (.one (.c (.v (.func (.func 149) ⟨[]⟩ ⟨[]⟩)))))) [(.x 1), (.x 0)])), (p 5 q183), (o q198)]) (.seq (.reg [q490, (o q265), (o q350), q489, ⟨none, none, [1], q265⟩, (o q350), (o q457), (o q230), q527]) .ret)))))))), [(.cell true 2 2), (.p 3)]⟩
theorem c87_ok : FnOk Tryz.prog Bts 87 c87 := fn_ok (wm := false) (na := 2) Tryz.func87 (by kernel_rfl) (by kernel_rfl) (by kernel_rfl)
def c88 : FnC := ⟨false, 18, [(some 17), (some 15)], (.seq (.reg [(p 16 (.mv q2))]) (.seq (.reg [(o .mkm), q547]) (.seq (.seq (.reg [(p 13 (.mv (.f 17))), (p 14 (.len (.x 0))), (p 11 (.mv q0))]) (.block 0 (.loop (.seq (.reg [(p 12 (.pk (.bin .lss) [(.f 11), (.f 14)]))]) (.seq (.cond (.f 12) .skip (.exit 0)) (.seq (.block 1 (.seq (.reg [(o (.ixS 8 (.f 13) (.f 11))), (o q180), (p 6 q220), (o q226)]) (.seq (.reg [(p 8 (.mv (.f 15))), q581, q604]) (.block 2 (.loop (.seq (.reg [(p 7 (.pk (.bin .lss) [(.f 5), (.f 9)]))]) (.seq (.cond (.f 7) .skip (.exit 2)) (.seq (.block 3 (.seq (.reg [(o (.ixS 8 (.f 8) (.f 5))), (o q180), (p 4 q220), (o q226)]) (.seq (.reg [(o (.off 0 (.f 6))), (o q176), (p 2 q407), (o q198)]) (.seq (.seq (.reg [q501]) (.block 4 (.loop (.seq (.reg [(p 3 q417)]) (.seq (.cond (.f 3) .skip (.exit 4)) (.seq (.block 5 (.seq (.reg [q489, q497]) (.reg [q490, (o q406), (o q175), q490, (o (.off 0 (.f 4))), (o q227), (o q175), (o q317), (o (.ixR 4 1 (.f 2) (.x 7))), (o q205)]))) (.reg [(o q197), q495]))))))) (.reg [q505, (o q271), (o (.off 4 (.f 6))), (o q176), (o (.off 4 (.f 4))), (o q176), ⟨none, none, [4], (.call q12 [(.x 2), (.x 0)])⟩, (o (.call q60 [(.x 6), (.x 5), (.x 0)]))]))))) (.reg [q678, q507]))))))))) (.reg [(o q461), q558]))))))) (.seq (.reg [q505, (o q351), q616]) .ret)))), [(.p 16)]⟩
theorem c88_ok : FnOk Tryz.prog Bts 88 c88 := fn_ok (wm := false) (na := 2) Tryz.func88 (by kernel_rfl) (by kernel_rfl) (by kernel_rfl)
def c89 : FnC := ⟨false, 2, [(some 1)], (.seq (.reg [(p 0 q191)]) (.seq (.reg [q490, (o (.call q86 [])), (o q449), (o q242)]) .ret)), [(.cell true 2 0)]⟩
theorem c89_ok : FnOk Tryz.prog Bts 89 c89 := fn_ok (wm := false) (na := 1) Tryz.func89 (by kernel_rfl) (by kernel_rfl) (by kernel_rfl)
def c90 : FnC := ⟨false, 9, [(some 8)], (.seq (.reg [q580]) (.seq (.reg [q516]) (.seq (.seq (.reg [(p 5 (.mv (.f 8))), q548, q501]) (.block 0 (.loop (.seq (.reg [(p 4 q276)]) (.seq (.cond (.f 4) .skip (.exit 0)) (.seq (.block 1 (.seq (.reg [q489, (o (.ixS 4 (.f 5) (.f 0))), (o q176), (p 3 q183), q563, (o q297)]) (.reg [q490, q491, (o q458), (o q202), (o q336), (o q211), (o q389), q497]))) (.reg [(o q197), q495]))))))) (.seq (.reg [q490, (o (.call (.k (.t (.one (.c (.v (.func (.func 153) ⟨[]⟩ ⟨[]⟩)))))) [(.x 0)])), q521]) .ret)))), [(.p 7)]⟩
theorem c90_ok : FnOk Tryz.prog Bts 90 c90 := fn_ok (wm := false) (na := 1) Tryz.func90 (by kernel_rfl) (by kernel_rfl) (by kernel_rfl)
def c91 : FnC := ⟨true, 10, [(some 4), (some 5)], (.seq (.reg [q531]) (.seq (.seq (.reg [q498, (p 8 q201)]) (.cond (.f 8) (.reg [(o .bad), (o .bad)]) .skip)) (.seq (.reg [q496, q493, (o q221), q498, (o q221), q680, q492, (o q178), (o q179), q582, q525]) (.seq (.seq (.reg [q503, (o q352), q492, q681, q682, (p 9 q294)]) (.cond (.f 9) (.reg [(o .bad), (o .bad)]) .skip)) (.seq (.reg [q494, (o q257), (o q411), q497]) (.seq (.reg [q490, q496, (o (.cpy 4 (.x 1) (.x 0))), q495]) (.seq (.block 0 (.loop (.seq (.seq (.reg [q489, q490, q493, (p 2 q204)]) (.cond (.f 2) .skip (.exit 0))) (.block 1 (.reg [q489, q490, q489, (o q463), q490, q489, (o q464), (o (.cpy 4 (.x 3) (.x 0))), (o q418), q495]))))) (.seq (.reg [q490, q509]) .ret)))))))), [(.p 6)]⟩
theorem c91_ok : FnOk Tryz.prog Bts 91 c91 := fn_ok (wm := true) (na := 2) Tryz.func91 (by kernel_rfl) (by kernel_rfl) (by kernel_rfl)
def c93 : FnC := ⟨false, 8, [(some 6), (some 7)], (.seq (.reg [q564, (p 0 (.box (.f 7))), (p 3 q183)]) (.seq (.seq (.reg [(o q187), (o q316), (p 4 q201)]) (.cond (.f 4) (.reg [(o q189), (o q318), ⟨none, none, [0], q187⟩, (o q318), (o q419), (o (.sto 2 (.f 0) (.x 1)))]) .skip)) (.seq (.seq (.reg [(o q189), (o q187), (o (.call q56 [(.x 1), (.x 0)])), (p 2 q196), (o q214)]) (.seq (.reg [(o q246), ⟨none, none, [0], q267⟩, (o q400), (p 5 q218)]) (.cond (.f 5) (.seq (.reg [(o q189), (o q246), (o q353), q492, (o q178), (o q179), (o q225), (o q419)]) (.reg [(o q187), (o q246), (o q353), q492, (o q178), (o q179), (o q225), (o (.sto 2 (.f 0) (.x 2)))])) .skip))) (.seq (.reg [(o q189), (o q187), (o q309), (o q331)]) .ret)))), [(.cell true 4 3)]⟩
theorem c93_ok : FnOk Tryz.prog Bts 93 c93 := fn_ok (wm := false) (na := 2) Tryz.func93 (by kernel_rfl) (by kernel_rfl) (by kernel_rfl)
def c95 : FnC := ⟨false, 8, [(some 7)], (.seq (.reg [(p 6 q196)]) (.seq (.reg [(o q267), (p 1 q196), (o q214)]) (.seq (.seq (.reg [(p 4 (.mv (.f 7))), q579, q501]) (.block 0 (.loop (.seq (.reg [(p 3 q311)]) (.seq (.cond (.f 3) .skip (.exit 0)) (.seq (.block 1 (.seq (.reg [(o (.ixS 2 (.f 4) (.f 0))), (o q181), (p 2 q196), (o q214)]) (.reg [(o q189), (o q246), (o q354), (o q259)]))) (.reg [(o q197), q495]))))))) (.seq (.reg [(o q189), (o (.sto 2 (.f 6) (.x 0)))]) .ret)))), [(.cell true 2 6)]⟩
theorem c95_ok : FnOk Tryz.prog Bts 95 c95 := fn_ok (wm := false) (na := 1) Tryz.func95 (by kernel_rfl) (by kernel_rfl) (by kernel_rfl)
def c96 : FnC := ⟨false, 12, [(some 10), (some 1), (some 11)], (.seq (.reg [(p 3 (.box (.f 11))), q539]) (.seq (.reg [(o .mkm), q509]) (.seq (.seq (.reg [(p 7 (.mv (.f 10))), q562, q530]) (.block 0 (.loop (.seq (.reg [(p 5 (.pk (.bin .lss) [(.f 4), (.f 8)]))]) (.seq (.cond (.f 5) .skip (.exit 0)) (.seq (.block 1 (.seq (.reg [(o (.ixS 8 (.f 7) (.f 4))), (o q180), (p 0 q220), (o q226)]) (.seq (.block 2 (.loop (.seq (.seq (.reg [q490, (o q186), (o q227), (o q175), (p 2 q195)]) (.cond (.f 2) .skip (.exit 2))) (.seq (.block 3 (.reg [(o q273), (o q176), (o q202), (o q277), (o q273), (o q198)])) (.reg [q490, (o q186), (o q227), (o q175), (o q177), (o q186), (o (.ixR 4 1 (.x 0) (.x 5))), (o q298)]))))) (.reg [q499, (o q186), (o q176), (o q273), (o q176), (o q420)])))) (.reg [q683, q504]))))))) (.seq (.reg [q499, (o q351), q517]) .ret)))), [(.p 9)]⟩
theorem c96_ok : FnOk Tryz.prog Bts 96 c96 := fn_ok (wm := false) (na := 3) Tryz.func96 (by kernel_rfl) (by kernel_rfl) (by kernel_rfl)
def c98 : FnC := ⟨false, 9, [(some 6), (some 7), (some 8)], (.seq (.reg [(p 4 (.box (.f 8))), (p 5 q191)]) (.seq (.reg [q499, q503, q684, q502]) (.seq (.reg [(o (.call q19 [q0])), (p 0 q191), (o q214)]) (.seq (.seq (.reg [q494, q493, (o q177), q497]) (.block 0 (.loop (.seq (.seq (.reg [q490, (p 2 q203)]) (.cond (.f 2) .skip (.exit 0))) (.seq (.block 1 (.seq (.reg [(o q187), (o q290), (o q372), (o q242)]) (.reg [(o q187), q494, q490, (o q190), (o q175), ⟨none, none, [4], q377⟩, (o (.call q22 [(.x 5), (.x 0)])), (o q242)]))) (.reg [q490, (o q177), q497])))))) (.seq (.reg [(o q187), (o (.sto 2 (.f 5) (.x 0)))]) .ret))))), [(.cell true 2 5)]⟩
theorem c98_ok : FnOk Tryz.prog Bts 98 c98 := fn_ok (wm := false) (na := 3) Tryz.func98 (by kernel_rfl) (by kernel_rfl) (by kernel_rfl)
def c99 : FnC := ⟨false, 7, [(some 1), (some 2)], (.seq (.reg [q559]) (.seq (.seq (.reg [q490, q493, q491, q493, (p 6 q402)]) (.cond (.f 6) (.seq (.reg [q559]) .ret) .skip)) (.seq (.seq (.reg [q501]) (.block 0 (.loop (.seq (.seq (.reg [q489, q490, q493, (p 3 q204)]) (.cond (.f 3) .skip (.exit 0))) (.seq (.block 1 (.seq (.reg [q490, q489, (o q184), (o q192), (o q176), q491, q489, (o q184), (o q192), (o q176), (o (.pk (.neA 4) [(.x 5), (.x 0)])), q492, q614, ⟨(some (1, false)), none, [], (.mv (.f 0))⟩, q656, ⟨(some (3, false)), none, [], q206⟩, q657, q658, q659, q660, ⟨(some (8, false)), none, [], q206⟩, q661, ⟨(some (10, false)), none, [], (.call (.k (.t (.one (.c (.v (.func (.func 162) ⟨[]⟩ ⟨[]⟩)))))) [(.x 5), (.x 0)])⟩, ⟨(some (11, false)), none, [], q194⟩, (p 4 (.pick (.x 12) q4 (.x 0)))]) (.cond (.f 4) (.seq (.reg [q559]) .ret) .skip))) (.reg [q489, (o q182), q495])))))) (.seq (.reg [(p 5 (.mv q4))]) .ret)))), [(.p 5)]⟩
theorem c99_ok : FnOk Tryz.prog Bts 99 c99 := fn_ok (wm := false) (na := 2) Tryz.func99 (by kernel_rfl) (by kernel_rfl) (by kernel_rfl)
def c100 : FnC := ⟨false, 3, [(some 2)], (.seq (.reg [q512, (p 1 q191)]) (.seq (.reg [(o q186), (o q175), ⟨none, none, [0], (.call q16 [q11])⟩, (o q343), (o q193), ⟨none, none, [1, 2], q175⟩, (o (.bld [(.c (.v (.slice none 0 0))), (.c (.v (.slice none 0 0)))] [(0, 1), (1, 1)] [0, 1] [(.x 2), (.x 0)])), (o q259)]) .ret)), [(.cell true 2 1)]⟩
theorem c100_ok : FnOk Tryz.prog Bts 100 c100 := fn_ok (wm := false) (na := 1) Tryz.func100 (by kernel_rfl) (by kernel_rfl) (by kernel_rfl)
def c101 : FnC := ⟨false, 3, [(some 2)], (.seq (.reg [q512, (p 1 q183)]) (.seq (.reg [(o q186), (o q181), (o q421), (o q207), ⟨none, none, [1], q181⟩, (o q460), (o q228)]) .ret)), [(.cell true 4 1)]⟩
theorem c101_ok : FnOk Tryz.prog Bts 101 c101 := fn_ok (wm := false) (na := 1) Tryz.func101 (by kernel_rfl) (by kernel_rfl) (by kernel_rfl)
def c102 : FnC := ⟨false, 9, [(some 6)], (.seq (.reg [q559]) (.seq (.seq (.reg [(p 7 (.mv (.f 6))), q562, q501]) (.block 0 (.loop (.seq (.reg [(p 3 q314)]) (.seq (.cond (.f 3) .skip (.exit 0)) (.seq (.block 1 (.seq (.reg [q489, (o (.ixS 8 (.f 7) (.f 0))), (o q180), (p 1 q220), q563, (o (.sto 8 (.x 1) (.x 2)))]) (.seq (.reg [(o q188), (o q176), (o q422), (o q194), q492, q685, q686, ⟨(some (2, false)), none, [], (.call q131 [(.x 0)])⟩, q670, (o q274), q492, q685, q686, ⟨(some (2, false)), none, [], q252⟩, ⟨(some (3, false)), none, [], q185⟩, (o q274), q492, ⟨(some (0, false)), none, [], (.mv (.f 2))⟩, ⟨(some (1, false)), none, [], q195⟩, ⟨(some (2, false)), none, [], (.mv (.x 0))⟩, q586, q535, q621, ⟨(some (3, true)), none, [], q256⟩, ⟨(some (4, true)), none, [], q192⟩, q687, ⟨(some (6, true)), none, [], q188⟩, ⟨(some (7, true)), none, [], q176⟩, ⟨(some (8, true)), none, [], (.call q94 [(.x 2), (.x 0)])⟩, ⟨(some (9, true)), none, [], (.pk (.bin .leq) [(.x 0), q0])⟩, ⟨(some (13, false)), none, [], (.pick (.x 10) (.x 0) q3)⟩, (p 4 (.pick (.x 14) q4 (.x 0)))]) (.cond (.f 4) (.seq (.reg [q559]) .ret) .skip)))) (.reg [(o q197), q495]))))))) (.seq (.reg [(p 5 (.mv q4))]) .ret))), [(.p 5)]⟩
theorem c102_ok : FnOk Tryz.prog Bts 102 c102 := fn_ok (wm := false) (na := 1) Tryz.func102 (by kernel_rfl) (by kernel_rfl) (by kernel_rfl)
def c103 : FnC := ⟨false, 3, [(some 1), (some 2)], (.seq (.reg [(p 0 (.mv q3))]) (.seq (.reg [q490, q491, (o (.call (.k (.t (.one (.c (.v (.func (.func 166) ⟨[]⟩ ⟨[]⟩)))))) [(.x 1), (.x 0), (.k (.t (.one (.c (.v (.func (.func 167) ⟨[]⟩ ⟨[]⟩))))))])), q495]) .ret)), [(.p 0)]⟩
theorem c103_ok : FnOk Tryz.prog Bts 103 c103 := fn_ok (wm := false) (na := 2) Tryz.func103 (by kernel_rfl) (by kernel_rfl) (by kernel_rfl)
def c104 : FnC := ⟨false, 11, [(some 0), (some 1)], (.seq (.reg [q599]) (.seq (.block 0 (.seq (.reg [q489, q493, (o q185), q509]) (.cond (.f 6) (.seq (.reg [q490, (o q355), q502]) .ret) (.seq (.reg [q490, q493, (o q185), q521]) (.cond (.f 7) (.seq (.reg [q489, (o q355), q502]) .ret) (.seq (.reg [q489, (o q423), q492, q614, ⟨(some (1, false)), none, [], q423⟩, (o q294), q514]) (.cond (.f 8) (.seq (.reg [(o q356), q502]) .ret) .skip))))))) (.seq (.reg [q489, q490, (o (.bsl [(.slice none 0 0)] 1 2 [0, 1] [(.x 1), (.x 0)])), (o (.call (.k (.t (.one (.c (.v (.func (.func 171) ⟨[]⟩ ⟨[]⟩)))))) [(.x 0)])), q500]) (.seq (.seq (.reg [q490, q491, (o q237), (p 9 q185)]) (.cond (.f 9) (.seq (.reg [q489, q491, (o q319), q490, (o q348), q502]) .ret) .skip)) (.seq (.seq (.reg [q489, q491, (o q237), (p 10 q185)]) (.cond (.f 10) (.seq (.reg [q489, q490, q491, (o q319), (o (.call q38 [(.x 3), (.x 0)])), q502]) .ret) .skip)) (.seq (.reg [q489, q491, (o q319), q490, q491, (o q319), (p 4 (.mv (.x 3))), q544]) (.seq (.reg [q496, q498, (o q348), q489, q496, (o q424), q490, q498, (o q424), q491, (o (.call (.k (.t (.one (.c (.v (.func (.func 173) ⟨[]⟩ ⟨[]⟩)))))) [(.x 4), (.x 1), (.x 0)])), q688, (o q355), q502]) .ret))))))), [(.p 3)]⟩
theorem c104_ok : FnOk Tryz.prog Bts 104 c104 := fn_ok (wm := false) (na := 2) Tryz.func104 (by kernel_rfl) (by kernel_rfl) (by kernel_rfl)
def c105 : FnC := ⟨false, 1, [], (.seq (.reg [q515]) (.seq (.reg [(o q213), (o q357), q495]) .ret)), [(.p 0)]⟩
theorem c105_ok : FnOk Tryz.prog Bts 105 c105 := fn_ok (wm := false) (na := 0) Tryz.func105 (by kernel_rfl) (by kernel_rfl) (by kernel_rfl)
def c106 : FnC := ⟨false, 5, [(some 3), (some 4)], (.seq (.reg [q511, q513, (p 2 q191)]) (.seq (.reg [(o q187), (o q189), (o (.call q145 [(.x 1), (.x 0), q47])), (o q230)]) .ret)), [(.cell true 2 2)]⟩
theorem c106_ok : FnOk Tryz.prog Bts 106 c106 := fn_ok (wm := false) (na := 2) Tryz.func106 (by kernel_rfl) (by kernel_rfl) (by kernel_rfl)
def c107 : FnC := ⟨false, 5, [(some 3), (some 4)], (.seq (.reg [q511, q513, (p 2 q191)]) (.seq (.reg [(o q186), (o q175), (o q188), (o q175), (o q260), (o q193), ⟨none, none, [1], q175⟩, (o q217), ⟨none, none, [3], q175⟩, (o q260), (o q339), (o q178), (o q179), (o q425), (o q230)]) .ret)), [(.cell true 2 2)]⟩
theorem c107_ok : FnOk Tryz.prog Bts 107 c107 := fn_ok (wm := false) (na := 2) Tryz.func107 (by kernel_rfl) (by kernel_rfl) (by kernel_rfl)
def c108 : FnC := ⟨false, 6, [(some 4), (some 0), (some 5)], (.seq (.reg [q513, (p 2 q191)]) (.seq (.reg [(o q189), q489, q489, ⟨none, none, [2], (.call (.k (.t (.one (.c (.v (.func (.func 181) ⟨[]⟩ ⟨[]⟩)))))) [(.x 0)])⟩, q498, ⟨none, none, [4], q308⟩, ⟨none, none, [5], (.call q130 [(.x 0)])⟩, ⟨none, none, [6], (.call (.k (.t (.one (.c (.v (.func (.func 180) ⟨[]⟩ ⟨[]⟩)))))) [(.x 3), (.x 0)])⟩, (o (.call (.k (.t (.one (.c (.v (.func (.func 179) ⟨[]⟩ ⟨[]⟩)))))) [(.x 7), (.x 6), (.x 0)])), q492, (o q178), (o q179), (p 3 q191), (o q292), q523]) (.seq (.reg [(o q243), (o q230)]) .ret))), [(.cell true 2 2)]⟩
theorem c108_ok : FnOk Tryz.prog Bts 108 c108 := fn_ok (wm := false) (na := 3) Tryz.func108 (by kernel_rfl) (by kernel_rfl) (by kernel_rfl)
def c109 : FnC := ⟨false, 5, [(some 3), (some 4)], (.seq (.reg [q511, q513, q540]) (.seq (.reg [(o q186), (o q175), (o q188), (o q175), (o q426), q492, q565, q522, q667, q601, ⟨(some (4, true)), none, [], q426⟩, (o q315), q500]) .ret)), [(.p 2)]⟩
theorem c109_ok : FnOk Tryz.prog Bts 109 c109 := fn_ok (wm := false) (na := 2) Tryz.func109 (by kernel_rfl) (by kernel_rfl) (by kernel_rfl)
def c110 : FnC := ⟨false, 3, [(some 2)], (.seq (.reg [q512, (p 1 q191)]) (.seq (.reg [(o q210), (o q357), (o q397), (o q259)]) .ret)), [(.cell true 2 1)]⟩
theorem c110_ok : FnOk Tryz.prog Bts 110 c110 := fn_ok (wm := false) (na := 1) Tryz.func110 (by kernel_rfl) (by kernel_rfl) (by kernel_rfl)
def c111 : FnC := ⟨true, 8, [(some 5), (some 7)], (.seq (.reg [q530]) (.seq (.seq (.reg [q498, q548, q501]) (.block 0 (.loop (.seq (.reg [(p 2 q276)]) (.seq (.cond (.f 2) .skip (.exit 0)) (.seq (.block 1 (.seq (.reg [q489, q497]) (.seq (.reg [q503, q498, q490, (o q212), (o q176), (p 3 (.call (.x 4) [(.x 0)]))]) (.cond (.f 3) (.seq (.reg [q490, q504]) .ret) .skip)))) (.reg [(o q197), q495]))))))) (.seq (.reg [(p 4 (.mv q11))]) .ret))), [(.p 4)]⟩
theorem c111_ok : FnOk Tryz.prog Bts 111 c111 := fn_ok (wm := true) (na := 2) Tryz.func111 (by kernel_rfl) (by kernel_rfl) (by kernel_rfl)
def c116 : FnC := ⟨true, 10, [(some 7), (some 9)], (.seq (.reg [(p 8 q183)]) (.seq (.reg [(o q244), (p 1 q183), (o q198)]) (.seq (.seq (.reg [(p 5 (.ld false 1 (.f 9))), q548, q501]) (.block 0 (.loop (.seq (.reg [(p 4 q276)]) (.seq (.cond (.f 4) .skip (.exit 0)) (.seq (.block 1 (.seq (.reg [q489, (o (.ixS 4 (.f 5) (.f 0))), (o q176), (p 3 q183), q563, (o q297)]) (.reg [(o q219), (o q202), q503, q491, ⟨none, none, [2, 3], q275⟩, ⟨none, none, [4], (.call q12 [(.x 3), (.x 0)])⟩, (o (.call q27 [(.x 5), (.x 0)])), (o q228)]))) (.reg [(o q197), q495]))))))) (.seq (.reg [(o q219), (o (.sto 4 (.f 8) (.x 0)))]) .ret)))), [(.cell true 4 8)]⟩
theorem c116_ok : FnOk Tryz.prog Bts 116 c116 := fn_ok (wm := true) (na := 2) Tryz.func116 (by kernel_rfl) (by kernel_rfl) (by kernel_rfl)
def c117 : FnC := ⟨true, 4, [(some 1), (some 2), (some 3)], (.seq (.reg [(p 0 q183)]) (.seq (.reg [(o q247), q490, (o q190), (o q175), (o q268), (o q212), (o q176), (o q251)]) .ret)), [(.cell true 4 0)]⟩
theorem c117_ok : FnOk Tryz.prog Bts 117 c117 := fn_ok (wm := true) (na := 3) Tryz.func117 (by kernel_rfl) (by kernel_rfl) (by kernel_rfl)
def c118 : FnC := ⟨true, 3, [(some 1), (some 2)], (.seq (.reg [(p 0 q183)]) (.seq (.reg [(o q247), q490, (o q212), (o q176), (o q251)]) .ret)), [(.cell true 4 0)]⟩
theorem c118_ok : FnOk Tryz.prog Bts 118 c118 := fn_ok (wm := true) (na := 2) Tryz.func118 (by kernel_rfl) (by kernel_rfl) (by kernel_rfl)
def c119 : FnC := ⟨false, 5, [(some 2)], (.seq (.reg [q560]) (.seq (.reg [(o q236), q497]) (.seq (.seq (.reg [q501]) (.block 0 (.loop (.seq (.seq (.reg [q489, q491, q493, (p 3 q204)]) (.cond (.f 3) .skip (.exit 0))) (.seq (.block 1 (.reg [q490, q491, q489, (o q184), (o q180), (o (.call (.k (.t (.one (.c (.v (.func (.func 183) ⟨[]⟩ ⟨[]⟩)))))) [(.x 4), (.x 0)])), q497])) (.reg [q489, (o q182), q495])))))) (.seq (.reg [q490, q504]) .ret)))), [(.p 4)]⟩
theorem c119_ok : FnOk Tryz.prog Bts 119 c119 := fn_ok (wm := false) (na := 1) Tryz.func119 (by kernel_rfl) (by kernel_rfl) (by kernel_rfl)
def c120 : FnC := ⟨false, 15, [(some 6), (some 7)], (.seq (.reg [q576]) (.seq (.seq (.reg [q499, q493, (p 9 q185)]) (.cond (.f 9) (.seq (.reg [q503, (o q269), q507]) .ret) .skip)) (.seq (.seq (.reg [q503, q493, (p 10 q185)]) (.cond (.f 10) (.seq (.reg [q499, (o q269), q507]) .ret) .skip)) (.seq (.reg [q499, q503, (o (.call (.k (.t (.one (.c (.v (.func (.func 185) ⟨[]⟩ ⟨[]⟩)))))) [(.x 1), (.x 0)])), q497]) (.seq (.seq (.reg [q490, (p 11 q201)]) (.cond (.f 11) (.seq (.reg [(o (.call (.k (.t (.one (.c (.v (.func (.func 186) ⟨[]⟩ ⟨[]⟩)))))) [])), q507]) .ret) .skip)) (.seq (.reg [q499, q490, (o q427), q503, q490, (o q427), (o (.call q87 [(.x 3), (.x 0)])), q514]) (.seq (.reg [q499, q490, (o q428), (o q269), q503, q490, (o q428), (o q269), (p 2 (.mv (.x 4))), q524]) (.seq (.seq (.reg [q491, q490, (o q248), q489, q490, (o q248), (p 12 q409)]) (.cond (.f 12) (.reg [q489, q491, q545, q524]) .skip)) (.seq (.seq (.reg [q491, q489, q490, (o (.call (.k (.t (.one (.c (.v (.func (.func 190) ⟨[]⟩ ⟨[]⟩)))))) [(.x 2), (.x 1), (.x 0)])), (p 13 q185)]) (.cond (.f 13) (.seq (.reg [q506, (o q269), q507]) .ret) .skip)) (.seq (.block 0 (.loop (.seq (.seq (.reg [q489, q493, (p 4 q195)]) (.cond (.f 4) .skip (.exit 0))) (.block 1 (.seq (.reg [q491, q489, q490, (o (.call (.k (.t (.one (.c (.v (.func (.func 191) ⟨[]⟩ ⟨[]⟩)))))) [(.x 2), (.x 1), (.x 0)])), q492, (o q178), (o q179), q525, q542]) (.reg [q489, q494, q490, (o q428), (o q269), (p 2 (.mv (.x 4))), q524])))))) (.seq (.seq (.reg [q491, q490, (o q248), (p 14 q358)]) (.cond (.f 14) (.seq (.reg [q506, (o q269), q507]) .ret) .skip)) (.seq (.reg [q506, q491, (o q359), (o q269), q507]) .ret)))))))))))), [(.p 5)]⟩
theorem c120_ok : FnOk Tryz.prog Bts 120 c120 := fn_ok (wm := false) (na := 2) Tryz.func120 (by kernel_rfl) (by kernel_rfl) (by kernel_rfl)
def c121 : FnC := ⟨false, 12, [(some 11), (some 4)], (.seq (.reg [q583, (p 9 (.mv q3))]) (.seq (.seq (.reg [q496, q493, (p 10 q185)]) (.cond (.f 10) (.seq (.reg [(o q236), q514, (p 9 (.mv q3))]) .ret) .skip)) (.seq (.reg [(o q236), q508, q544, q545]) (.seq (.block 0 (.loop (.seq (.seq (.reg [q491, q493, (p 6 q195)]) (.cond (.f 6) .skip (.exit 0))) (.block 1 (.seq (.reg [(o (.bld [(.c (.v (.int .i64 (Int.ofNat 0)))), (.c (.v (.int .i64 (Int.ofNat 0)))), (.c (.v (.int .i64 (Int.ofNat 0)))), (.c (.v (.int .i64 (Int.ofNat 0)))), (.c (.v (.bool false))), (.c (.v (.slice none 0 0))), (.c (.v (.bool false))), (.c (.v (.slice none 0 0)))] [(0, 4), (4, 4)] [] [])), (p 1 q220), (o q226)]) (.seq (.seq (.reg [q501]) (.block 2 (.loop (.seq (.seq (.reg [q489, (p 3 q408)]) (.cond (.f 3) .skip (.exit 2))) (.seq (.block 3 (.reg [q489, q491, q489, (o q429), (o q192), (o q301), (o q175), q496, q489, (o q429), (o q192), (o q301), (o q175), (o q465), (o q188), (o (.ixR 4 1 (.x 0) (.x 14))), (o q298)])) (.reg [q489, (o q182), q495])))))) (.seq (.seq (.reg [(o q188), (o q176), (o (.call q146 [(.x 0)])), (p 7 q194)]) (.cond (.f 7) (.seq (.reg [(o q236), q514, (p 9 (.mv q3))]) .ret) .skip)) (.seq (.reg [q491, (o q209), (o q206), (o q176), q496, (o q209), (o q206), (o q176), (o (.call q147 [(.x 4), (.x 0)])), q492, (o q178), (o q179), (o q245), (o q216)]) (.seq (.reg [q498, (o q281), (o q211), (o q320), q507]) (.reg [q491, q496, (o q281), (o (.call q79 [(.x 1), (.x 0)])), q689, q500])))))))))) (.seq (.reg [q498, q514, (p 9 (.mv q4))]) .ret))))), [(.p 8), (.p 9)]⟩
theorem c121_ok : FnOk Tryz.prog Bts 121 c121 := fn_ok (wm := false) (na := 2) Tryz.func121 (by kernel_rfl) (by kernel_rfl) (by kernel_rfl)
def c122 : FnC := ⟨false, 6, [(some 4), (some 5)], (.seq (.reg [q532, q529, (p 2 q183)]) (.seq (.reg [(o q210), (o q219), (o (.call q147 [(.x 1), (.x 0)])), q492, (o q178), (o q179), (p 3 q183), (o q216), q523]) (.seq (.reg [(o q202), (o q235)]) .ret))), [(.cell true 4 2)]⟩
theorem c122_ok : FnOk Tryz.prog Bts 122 c122 := fn_ok (wm := false) (na := 2) Tryz.func122 (by kernel_rfl) (by kernel_rfl) (by kernel_rfl)
def c123 : FnC := ⟨false, 4, [(some 2), (some 3)], (.seq (.reg [q511, q516]) (.seq (.reg [q491, (o q210), (o q310), (o (.call q79 [(.x 2), (.x 0)])), q497]) .ret)), [(.p 1)]⟩
theorem c123_ok : FnOk Tryz.prog Bts 123 c123 := fn_ok (wm := false) (na := 2) Tryz.func123 (by kernel_rfl) (by kernel_rfl) (by kernel_rfl)
def c126 : FnC := ⟨false, 6, [(some 4), (some 5)], (.seq (.reg [q532, q529, (p 2 q183)]) (.seq (.reg [(o q187), (o q189), (o (.call q149 [(.x 1), (.x 0)])), q492, (o q178), (o q179), (p 3 q183), (o q216), q523]) (.seq (.reg [(o q202), (o q235)]) .ret))), [(.cell true 4 2)]⟩
theorem c126_ok : FnOk Tryz.prog Bts 126 c126 := fn_ok (wm := false) (na := 2) Tryz.func126 (by kernel_rfl) (by kernel_rfl) (by kernel_rfl)
def c127 : FnC := ⟨false, 5, [(some 3), (some 4)], (.seq (.reg [q511, q513, (p 2 q183)]) (.seq (.reg [(o q186), (o q181), (o q188), (o q181), (o q278), (o q207), ⟨none, none, [1], q181⟩, (o q231), ⟨none, none, [3], q181⟩, (o q278), q672, (o q235)]) .ret)), [(.cell true 4 2)]⟩
theorem c127_ok : FnOk Tryz.prog Bts 127 c127 := fn_ok (wm := false) (na := 2) Tryz.func127 (by kernel_rfl) (by kernel_rfl) (by kernel_rfl)
def c128 : FnC := ⟨false, 3, [(some 0)], (.seq (.reg [q516]) (.seq (.seq (.reg [q489, q493, (p 2 q185)]) (.cond (.f 2) (.seq (.reg [q516]) .ret) .skip)) (.seq (.reg [q489, (o (.call (.k (.t (.one (.c (.v (.func (.func 200) ⟨[]⟩ ⟨[]⟩)))))) [])), q489, (o (.call q137 [(.x 0)])), q674, (o (.call q150 [(.x 4), (.x 0)])), q497]) .ret))), [(.p 1)]⟩
theorem c128_ok : FnOk Tryz.prog Bts 128 c128 := fn_ok (wm := false) (na := 1) Tryz.func128 (by kernel_rfl) (by kernel_rfl) (by kernel_rfl)
def c129 : FnC := ⟨true, 3, [(some 1)], (.seq (.reg [q515]) (.seq (.seq (.reg [q490, (p 2 q347)]) (.cond (.f 2) (.seq (.reg [q515]) .ret) .skip)) (.seq (.reg [(o q332), q490, (o q415), q495]) .ret))), [(.p 0)]⟩
theorem c129_ok : FnOk Tryz.prog Bts 129 c129 := fn_ok (wm := true) (na := 1) Tryz.func129 (by kernel_rfl) (by kernel_rfl) (by kernel_rfl)
def c130 : FnC := ⟨false, 6, [(some 4), (some 5)], (.seq (.reg [q532, q529, (p 2 q183)]) (.seq (.reg [(o q210), (o q219), (o q414), q492, (o q178), (o q179), (p 3 q183), (o q216), q523]) (.seq (.reg [(o q202), (o q235)]) .ret))), [(.cell true 4 2)]⟩
theorem c130_ok : FnOk Tryz.prog Bts 130 c130 := fn_ok (wm := false) (na := 2) Tryz.func130 (by kernel_rfl) (by kernel_rfl) (by kernel_rfl)
def c131 : FnC := ⟨false, 2, [(some 0)], (.seq (.reg [(p 1 q183)]) (.seq (.reg [q489, q489, q493, (o q177), (o q340), (o q176), (o q228)]) .ret)), [(.cell true 4 1)]⟩
theorem c131_ok : FnOk Tryz.prog Bts 131 c131 := fn_ok (wm := false) (na := 1) Tryz.func131 (by kernel_rfl) (by kernel_rfl) (by kernel_rfl)
def c132 : FnC := ⟨false, 3, [(some 2)], (.seq (.reg [q516]) (.seq (.reg [(o q213), (o q310), (p 0 q220), (o q226)]) (.seq (.reg [q491, (o q186), (o q227), (o (.sto 1 (.x 0) q1))]) (.seq (.reg [(o (.ld true 8 (.f 0))), (o q211), q497]) .ret)))), [(.p 1)]⟩
theorem c132_ok : FnOk Tryz.prog Bts 132 c132 := fn_ok (wm := false) (na := 1) Tryz.func132 (by kernel_rfl) (by kernel_rfl) (by kernel_rfl)
def c133 : FnC := ⟨false, 22, [(some 17), (some 18), (some 19)], (.seq (.reg [q593]) (.scope (.seq (.seq (.reg [(o (.mv (.f 17))), q493, (o q185), q492, ⟨(some (0, false)), none, [], (.mv (.f 18))⟩, q598, q619, (p 20 q295)]) (.cond (.f 20) (.seq (.reg [q593]) .ret) .skip)) (.seq (.reg [(o (.mv (.f 17))), (o (.mv (.f 19))), (o q282), (o (.mv (.f 18))), (o (.mv (.f 19))), (o q282), (o (.call (.k (.t (.one (.c (.v (.func (.func 201) ⟨[]⟩ ⟨[]⟩)))))) [(.x 3), (.x 0)])), q495]) (.seq (.reg [(o q356), q509, q605]) (.seq .skip (.seq (.seq (.reg [q489, (p 16 (.len (.x 0))), (p 11 (.mv q0))]) (.block 0 (.loop (.seq (.reg [(p 13 (.pk (.bin .lss) [(.f 11), (.f 16)]))]) (.seq (.cond (.f 13) .skip (.exit 0)) (.seq (.block 1 (.seq (.reg [q508, q500]) (.seq (.reg [q491, q507]) (.seq (.block 2 (.loop (.seq (.seq (.reg [q489, q498, (o q190), (o q175), q491, (o q190), (o q175), q493, (p 7 q185)]) (.cond (.f 7) .skip (.exit 2))) (.block 3 (.seq (.reg [q498, (o q182), q507]) (.seq (.reg [q498, q489, q493, (p 8 q293)]) (.cond (.f 8) (.seq (.reg [q593]) .ret) .skip))))))) (.seq (.seq (.reg [q498, q491, (p 14 q299)]) (.cond (.f 14) (.seq (.reg [q489, q491, q489, q498, q489, q498, (o q190), (o q175), q489, q491, (o q190), (o q175), (o (.ixS 1 (.x 11) (.x 10))), (o (.sto 1 (.x 0) (.x 5))), (o (.ixS 1 (.x 11) (.x 10))), (o q344)]) (.reg [q520, (o q194), q554])) .skip)) (.seq (.seq (.reg [q491, q489, q493, (o q177), (p 15 q466)]) (.cond (.f 15) (.seq (.reg [q489, q491, (o q190), (o q175), q491, (o q190), (o q175), q509]) (.exit 0)) .skip)) (.seq (.seq (.reg [q491, (o q182), q502]) (.block 4 (.loop (.seq (.seq (.reg [q494, q489, q493, (p 9 q204)]) (.cond (.f 9) .skip (.exit 4))) (.seq (.block 5 (.seq (.reg [q491, (o q182), q497]) (.block 6 (.loop (.seq (.seq (.reg [q490, q489, q493, (p 4 q204)]) (.cond (.f 4) .skip (.exit 6))) (.seq (.block 7 (.reg [q489, q494, (o q190), (o q175), q490, q489, q491, (o q190), (o q175), q491, (o q190), (o q175), q489, q494, (o q190), (o q175), q490, (o q190), (o q175), ⟨none, none, [15], q360⟩, q489, q494, (o q190), ⟨none, none, [3], q175⟩, q491, (o q190), ⟨none, none, [6], q175⟩, q489, q491, (o q190), ⟨none, none, [10], q175⟩, q490, (o q190), ⟨none, none, [13], q175⟩, ⟨none, none, [30], q360⟩, ⟨none, none, [31], (.call q47 [(.x 15), (.x 0)])⟩, q499, ⟨none, none, [33], q424⟩, (o (.ixS 1 (.x 34) (.x 33))), (o q205)])) (.reg [q490, (o q182), q497]))))))) (.reg [q494, (o q182), q502])))))) (.reg [q489, q491, (o q190), (o q175), q491, (o q190), (o q175), q509])))))))) (.reg [(o q461), q558]))))))) (.seq (.seq (.reg [(p 21 (.mv (.f 12)))]) (.cond (.f 21) (.seq (.reg [q499, (o (.call q47 [q2, (.x 0)])), q547]) .ret) .skip)) (.seq (.reg [q499, q547]) .ret))))))))), [(.p 10)]⟩
theorem c133_ok : FnOk Tryz.prog Bts 133 c133 := fn_ok (wm := false) (na := 3) Tryz.func133 (by kernel_rfl) (by kernel_rfl) (by kernel_rfl)
def c134 : FnC := ⟨false, 9, [(some 6), (some 7), (some 8)], (.seq (.reg [(p 2 (.box (.f 8))), q560]) (.seq (.reg [(p 0 q254)]) (.seq (.seq (.reg [q499, q503, (o q282), (p 5 (.call (.k (.t (.one (.c (.v (.func (.func 203) ⟨[]⟩ ⟨[]⟩)))))) [(.x 0)]))]) (.block 0 (.rf (.f 5) 134))) (.seq (.reg [(o q240), q504]) .ret)))), [(.p 4)]⟩
theorem c134_ok : FnOk Tryz.prog Bts 134 c134 := fn_ok (wm := false) (na := 3) Tryz.func134 (by kernel_rfl) (by kernel_rfl) (by kernel_rfl)
def b134 : BdC := ⟨9, [none, (some 3)], (.reg [(p 1 (.mv (.f 3)))]), (.block 1 (.reg [(o q240), (o q247), (o q441), q490, q677, (o q323)]))⟩
theorem b134_ok : BdOk Tryz.prog Bts 134 b134 := bd_ok Tryz.func134 (by kernel_rfl) (by kernel_rfl)
def c135 : FnC := ⟨false, 10, [(some 0), (some 1)], (.seq (.reg [q539]) (.seq (.reg [q489, q493, q490, q493, (o q253), (o q467), q500]) (.seq (.block 0 (.loop (.seq (.seq (.reg [q489, q493, (o q195), q492, q603, ⟨(some (1, true)), none, [], (.len (.x 0))⟩, ⟨(some (2, true)), none, [], q195⟩, (p 5 q224)]) (.cond (.f 5) .skip (.exit 0))) (.block 1 (.seq (.reg [q489, (o q209), (o q192), (o q176), q490, (o q209), (o q192), (o q176), (o (.call q94 [(.x 4), (.x 0)])), q502]) (.block 2 (.seq (.reg [q494, (o q195), q521]) (.cond (.f 7) (.reg [q491, q489, (o q209), (o q180), (o q211), (o q430), q489, (o q321), q553, q524]) (.seq (.reg [q494, (o q201), q514]) (.cond (.f 8) (.reg [q491, q490, (o q209), (o q180), (o q211), (o q430), q490, (o q321), q553, q519]) (.seq (.seq (.reg [q489, (o q209), (o q206), (o q176), q490, (o q209), (o q206), (o q176), (o (.call q27 [(.x 4), (.x 0)])), (p 4 q183), (o q198)]) (.seq (.reg [(o q266), (o q252), (p 6 q218)]) (.cond (.f 6) (.reg [q491, q489, (o q209), (o q192), (o q176), (o q266), (o q336), (o q211), (o (.app 8 96 (.x 7) (.x 0))), q500]) .skip))) (.reg [q489, (o q321), q490, (o q321), q606, q519])))))))))))) (.seq (.reg [q491, q489, (o q361), q490, (o q361), q517]) .ret)))), [(.p 9)]⟩
theorem c135_ok : FnOk Tryz.prog Bts 135 c135 := fn_ok (wm := false) (na := 2) Tryz.func135 (by kernel_rfl) (by kernel_rfl) (by kernel_rfl)
def c136 : FnC := ⟨false, 9, [(some 0)], (.seq (.reg [q560]) (.seq (.seq (.reg [q489, q493, (p 8 q185)]) (.cond (.f 8) (.seq (.reg [q560]) .ret) .skip)) (.seq (.reg [q489, (o (.call (.k (.t (.one (.c (.v (.func (.func 204) ⟨[]⟩ ⟨[]⟩)))))) [(.x 0)])), q489, (o (.call q151 [(.x 0)])), (p 1 q254), (p 7 q254), (o (.sto 1 (.x 1) (.x 4))), (o q401)]) (.seq (.reg [(p 5 q254)]) (.seq (.reg [(p 2 (.new [(.c (.v .nilFunc))]))]) (.seq (.reg [(o (.mkf 206 [(.f 7), (.f 5), (.f 1), (.f 2)])), (o (.sto 1 (.f 2) (.x 0)))]) (.seq (.reg [q489, (o (.call (.k (.t (.one (.c (.v (.func (.func 210) ⟨[]⟩ ⟨[]⟩)))))) [(.x 0)])), (p 3 q196), (o q214)]) (.seq (.reg [(o q243), (o q318), (o q267), (o (.call q140 [(.x 1), (.x 0)])), (p 6 q196), (o q214)]) (.seq (.reg [(o q247), (o q431), (o q243), (o q255), (o q431), ⟨none, none, [1, 2, 3, 4], q362⟩, ⟨none, none, [3, 4, 5], q432⟩, ⟨none, none, [0, 1], q255⟩, ⟨none, none, [1, 2], q243⟩, ⟨none, none, [1, 6, 7, 8], q362⟩, ⟨none, none, [7, 8, 9], q432⟩, (o (.call (.x 10) [(.x 9), (.x 8), (.x 4), (.x 0)]))]) (.seq (.reg [(o (.ld false 1 (.f 5))), q504]) .ret)))))))))), [(.p 4)]⟩
theorem c136_ok : FnOk Tryz.prog Bts 136 c136 := fn_ok (wm := false) (na := 1) Tryz.func136 (by kernel_rfl) (by kernel_rfl) (by kernel_rfl)
def c138 : FnC := ⟨true, 10, [(some 4), (some 5)], (.seq (.reg [q531]) (.seq (.seq (.reg [q498, (p 8 q201)]) (.cond (.f 8) (.reg [(o .bad), (o .bad)]) .skip)) (.seq (.reg [q496, q493, (o q221), q498, (o q221), q680, q492, (o q178), (o q179), q582, q525]) (.seq (.seq (.reg [q503, (o q352), q492, q681, q682, (p 9 q294)]) (.cond (.f 9) (.reg [(o .bad), (o .bad)]) .skip)) (.seq (.reg [q494, (o q257), (o q411), q497]) (.seq (.reg [q490, q496, (o (.cpy 4 (.x 1) (.x 0))), q495]) (.seq (.block 0 (.loop (.seq (.seq (.reg [q489, q490, q493, (p 2 q204)]) (.cond (.f 2) .skip (.exit 0))) (.block 1 (.reg [q489, q490, q489, (o q463), q490, q489, (o q464), (o (.cpy 4 (.x 3) (.x 0))), (o q418), q495]))))) (.seq (.reg [q490, q509]) .ret)))))))), [(.p 6)]⟩
theorem c138_ok : FnOk Tryz.prog Bts 138 c138 := fn_ok (wm := true) (na := 2) Tryz.func138 (by kernel_rfl) (by kernel_rfl) (by kernel_rfl)
def c140 : FnC := ⟨true, 8, [(some 6), (some 5)], (.seq (.reg [q580]) (.seq (.reg [q499, (o q363), (o q451), q497]) (.seq (.seq (.reg [(p 4 (.mv (.f 6))), q501]) (.block 0 (.loop (.seq (.reg [(p 3 (.pk (.bin .lss) [(.f 0), (.f 4)]))]) (.seq (.cond (.f 3) .skip (.exit 0)) (.seq (.block 1 (.seq (.reg [q489, q500]) (.reg [q490, q498, q491, (o q275), (o q234), (o (.app 4 64 (.x 4) (.x 0))), q497]))) (.reg [(o q197), q495]))))))) (.seq (.reg [q490, (o q291), q521]) .ret)))), [(.p 7)]⟩
theorem c140_ok : FnOk Tryz.prog Bts 140 c140 := fn_ok (wm := true) (na := 2) Tryz.func140 (by kernel_rfl) (by kernel_rfl) (by kernel_rfl)
def c141 : FnC := ⟨true, 4, [(some 0), (some 2), (some 3)], (.seq (.reg [(p 1 q183)]) (.seq (.reg [(o q247), q489, q690, ⟨none, none, [0], q268⟩, q489, q690, (o (.call q53 [(.x 3), (.x 0)])), (o q228)]) .ret)), [(.cell true 4 1)]⟩
theorem c141_ok : FnOk Tryz.prog Bts 141 c141 := fn_ok (wm := true) (na := 3) Tryz.func141 (by kernel_rfl) (by kernel_rfl) (by kernel_rfl)
def c142 : FnC := ⟨false, 4, [(some 1), (some 2)], (.seq (.reg [(p 0 q183)]) (.seq (.seq (.reg [q491, q490, q493, (p 3 q204)]) (.cond (.f 3) (.seq (.reg [q490, q491, (o q212), (o q176), (o q251)]) .ret) .skip)) (.seq (.reg [(o q244), (o q251)]) .ret))), [(.cell true 4 0)]⟩
theorem c142_ok : FnOk Tryz.prog Bts 142 c142 := fn_ok (wm := false) (na := 2) Tryz.func142 (by kernel_rfl) (by kernel_rfl) (by kernel_rfl)
def c144 : FnC := ⟨false, 4, [(some 3)], (.seq (.reg [q511, (p 1 q196)]) (.seq (.reg [(o q186), (o q181), (o q207), (o q181), q691, q492, (o q178), (o q179), (o q225), (p 2 q196), (o q196), (o q241), (o q241), q566]) (.seq (.reg [(o q246), (o q259)]) .ret))), [(.cell true 2 1)]⟩
theorem c144_ok : FnOk Tryz.prog Bts 144 c144 := fn_ok (wm := false) (na := 1) Tryz.func144 (by kernel_rfl) (by kernel_rfl) (by kernel_rfl)
def c145 : FnC := ⟨true, 5, [(some 0), (some 1)], (.seq (.reg [q543]) (.seq (.seq (.reg [q490, (p 3 q201)]) (.cond (.f 3) (.reg [(o .bad), (o .bad)]) .skip)) (.seq (.seq (.reg [q490, q489, (o (.cap (.x 0))), q489, q493, (o q345), (o (.pk (.bin .sub) [(.x 5), (.x 0)])), q497]) (.seq (.reg [q490, (p 4 q195)]) (.cond (.f 4) (.reg [q489, q489, (o (.cap (.x 0))), (o q468), q490, (o (.appz [(.bool false), (.slice none 0 0), (.bool false), (.slice none 0 0)] 4 64 (.x 1) (.x 0))), q489, q493, (o q468), q495]) .skip))) (.seq (.reg [q489, q500]) .ret)))), [(.p 2)]⟩
theorem c145_ok : FnOk Tryz.prog Bts 145 c145 := fn_ok (wm := true) (na := 2) Tryz.func145 (by kernel_rfl) (by kernel_rfl) (by kernel_rfl)
def c146 : FnC := ⟨true, 15, [(some 6), (some 8), (some 9)], (.seq (.reg [q499, (o q199), (o q192), (o q175), q506, (o q190), (o q175), q510, (o q212), (o q176), (p 13 q183), (o q198)]) (.seq (.reg [q499, q499, (o q199), (o q300), (o q176), (o (.ld true 4 (.f 13))), (o q277), (o (.nilc (.x 6))), (o q300), (o q216)]) (.seq (.reg [(p 10 (.mv (.k (.t (.one (.c (.v (.func (.func 211) ⟨[]⟩ ⟨[]⟩))))))))]) (.seq (.reg [q499, (o q199), (o q192), (o q175), q506, (o q190), (o q175), (p 7 q254), (o q205)]) (.seq (.reg [(o q213), ⟨none, none, [0], (.ld true 4 (.f 13))⟩, (o q414), q492, (o q178), (o q179), (p 14 q183), (o q216), q523]) (.seq (.reg [q505, (o q302), (o (.mkf 212 [(.f 7), (.f 14)])), (o q328)]) (.seq (.seq (.reg [q499, (o q199), (o q192), (p 11 q175), q626, q501]) (.block 0 (.loop (.seq (.reg [(p 4 (.pk (.bin .lss) [(.f 0), (.f 12)]))]) (.seq (.cond (.f 4) .skip (.exit 0)) (.seq (.block 1 (.seq (.reg [q489, (o (.ixS 1 (.f 11) (.f 0))), (o q175), (p 1 q254), (p 3 (.mv (.x 3))), (o (.sto 1 (.x 1) (.x 2)))]) (.seq (.reg [(o q255), q510, (o q212), (o q176), (p 2 q183), (o q198)]) (.seq (.reg [q494, q506, (o q299), q492, ⟨(some (0, true)), none, [], q271⟩, q692, q693, (p 5 q224)]) (.cond (.f 5) (.reg [q505, (o q255), (o (.mkf 213 [(.f 1), (.f 2), (.f 7)])), (o q328)]) .skip))))) (.reg [(o q197), q495]))))))) (.reg [q499, q499, (o q199), (o q313), (o q175), q510, (o q459), (o (.app 1 8 (.x 2) (.x 0))), (o q364), (o q313), (o q298)])))))))), []⟩
theorem c146_ok : FnOk Tryz.prog Bts 146 c146 := fn_ok (wm := true) (na := 3) Tryz.func146 (by kernel_rfl) (by kernel_rfl) (by kernel_rfl)
def c147 : FnC := ⟨false, 7, [(some 5), (some 6)], (.seq (.reg [(p 3 (.box (.f 5))), (p 0 (.box (.f 6))), (p 1 q183), q536]) (.seq (.seq (.reg [(o q187), (o q316), (p 4 q185)]) (.cond (.f 4) (.seq (.reg [(o q469), (o q228), (p 2 (.mv q7))]) .ret) .skip)) (.seq (.reg [(o q243), (o q187), (o (.call q54 [(.x 1), (.x 0)])), (o q228), q536]) .ret))), [(.cell true 4 1), (.p 2)]⟩
theorem c147_ok : FnOk Tryz.prog Bts 147 c147 := fn_ok (wm := false) (na := 2) Tryz.func147 (by kernel_rfl) (by kernel_rfl) (by kernel_rfl)
def c148 : FnC := ⟨false, 12, [(some 5), (some 4)], (.seq (.reg [q539, (p 10 (.mv q3))]) (.seq (.seq (.reg [q496, q493, (p 11 q185)]) (.cond (.f 11) (.seq (.reg [q539, (p 10 (.mv q3))]) .ret) .skip)) (.seq (.reg [q531]) (.seq (.block 0 (.loop (.seq (.seq (.reg [q498, q493, (p 7 q195)]) (.cond (.f 7) .skip (.exit 0))) (.block 1 (.seq (.reg [q498, (o q209), (o q180), (p 1 q220), (o q226)]) (.seq (.seq (.reg [q501]) (.block 2 (.loop (.seq (.reg [(p 3 q417)]) (.seq (.cond (.f 3) .skip (.exit 2)) (.seq (.block 3 (.seq (.reg [q489, q500]) (.reg [q491, (o q188), (o q227), (o q175), q496, q491, (o q429), (o q192), (o q301), (o q175), (o q465), (o q188), (o (.ixR 4 1 (.x 0) (.x 11))), (o q298)]))) (.reg [(o q197), q495]))))))) (.seq (.seq (.reg [(o q188), (o q176), (o q422), (p 8 q194)]) (.cond (.f 8) (.seq (.reg [q539, (p 10 (.mv q3))]) .ret) .skip)) (.seq (.reg [(o q245), (o q176), q496, (o q209), (o q206), (o q176), (o q338), q492, (o q178), (o q179), (o q245), (o q216)]) (.seq (.reg [q499, (o q281), (o q211), (o q320), q509]) (.reg [q498, q496, (o q281), (o q211), (o q260), (o (.call q47 [(.x 4), (.x 0)])), q507])))))))))) (.seq (.reg [q499, q517, (p 10 (.mv q4))]) .ret))))), [(.p 9), (.p 10)]⟩
theorem c148_ok : FnOk Tryz.prog Bts 148 c148 := fn_ok (wm := false) (na := 2) Tryz.func148 (by kernel_rfl) (by kernel_rfl) (by kernel_rfl)
def c149 : FnC := ⟨false, 3, [(some 2), none], (.seq (.reg [q512, (p 1 q183)]) (.seq (.reg [(o q210), (o q228)]) .ret)), [(.cell true 4 1)]⟩
theorem c149_ok : FnOk Tryz.prog Bts 149 c149 := fn_ok (wm := false) (na := 2) Tryz.func149 (by kernel_rfl) (by kernel_rfl) (by kernel_rfl)
def c150 : FnC := ⟨false, 10, [(some 8), (some 9)], (.seq (.reg [(p 4 (.box (.f 9))), q531]) (.seq (.seq (.reg [(o q266), (o q252), (p 7 q185)]) (.cond (.f 7) (.seq (.reg [q531]) .ret) .skip)) (.seq (.reg [q506, (o (.call (.k (.t (.one (.c (.v (.func (.func 214) ⟨[]⟩ ⟨[]⟩)))))) [(.x 0)])), q500]) (.seq (.seq (.reg [q491, q579, q501]) (.block 0 (.loop (.seq (.reg [(p 3 q311)]) (.seq (.cond (.f 3) .skip (.exit 0)) (.seq (.block 1 (.seq (.reg [q489, q497]) (.reg [q491, q490, q491, q490, (o q184), (o q206), (o q176), (o q266), (o q277), (o (.ixS 8 (.x 8) (.x 7))), (o q206), (o q216)]))) (.reg [(o q197), q495]))))))) (.seq (.reg [q491, q509]) .ret))))), [(.p 6)]⟩
theorem c150_ok : FnOk Tryz.prog Bts 150 c150 := fn_ok (wm := false) (na := 2) Tryz.func150 (by kernel_rfl) (by kernel_rfl) (by kernel_rfl)
def c151 : FnC := ⟨true, 8, [(some 2), (some 6), (some 7)], (.seq (.reg [q564, (p 0 (.box (.f 7)))]) (.seq (.seq (.reg [q491, (o q219), (o (.lku [(.c (.v (.bool false))), (.c (.v (.slice none 0 0))), (.c (.v (.bool false))), (.c (.v (.slice none 0 0)))] (.x 1) (.x 0))), q492, (o q178), (o q179), (p 3 q183), (o q216), q590]) (.seq (.reg [(p 5 (.mv (.f 4)))]) (.cond (.f 5) (.reg [(o q202), (o q210), (o q387), (o q251)]) .skip))) (.reg [q491, (o q219), (o q210), (o (.mset (.x 2) (.x 1) (.x 0)))]))), []⟩
theorem c151_ok : FnOk Tryz.prog Bts 151 c151 := fn_ok (wm := true) (na := 3) Tryz.func151 (by kernel_rfl) (by kernel_rfl) (by kernel_rfl)
def c152 : FnC := ⟨true, 8, [(some 6)], (.seq (.reg [q580]) (.seq (.reg [q499, (o (.lenM (.x 0))), (o q467), q500]) (.seq (.seq (.reg [q499, (p 3 (.rng (.x 0)))]) (.block 0 (.loop (.seq (.reg [(o .bad), (p 4 q178)]) (.seq (.cond (.f 4) .skip (.exit 0)) (.block 1 (.seq (.reg [(o (.ent (.f 3))), (o q178), (o q179), (p 0 q407), (p 1 q183), (o q329), (o q329)]) (.seq (.reg [(o q210), (o q422), q492, ⟨(some (0, true)), none, [], q219⟩, q692, q693, (p 5 q224)]) (.cond (.f 5) (.reg [q491, (o q210), (o q219), (o q336), (o q211), (o q430), q500]) .skip))))))))) (.seq (.reg [q491, (o (.call (.k (.t (.one (.c (.v (.func (.func 215) ⟨[]⟩ ⟨[]⟩)))))) [(.x 0), (.k (.t (.one (.c (.v (.func (.func 216) ⟨[]⟩ ⟨[]⟩))))))]))]) (.seq (.reg [q491, q521]) .ret))))), [(.p 7)]⟩
theorem c152_ok : FnOk Tryz.prog Bts 152 c152 := fn_ok (wm := true) (na := 1) Tryz.func152 (by kernel_rfl) (by kernel_rfl) (by kernel_rfl)
def c153 : FnC := ⟨false, 8, [(some 7)], (.seq (.reg [q531]) (.seq (.reg [(o .mkm), q502]) (.seq (.seq (.reg [(p 4 (.mv (.f 7))), q579, q501]) (.block 0 (.loop (.seq (.reg [(p 2 q311)]) (.seq (.cond (.f 2) .skip (.exit 0)) (.seq (.block 1 (.seq (.reg [(o (.ixS 8 (.f 4) (.f 0))), (o q180), (p 1 q220), (o q226)]) (.reg [q494, (o q188), (o q176), (o q245), (o q176), (o q420)]))) (.reg [(o q197), q495]))))))) (.seq (.reg [q494, (o q351), q509]) .ret)))), [(.p 6)]⟩
theorem c153_ok : FnOk Tryz.prog Bts 153 c153 := fn_ok (wm := false) (na := 1) Tryz.func153 (by kernel_rfl) (by kernel_rfl) (by kernel_rfl)
def c154 : FnC := ⟨false, 8, [(some 2), (some 3)], (.seq (.reg [(p 0 (.mv q6)), (p 1 (.mv q6))]) (.seq (.cond q3 (.seq (.reg [q491, (o q322), q494, (o q322), (o (.call (.k (.t (.one (.c (.v (.func (.func 217) ⟨[]⟩ ⟨[]⟩)))))) [(.x 2), (.x 0)])), q492, (o q178), (o q179), q538, q544]) (.seq (.reg [q496, (o q221), q498, (o q221), q606, q519]) .ret)) .skip) (.seq (.reg [q491, q494, (o (.call (.k (.t (.one (.c (.v (.func (.func 218) ⟨[]⟩ ⟨[]⟩)))))) [(.x 1), (.x 0)])), q492, (o q178), (o q179), q575, q582]) (.seq (.reg [q499, q503, q524, q519]) .ret)))), [(.p 0), (.p 1)]⟩
theorem c154_ok : FnOk Tryz.prog Bts 154 c154 := fn_ok (wm := false) (na := 2) Tryz.func154 (by kernel_rfl) (by kernel_rfl) (by kernel_rfl)
def c161 : FnC := ⟨false, 6, [(some 2), (some 3)], (.seq (.reg [q576]) (.seq (.reg [(o (.bsl [(.slice none 0 0)] 1 0 [] [])), q497]) (.seq (.seq (.reg [q501]) (.block 0 (.loop (.seq (.seq (.reg [q489, q491, q494, (o q248), (p 4 (.pk (.bin .leq) [(.x 3), (.x 0)]))]) (.cond (.f 4) .skip (.exit 0))) (.seq (.block 1 (.reg [q490, q491, q494, q489, (o q470), (o q296), (o (.app 1 24 (.x 5) (.x 0))), q497])) (.reg [q489, (o q182), q495])))))) (.seq (.reg [q490, q507]) .ret)))), [(.p 5)]⟩
theorem c161_ok : FnOk Tryz.prog Bts 161 c161 := fn_ok (wm := false) (na := 2) Tryz.func161 (by kernel_rfl) (by kernel_rfl) (by kernel_rfl)
def c162 : FnC := ⟨false, 5, [(some 3), (some 4)], (.seq (.reg [q511, q513, q540]) (.seq (.reg [(o q186), (o q181), (o q188), (o q181), (o (.call q153 [(.x 2), (.x 0)])), q492, ⟨(some (0, true)), none, [], q207⟩, ⟨(some (1, true)), none, [], q181⟩, ⟨(some (2, true)), none, [], q231⟩, ⟨(some (3, true)), none, [], q181⟩, ⟨(some (4, true)), none, [], (.call q153 [(.x 2), (.x 0)])⟩, (o q315), q500]) .ret)), [(.p 2)]⟩
theorem c162_ok : FnOk Tryz.prog Bts 162 c162 := fn_ok (wm := false) (na := 2) Tryz.func162 (by kernel_rfl) (by kernel_rfl) (by kernel_rfl)
def c164 : FnC := ⟨false, 3, [(some 2)], (.seq (.reg [q512, q541]) (.seq (.reg [(o (.slcR 4 1 (.f 0))), (o (.call (.k (.t (.one (.c (.v (.func (.func 225) ⟨[]⟩ ⟨[]⟩)))))) [(.x 0)])), (o q203), q497]) .ret)), [(.p 1)]⟩
theorem c164_ok : FnOk Tryz.prog Bts 164 c164 := fn_ok (wm := false) (na := 1) Tryz.func164 (by kernel_rfl) (by kernel_rfl) (by kernel_rfl)
def c165 : FnC := ⟨false, 9, [(some 7), (some 8)], (.seq (.reg [(p 5 (.box (.f 7))), (p 6 (.box (.f 8))), q530]) (.seq (.seq (.reg [q594]) (.block 0 (.loop (.seq (.seq (.reg [q489, (p 2 q203)]) (.cond (.f 2) .skip (.exit 0))) (.seq (.block 1 (.seq (.reg [q489, (o (.ixR 4 1 (.f 5) (.x 0))), (o q175), q489, (o (.ixR 4 1 (.f 6) (.x 0))), (o q175), (o (.call (.k (.t (.one (.c (.v (.func (.func 220) ⟨[]⟩ ⟨[]⟩)))))) [(.x 3), (.x 0)])), q497]) (.seq (.reg [q490, (p 3 q218)]) (.cond (.f 3) (.seq (.reg [q490, q504]) .ret) .skip)))) (.reg [q489, (o q177), q495])))))) (.seq (.reg [q530]) .ret))), [(.p 4)]⟩
theorem c165_ok : FnOk Tryz.prog Bts 165 c165 := fn_ok (wm := false) (na := 2) Tryz.func165 (by kernel_rfl) (by kernel_rfl) (by kernel_rfl)
def c166 : FnC := ⟨true, 13, [(some 11), (some 7), (some 10)], (.seq (.reg [q588]) (.seq (.seq (.reg [q508, q493, q503, q493, (p 12 q402)]) (.cond (.f 12) (.seq (.reg [q588]) .ret) .skip)) (.seq (.seq (.reg [(p 8 (.mv (.f 11))), q581, q501]) (.block 0 (.loop (.seq (.reg [(p 4 q453)]) (.seq (.cond (.f 4) .skip (.exit 0)) (.seq (.block 1 (.seq (.reg [q489, (o (.ixS 8 (.f 8) (.f 0))), (o q180), (p 2 q220), q620, (o (.sto 8 (.x 1) (.x 2)))]) (.seq (.reg [q503, q490, (o q184), (o q180), (p 3 q220), (o q226)]) (.seq (.reg [q505, (o (.ld true 8 (.f 2))), (o (.ld true 8 (.f 3))), (o q328), (p 5 q194)]) (.cond (.f 5) (.seq (.reg [q588]) .ret) .skip))))) (.reg [(o q197), q495]))))))) (.seq (.reg [(p 6 (.mv q4))]) .ret)))), [(.p 6)]⟩
theorem c166_ok : FnOk Tryz.prog Bts 166 c166 := fn_ok (wm := true) (na := 3) Tryz.func166 (by kernel_rfl) (by kernel_rfl) (by kernel_rfl)
def c167 : FnC := ⟨false, 5, [(some 3), (some 4)], (.seq (.reg [q511, q513, q540]) (.seq (.reg [(o q186), (o q176), (o q188), (o q176), (o q471), q492, ⟨(some (0, true)), none, [], q273⟩, q624, ⟨(some (2, true)), none, [], q245⟩, q627, ⟨(some (4, true)), none, [], (.call q36 [(.x 2), (.x 0)])⟩, ⟨(some (5, true)), none, [], q185⟩, (o q307), q500]) .ret)), [(.p 2)]⟩
theorem c167_ok : FnOk Tryz.prog Bts 167 c167 := fn_ok (wm := false) (na := 2) Tryz.func167 (by kernel_rfl) (by kernel_rfl) (by kernel_rfl)
def c168 : FnC := ⟨false, 4, [(some 0)], (.seq (.reg [q516]) (.seq (.seq (.reg [q489, q493, (p 3 q185)]) (.cond (.f 3) (.seq (.reg [q516]) .ret) .skip)) (.seq (.reg [(o q213), q489, (o q209), (o q206), ⟨none, none, [3], q176⟩, (o q338), q492, (o q178), (o q179), (p 2 q183), (o q216), q523]) (.seq (.reg [q489, (o q271), (o q350), q497]) .ret)))), [(.p 1)]⟩
theorem c168_ok : FnOk Tryz.prog Bts 168 c168 := fn_ok (wm := false) (na := 1) Tryz.func168 (by kernel_rfl) (by kernel_rfl) (by kernel_rfl)
def c169 : FnC := ⟨false, 2, [(some 0)], (.seq (.reg [q541]) (.seq (.reg [q489, q493, (o q261), q492, q591, q694, q695, q627, ⟨(some (4, true)), none, [], (.bld [(.c (.v (.int .i64 (Int.ofNat 0)))), (.c (.v (.int .i64 (Int.ofNat 0)))), (.c (.v (.int .i64 (Int.ofNat 0)))), (.c (.v (.int .i64 (Int.ofNat 0))))] [(0, 1), (1, 1), (2, 1), (3, 1)] [] [])⟩, ⟨(some (5, true)), none, [], (.pk (.eqA 4) [(.x 1), (.x 0)])⟩, (o q307), q497]) .ret)), [(.p 1)]⟩
theorem c169_ok : FnOk Tryz.prog Bts 169 c169 := fn_ok (wm := false) (na := 1) Tryz.func169 (by kernel_rfl) (by kernel_rfl) (by kernel_rfl)
def c170 : FnC := ⟨false, 1, [], (.seq (.reg [q515]) (.seq (.reg [(o q213), (o q357), q495]) .ret)), [(.p 0)]⟩
theorem c170_ok : FnOk Tryz.prog Bts 170 c170 := fn_ok (wm := false) (na := 0) Tryz.func170 (by kernel_rfl) (by kernel_rfl) (by kernel_rfl)
def c171 : FnC := ⟨false, 10, [(some 9)], (.seq (.reg [q537]) (.seq (.seq (.reg [(p 1 (.mv q7))]) (.block 0 (.loop (.seq (.seq (.reg [q490, (p 8 q203)]) (.cond (.f 8) .skip (.exit 0))) (.seq (.block 1 (.seq (.reg [(p 5 (.mv (.f 9))), q548, q501]) (.block 2 (.loop (.seq (.reg [(p 3 q276)]) (.seq (.cond (.f 3) .skip (.exit 2)) (.seq (.block 3 (.seq (.reg [(o q337), (o q175), q500]) (.seq (.reg [q491, q490, (o q237), (p 4 q195)]) (.cond (.f 4) (.seq (.reg [q490, q521]) .ret) .skip)))) (.reg [(o q197), q495])))))))) (.reg [q490, (o q177), q497])))))) (.seq (.reg [(p 7 (.mv q11))]) .ret))), [(.p 7)]⟩
theorem c171_ok : FnOk Tryz.prog Bts 171 c171 := fn_ok (wm := false) (na := 1) Tryz.func171 (by kernel_rfl) (by kernel_rfl) (by kernel_rfl)
def c172 : FnC := ⟨false, 3, [(some 1), (some 2)], (.seq (.reg [q515]) (.seq (.reg [q490, q491, (o q282), (o (.call (.k (.t (.one (.c (.v (.func (.func 226) ⟨[]⟩ ⟨[]⟩)))))) [(.x 0)])), q495]) .ret)), [(.p 0)]⟩
theorem c172_ok : FnOk Tryz.prog Bts 172 c172 := fn_ok (wm := false) (na := 2) Tryz.func172 (by kernel_rfl) (by kernel_rfl) (by kernel_rfl)
def c173 : FnC := ⟨false, 12, [(some 3), (some 0), (some 1)], (.seq (.reg [q560]) (.seq (.seq (.reg [q494, q490, (o q237), q489, q490, (o q237), (p 9 q409)]) (.cond (.f 9) (.reg [q489, q494, q525, q524]) .skip)) (.seq (.reg [q494, q489, q490, (o (.call (.k (.t (.one (.c (.v (.func (.func 227) ⟨[]⟩ ⟨[]⟩)))))) [(.x 2), (.x 1), (.x 0)])), q521]) (.seq (.seq (.reg [q503, (p 10 q185)]) (.cond (.f 10) (.seq (.reg [(o q356), q504]) .ret) .skip)) (.seq (.seq (.reg [q494, q489, (o q349), q492, (o q178), (o q179), q542, q573]) (.seq (.reg [q506, q492, ⟨(some (0, true)), none, [], (.mv (.f 7))⟩, q533, q628, ⟨(some (3, true)), none, [], q237⟩, ⟨(some (4, true)), none, [], q466⟩, (p 11 q315)]) (.cond (.f 11) (.seq (.reg [q489, q504]) .ret) .skip))) (.block 0 (.loop (.block 1 (.seq (.reg [q494, q489, q490, (o (.call (.k (.t (.one (.c (.v (.func (.func 228) ⟨[]⟩ ⟨[]⟩)))))) [(.x 2), (.x 1), (.x 0)])), q492, (o q178), (o q179), q545, q542]) (.seq (.block 2 (.seq (.reg [q491, q493, (o q185), q507]) (.cond (.f 5) (.seq (.reg [q489, q504]) .ret) (.seq (.reg [q491, q490, (o q237), (o q185), q509]) (.cond (.f 6) (.seq (.reg [(o q356), q504]) .ret) .skip))))) (.reg [q489, q491, q490, (o (.call (.k (.t (.one (.c (.v (.func (.func 229) ⟨[]⟩ ⟨[]⟩)))))) [(.x 1), (.x 0)])), (o q355), q629, q524]))))))))))), [(.p 4)]⟩
theorem c173_ok : FnOk Tryz.prog Bts 173 c173 := fn_ok (wm := false) (na := 3) Tryz.func173 (by kernel_rfl) (by kernel_rfl) (by kernel_rfl)
def c174 : FnC := ⟨false, 4, [(some 2), (some 3)], (.seq (.reg [q515]) (.seq (.reg [q491, q494, (o q349), q492, (o q178), (o q179), q519, q542]) (.seq (.reg [q490, q495]) .ret))), [(.p 0)]⟩
theorem c174_ok : FnOk Tryz.prog Bts 174 c174 := fn_ok (wm := false) (na := 2) Tryz.func174 (by kernel_rfl) (by kernel_rfl) (by kernel_rfl)
def c175 : FnC := ⟨false, 4, [(some 3)], (.seq (.reg [q511, q516]) (.seq (.seq (.reg [(o q210), (o q252), (p 2 q185)]) (.cond (.f 2) (.seq (.reg [q516]) .ret) .skip)) (.seq (.reg [(o q210), (o q310), (o q211), q497]) .ret))), [(.p 1)]⟩
theorem c175_ok : FnOk Tryz.prog Bts 175 c175 := fn_ok (wm := false) (na := 1) Tryz.func175 (by kernel_rfl) (by kernel_rfl) (by kernel_rfl)
def c176 : FnC := ⟨true, 7, [(some 5), (some 6), (some 3)], (.seq (.reg [q600, q564, (p 2 q191)]) (.seq (.seq (.reg [(o q193), (o q175), (o q217), (o q175), (p 4 q426)]) (.cond (.f 4) (.seq (.reg [q494, (o q186), (o q175), (o q188), (o q175), (o (.call (.x 4) [(.x 2), (.x 0)])), (o q193), ⟨none, none, [1], q175⟩, (o (.call q37 [(.x 2), (.x 0)])), (o q178), (o q179), (o q425), (o q230)]) .ret) .skip)) (.seq (.reg [q494, (o q186), (o q175), (o q217), (o q175), (o q260), (o q188), ⟨none, none, [1], q175⟩, (o q193), ⟨none, none, [3], q175⟩, (o q260), (o (.call (.x 10) [(.x 5), (.x 0)])), (o q193), ⟨none, none, [1, 2, 7], q175⟩, (o q217), ⟨none, none, [3, 4, 9], q175⟩, (o q260), (o q339), (o q178), (o q179), (o q425), (o q230)]) .ret))), [(.cell true 2 2)]⟩
theorem c176_ok : FnOk Tryz.prog Bts 176 c176 := fn_ok (wm := true) (na := 3) Tryz.func176 (by kernel_rfl) (by kernel_rfl) (by kernel_rfl)
def c177 : FnC := ⟨false, 3, [(some 1), (some 2)], (.seq (.reg [q515]) (.seq (.reg [q490, q491, (o (.call q5 [q11])), (o q350), (o (.call q44 [(.x 3), (.x 0)])), q495]) .ret)), [(.p 0)]⟩
theorem c177_ok : FnOk Tryz.prog Bts 177 c177 := fn_ok (wm := false) (na := 2) Tryz.func177 (by kernel_rfl) (by kernel_rfl) (by kernel_rfl)
def c178 : FnC := ⟨false, 3, [(some 2), none], (.seq (.reg [q512, (p 1 q191)]) (.seq (.reg [(o q187), (o q259)]) .ret)), [(.cell true 2 1)]⟩
theorem c178_ok : FnOk Tryz.prog Bts 178 c178 := fn_ok (wm := false) (na := 2) Tryz.func178 (by kernel_rfl) (by kernel_rfl) (by kernel_rfl)
def c179 : FnC := ⟨false, 11, [(some 9), (some 4), (some 10)], (.seq (.reg [q592, (p 0 q333), (p 5 q191), q546]) (.seq (.reg [(o q188), (o q175), q496, (o q187), (o q472), q492, (o q178), (o q179), q582, q545]) (.seq (.reg [(o q217), (o q175), q496, (o q187), (o q472), q492, (o q178), (o q179), q573, q525]) (.seq (.reg [q503, (o q193), (o q175), q494, q491, (o q208), (o q363), q696, (o q360), q506, (o q193), ⟨none, none, [2, 3], q175⟩, q491, q494, (o q208), (o q363), q696, (o q360), (o (.call q37 [(.x 9), (.x 0)])), (o q178), (o q179), (o (.sto 2 (.f 5) (.x 1))), q575]) .ret)))), [(.cell true 2 5), (.p 6)]⟩
theorem c179_ok : FnOk Tryz.prog Bts 179 c179 := fn_ok (wm := false) (na := 3) Tryz.func179 (by kernel_rfl) (by kernel_rfl) (by kernel_rfl)
def c180 : FnC := ⟨false, 5, [(some 3), (some 4)], (.seq (.reg [q511, q513, (p 2 q191)]) (.seq (.reg [(o q187), (o q189), (o (.call q145 [(.x 1), (.x 0), q44])), (o q230)]) .ret)), [(.cell true 2 2)]⟩
theorem c180_ok : FnOk Tryz.prog Bts 180 c180 := fn_ok (wm := false) (na := 2) Tryz.func180 (by kernel_rfl) (by kernel_rfl) (by kernel_rfl)
def c181 : FnC := ⟨false, 2, [(some 1)], (.seq (.reg [(p 0 q191)]) (.seq (.reg [q490, (o (.call q90 [(.x 0)])), (o q397), (o q242)]) .ret)), [(.cell true 2 0)]⟩
theorem c181_ok : FnOk Tryz.prog Bts 181 c181 := fn_ok (wm := false) (na := 1) Tryz.func181 (by kernel_rfl) (by kernel_rfl) (by kernel_rfl)
def c183 : FnC := ⟨false, 10, [(some 2), (some 9)], (.seq (.reg [q592, q531]) (.seq (.reg [q501]) (.seq (.block 0 (.loop (.seq (.seq (.reg [q489, q491, q493, (o q204), q492, q571, q533, q653, q654, q578, ⟨(some (5, true)), none, [], q188⟩, ⟨(some (6, true)), none, [], q176⟩, ⟨(some (7, true)), none, [], (.call q77 [(.x 2), (.x 0)])⟩, (p 3 q375)]) (.cond (.f 3) .skip (.exit 0))) (.block 1 (.reg [q489, (o q182), q495]))))) (.seq (.reg [(o q236), q491, q489, (o (.slc 8 (.x 1) none (some (.x 0)))), (o (.app 8 96 (.x 3) (.x 0))), q507]) (.seq (.reg [q491, q489, (o (.slc 8 (.x 1) (some (.x 0)) none)), q504]) (.seq (.seq (.reg [q496, q493, (o q195), q492, q549, q694, q695, q627, ⟨(some (4, true)), none, [], q188⟩, q687, ⟨(some (6, true)), none, [], q471⟩, (p 7 q272)]) (.cond (.f 7) (.seq (.reg [(o q245), (o q176), q496, (o q209), (o q206), (o q176), (o (.call q78 [(.x 4), (.x 0)])), (o q245), (o q198)]) (.reg [q496, (o q321), q504])) .skip)) (.seq (.seq (.reg [(o q245), (o q176), (o q289), (o q218), q492, ⟨(some (0, true)), none, [], q188⟩, q624, ⟨(some (2, true)), none, [], (.call q146 [(.x 0)])⟩, (p 8 q224)]) (.cond (.f 8) (.reg [q498, (o q281), (o q211), (o q320), q507]) .skip)) (.seq (.reg [q498, q496, (o q361), q509]) .ret)))))))), [(.p 6)]⟩
theorem c183_ok : FnOk Tryz.prog Bts 183 c183 := fn_ok (wm := false) (na := 2) Tryz.func183 (by kernel_rfl) (by kernel_rfl) (by kernel_rfl)
def c184 : FnC := ⟨false, 3, [(some 0)], (.seq (.reg [q516]) (.seq (.seq (.reg [q489, q493, (p 2 q185)]) (.cond (.f 2) (.seq (.reg [q516]) .ret) .skip)) (.seq (.reg [q489, (o q287), q489, (o q209), (o q206), ⟨none, none, [3], q176⟩, q671, (o (.call q42 [(.x 6), (.x 0)])), q497]) .ret))), [(.p 1)]⟩
theorem c184_ok : FnOk Tryz.prog Bts 184 c184 := fn_ok (wm := false) (na := 1) Tryz.func184 (by kernel_rfl) (by kernel_rfl) (by kernel_rfl)
def c185 : FnC := ⟨false, 5, [(some 2), (some 3)], (.seq (.reg [q530]) (.seq (.reg [q594]) (.seq (.block 0 (.loop (.seq (.seq (.reg [q489, (o q203), q492, q571, q533, q697, q698, (o q264), q492, q622, q533, q697, q698, (p 1 q264)]) (.cond (.f 1) .skip (.exit 0))) (.block 1 (.reg [q489, (o q177), q495]))))) (.seq (.reg [q489, q504]) .ret)))), [(.p 4)]⟩
theorem c185_ok : FnOk Tryz.prog Bts 185 c185 := fn_ok (wm := false) (na := 2) Tryz.func185 (by kernel_rfl) (by kernel_rfl) (by kernel_rfl)
def c186 : FnC := ⟨false, 1, [], (.seq (.reg [q515]) (.seq (.reg [(o q287), (o q334), q495]) .ret)), [(.p 0)]⟩
theorem c186_ok : FnOk Tryz.prog Bts 186 c186 := fn_ok (wm := false) (na := 0) Tryz.func186 (by kernel_rfl) (by kernel_rfl) (by kernel_rfl)
def c187 : FnC := ⟨false, 7, [(some 5), (some 6)], (.seq (.reg [q560]) (.seq (.reg [q498, q499, q684, (o q236), q545, q519]) (.seq (.seq (.reg [q501]) (.block 0 (.loop (.seq (.seq (.reg [q489, q491, q493, (p 3 q204)]) (.cond (.f 3) .skip (.exit 0))) (.seq (.block 1 (.reg [q490, q491, q489, (o q190), (o q175), (o (.call q87 [(.x 4), (.x 0)])), q497])) (.reg [q489, (o q182), q495])))))) (.seq (.reg [q490, q504]) .ret)))), [(.p 4)]⟩
theorem c187_ok : FnOk Tryz.prog Bts 187 c187 := fn_ok (wm := false) (na := 2) Tryz.func187 (by kernel_rfl) (by kernel_rfl) (by kernel_rfl)
def c188 : FnC := ⟨false, 4, [(some 0), (some 3)], (.seq (.reg [q516]) (.seq (.seq (.reg [q489, q493, (p 2 q185)]) (.cond (.f 2) (.seq (.reg [q516]) .ret) .skip)) (.seq (.reg [q489, q489, q494, (o q427), (o (.call (.k (.t (.one (.c (.v (.func (.func 235) ⟨[]⟩ ⟨[]⟩)))))) [(.x 3), (.x 0)])), q497]) .ret))), [(.p 1)]⟩
theorem c188_ok : FnOk Tryz.prog Bts 188 c188 := fn_ok (wm := false) (na := 2) Tryz.func188 (by kernel_rfl) (by kernel_rfl) (by kernel_rfl)
def c189 : FnC := ⟨false, 6, [(some 2), (some 4)], (.seq (.reg [q604]) (.seq (.reg [(p 1 (.mv q11))]) (.seq (.seq (.reg [q501]) (.block 0 (.loop (.seq (.seq (.reg [q489, q491, q493, (p 3 q204)]) (.cond (.f 3) .skip (.exit 0))) (.seq (.block 1 (.reg [q490, q491, q489, q496, (o q433), (o q192), (o q301), (o q175), (o (.pk .max [(.x 7), (.x 0)])), q497])) (.reg [q489, (o q182), q495])))))) (.seq (.reg [q490, q507]) .ret)))), [(.p 5)]⟩
theorem c189_ok : FnOk Tryz.prog Bts 189 c189 := fn_ok (wm := false) (na := 2) Tryz.func189 (by kernel_rfl) (by kernel_rfl) (by kernel_rfl)
def c190 : FnC := ⟨false, 12, [(some 10), (some 11), (some 4)], (.seq (.reg [q534]) (.seq (.seq (.reg [(p 3 (.mv (.k (.t (.one (.c (.v (.int .i64 (Int.ofNat 17)))))))))]) (.block 0 (.loop (.seq (.seq (.reg [q494, (p 7 (.pk (.bin .lss) [(.x 0), (.k (.t (.one (.c (.v (.int .i64 (Int.ofNat 300)))))))]))]) (.cond (.f 7) .skip (.exit 0))) (.seq (.block 1 (.seq (.reg [q505, q496, q494, (o q221), (o q473), q492, (o q178), (o q179), q519, q544]) (.seq (.reg [q508, q496, q494, (o q221), (o q473), q492, (o q178), (o q179), q524, q575]) (.seq (.seq (.reg [q498, (o q194), q492, ⟨(some (0, false)), none, [], (.mv (.f 6))⟩, ⟨(some (1, false)), none, [], q194⟩, (p 8 q294)]) (.cond (.f 8) (.exit 1) .skip)) (.seq (.block 2 (.loop (.seq (.seq (.reg [q489, q493, (p 2 q195)]) (.cond (.f 2) .skip (.exit 2))) (.block 3 (.reg [q489, q490, q489, (o (.call (.k (.t (.one (.c (.v (.func (.func 237) ⟨[]⟩ ⟨[]⟩)))))) [(.x 1), (.x 0)])), q620, q524]))))) (.seq (.reg [q490, q493, (o q177), q517]) .ret)))))) (.reg [q494, (o (.pk (.bin .add) [(.x 0), (.k (.t (.one (.c (.v (.int .i64 (Int.ofNat 100)))))))])), q502])))))) (.seq (.reg [q505, q496, (o q248), q517]) .ret))), [(.p 9)]⟩
theorem c190_ok : FnOk Tryz.prog Bts 190 c190 := fn_ok (wm := false) (na := 3) Tryz.func190 (by kernel_rfl) (by kernel_rfl) (by kernel_rfl)
def c191 : FnC := ⟨false, 12, [(some 10), (some 6), (some 2)], (.seq (.reg [q583, q534]) (.seq (.seq (.reg [q499, q493, (p 11 q185)]) (.cond (.f 11) (.seq (.reg [(o q236), q514, (p 9 (.mv q7))]) .ret) .skip)) (.seq (.reg [q499, q491, (o q248), q499, q491, (o (.call (.k (.t (.one (.c (.v (.func (.func 238) ⟨[]⟩ ⟨[]⟩)))))) [(.x 1), (.x 0)])), q505, q629, (p 7 (.mv (.x 2))), q630]) (.seq (.seq (.reg [q505, q491, (o q248), q495]) (.block 0 (.loop (.seq (.seq (.reg [q489, q494, (p 5 q280)]) (.cond (.f 5) .skip (.exit 0))) (.seq (.block 1 (.seq (.reg [q490, q491, q489, (o q470), q491, (o (.call q114 [(.x 0)])), q489, q494, (o q208), (o (.call (.k (.t (.one (.c (.v (.func (.func 239) ⟨[]⟩ ⟨[]⟩)))))) [(.x 3), (.x 0)])), (o (.call q17 [(.x 6), (.x 0)])), q504]) (.reg [q503, q490, (o q359), q496, q499, (o q359), q689, q497]))) (.reg [q489, (o q177), q495])))))) (.seq (.reg [q490, q514, q534]) .ret))))), [(.p 8), (.p 9)]⟩
theorem c191_ok : FnOk Tryz.prog Bts 191 c191 := fn_ok (wm := false) (na := 3) Tryz.func191 (by kernel_rfl) (by kernel_rfl) (by kernel_rfl)
def c192 : FnC := ⟨false, 3, [(some 2)], (.seq (.reg [q512, q541]) (.seq (.reg [(o (.ixR 4 1 (.f 0) q0)), (o q175), (o q203), q492, ⟨(some (0, true)), none, [], (.ixR 4 1 (.f 0) q1)⟩, q522, q631, (o q224), q492, ⟨(some (0, true)), none, [], (.ixR 4 1 (.f 0) q10)⟩, q522, q631, (o q224), q492, ⟨(some (0, true)), none, [], (.ixR 4 1 (.f 0) q7)⟩, q522, q631, (o q224), q497]) .ret)), [(.p 1)]⟩
theorem c192_ok : FnOk Tryz.prog Bts 192 c192 := fn_ok (wm := false) (na := 1) Tryz.func192 (by kernel_rfl) (by kernel_rfl) (by kernel_rfl)
def c193 : FnC := ⟨false, 6, [(some 4), (some 5)], (.seq (.reg [q532, q529, (p 2 q183), q527]) (.seq (.reg [(o q186), (o q181), (o q231), (o q181), (o q278), (o q207), ⟨none, none, [1], q181⟩, (o q188), ⟨none, none, [3], q181⟩, (o q278), (o (.call q149 [(.x 5), (.x 0)])), (o q178), (o q179), (o (.sto 4 (.f 2) (.x 1))), q525]) .ret)), [(.cell true 4 2), (.p 3)]⟩
theorem c193_ok : FnOk Tryz.prog Bts 193 c193 := fn_ok (wm := false) (na := 2) Tryz.func193 (by kernel_rfl) (by kernel_rfl) (by kernel_rfl)
def c194 : FnC := ⟨false, 3, [(some 1), (some 2)], (.seq (.reg [q515]) (.seq (.reg [q490, q491, (o (.call q16 [q11])), (o q343), (o (.call q70 [(.x 3), (.x 0)])), q495]) .ret)), [(.p 0)]⟩
theorem c194_ok : FnOk Tryz.prog Bts 194 c194 := fn_ok (wm := false) (na := 2) Tryz.func194 (by kernel_rfl) (by kernel_rfl) (by kernel_rfl)
def c198 : FnC := ⟨false, 11, [(some 9), (some 10)], (.seq (.reg [q592, (p 0 q333), (p 2 q183), q527]) (.seq (.seq (.reg [(o q187), (o q388), (p 7 q185)]) (.cond (.f 7) (.seq (.reg [(o q469), (o q235), (p 3 (.mv q7))]) .ret) .skip)) (.seq (.seq (.reg [(o q187), (o q388), (p 8 q201)]) (.cond (.f 8) (.reg [(o q189), (o q421), ⟨none, none, [0], q187⟩, (o q421), (o q419), (o (.sto 2 (.f 0) (.x 1)))]) .skip)) (.seq (.reg [(o q189), (o q187), (o (.call (.k (.t (.one (.c (.v (.func (.func 240) ⟨[]⟩ ⟨[]⟩)))))) [(.x 1), (.x 0)])), (p 4 q196), (o q214)]) (.seq (.reg [(o q189), (o q290), q699, q492, (o q178), (o q179), (o q225), (p 5 q196), (o q196), (o q241), (o q241), q566]) (.seq (.reg [(o q187), (o q290), q699, q492, (o q178), (o q179), (o q225), (p 6 q196), (o q196), (o q241), (o q241), q566]) (.seq (.reg [(o q434), (o q431), (o q309), (o q235), q527]) .ret))))))), [(.cell true 4 2), (.p 3)]⟩
theorem c198_ok : FnOk Tryz.prog Bts 198 c198 := fn_ok (wm := false) (na := 2) Tryz.func198 (by kernel_rfl) (by kernel_rfl) (by kernel_rfl)
def c199 : FnC := ⟨false, 5, [(some 3), (some 4)], (.seq (.reg [q511, q513, q543]) (.seq (.reg [(o q240), q493, (o (.mkf 242 [(.f 0), (.f 1)])), (o q413), q500]) .ret)), [(.p 2)]⟩
theorem c199_ok : FnOk Tryz.prog Bts 199 c199 := fn_ok (wm := false) (na := 2) Tryz.func199 (by kernel_rfl) (by kernel_rfl) (by kernel_rfl)
def c200 : FnC := ⟨false, 1, [], (.seq (.reg [(p 0 q183)]) (.seq (.reg [(o q213), (o q251)]) .ret)), [(.cell true 4 0)]⟩
theorem c200_ok : FnOk Tryz.prog Bts 200 c200 := fn_ok (wm := false) (na := 0) Tryz.func200 (by kernel_rfl) (by kernel_rfl) (by kernel_rfl)
def c201 : FnC := ⟨true, 17, [(some 13), (some 14)], (.seq (.reg [(p 16 (.mv q2))]) (.seq (.reg [q526, q493, (o q177), q528, q493, (o q177), (p 12 (.mv (.x 3))), q613]) (.seq (.reg [q520, q510, (o q200), (o q435), q509]) (.seq (.seq (.reg [q499, (p 15 (.len (.x 0))), q595]) (.block 0 (.loop (.seq (.reg [(p 10 (.pk (.bin .lss) [(.f 8), (.f 15)]))]) (.seq (.cond (.f 10) .skip (.exit 0)) (.seq (.block 1 (.seq (.reg [q506, q502]) (.seq (.reg [q499, q494, q520, q510, (o q200), (o q435), (o (.ixS 1 (.x 5) (.x 4))), (o q205)]) (.seq (.reg [q526, q494, q545, q544]) (.seq (.seq (.reg [q494, q510, (p 11 q280)]) (.cond (.f 11) (.reg [q528, q494, q510, (o q208), q563, q544]) .skip)) (.seq (.reg [q491, q625, q501]) (.block 2 (.loop (.seq (.reg [(p 4 q403)]) (.seq (.cond (.f 4) .skip (.exit 2)) (.seq (.block 3 (.seq (.reg [q489, q497]) (.reg [q499, q494, (o q190), (o q175), q498, q491, q493, (o q253), (o q177), q490, (o q208), q491, q490, (o q190), (o q175), (o (.ixS 1 (.x 11) (.x 4))), (o q205)]))) (.reg [(o q197), q495])))))))))))) (.reg [q662, q514]))))))) (.seq (.reg [q499, q616]) .ret))))), [(.p 16)]⟩
theorem c201_ok : FnOk Tryz.prog Bts 201 c201 := fn_ok (wm := true) (na := 2) Tryz.func201 (by kernel_rfl) (by kernel_rfl) (by kernel_rfl)
def c202 : FnC := ⟨true, 10, [(some 8), (some 4)], (.seq (.reg [q539]) (.seq (.reg [q506, q496, (o q237), (o q182), (o q435), q502]) (.seq (.seq (.reg [(p 6 (.mv (.f 8))), q625, q501]) (.block 0 (.loop (.seq (.reg [(p 5 q403)]) (.seq (.cond (.f 5) .skip (.exit 0)) (.seq (.block 1 (.seq (.reg [(o (.ixS 8 (.f 6) (.f 0))), (o q180), (p 1 q220), (o q226)]) (.seq (.reg [q496, (o q188), (o q227), (o q175), q500]) (.seq (.reg [q496, (o q188), (o q227), (o (.sto 1 (.x 0) q0))]) (.reg [q494, q491, q494, q491, (o q190), (o q175), (o q281), (o q211), (o q320), (o (.ixS 1 (.x 8) (.x 7))), (o q205)]))))) (.reg [(o q197), q495]))))))) (.seq (.reg [q494, q517]) .ret)))), [(.p 9)]⟩
theorem c202_ok : FnOk Tryz.prog Bts 202 c202 := fn_ok (wm := true) (na := 2) Tryz.func202 (by kernel_rfl) (by kernel_rfl) (by kernel_rfl)
def c203 : FnC := ⟨true, 3, [(some 2)], (.seq (.reg [q512, q607]) (.seq (.reg [(o (.mkf 243 [(.f 0)])), q497]) .ret)), [(.p 1)]⟩
theorem c203_ok : FnOk Tryz.prog Bts 203 c203 := fn_ok (wm := true) (na := 1) Tryz.func203 (by kernel_rfl) (by kernel_rfl) (by kernel_rfl)
def c204 : FnC := ⟨false, 6, [(some 5)], (.seq (.reg [q599]) (.seq (.reg [(p 0 q254)]) (.seq (.seq (.reg [q498, (o (.call (.k (.t (.one (.c (.v (.func (.func 245) ⟨[]⟩ ⟨[]⟩)))))) [(.x 0)])), (p 4 (.call (.k (.t (.one (.c (.v (.func (.func 244) ⟨[]⟩ ⟨[]⟩)))))) [(.x 0)]))]) (.block 0 (.rf (.f 4) 204))) (.seq (.reg [(o q240), q502]) .ret)))), [(.p 3)]⟩
theorem c204_ok : FnOk Tryz.prog Bts 204 c204 := fn_ok (wm := false) (na := 1) Tryz.func204 (by kernel_rfl) (by kernel_rfl) (by kernel_rfl)
def b204 : BdC := ⟨6, [(some 2)], (.reg [(p 1 (.mv (.f 2)))]), (.block 1 (.reg [(o q240), q490, ⟨none, none, [1], (.call q151 [(.x 0)])⟩, (o q296), (o (.app 1 24 (.x 3) (.x 0))), (o q323)]))⟩
theorem b204_ok : BdOk Tryz.prog Bts 204 b204 := bd_ok Tryz.func204 (by kernel_rfl) (by kernel_rfl)
def c205 : FnC := ⟨false, 22, [(some 20)], (.seq (.reg [(p 21 (.mv q2))]) (.seq (.reg [(o q267), q632, (p 2 q196), (p 5 q196), (o q365), (o q365)]) (.seq (.seq (.reg [(p 15 (.mv (.f 20))), (p 16 (.len (.x 0))), q527]) (.block 0 (.loop (.seq (.reg [(p 12 (.pk (.bin .lss) [(.f 3), (.f 16)]))]) (.seq (.cond (.f 12) .skip (.exit 0)) (.seq (.block 1 (.seq (.reg [(o (.ixS 4 (.f 15) (.f 3))), (o q176), (p 6 q183), (o q198)]) (.seq (.reg [(o (.off 2 (.f 6))), (o q181), (o q246), (o (.off 2 (.f 6))), (o q181), ⟨none, none, [3], (.call q56 [(.x 2), (.x 0)])⟩, (o (.call q30 [(.x 4), (.x 0)])), q492, (o q178), (o q179), (o q225), (p 10 q196), (o q196), (o q241), (o q241), q566]) (.reg [(o q246), (o (.ld true 2 (.f 10))), (o q354), (o q230)])))) (.reg [q700, q502]))))))) (.seq (.reg [(o (.mv (.f 20))), q493, (o (.mk [(.bool false), (.slice none 0 0)] 2 32 (.x 0) (.x 0))), q497]) (.seq (.seq (.reg [(p 17 (.mv (.f 20))), (p 18 (.len (.x 0))), q501]) (.block 2 (.loop (.seq (.reg [(p 13 (.pk (.bin .lss) [(.f 0), (.f 18)]))]) (.seq (.cond (.f 13) .skip (.exit 2)) (.seq (.block 3 (.seq (.reg [q489, (o (.ixS 4 (.f 17) (.f 0))), (o q176), (p 8 q183), (p 7 (.mv (.x 3))), (o q297)]) (.seq (.reg [(o q246), (o (.off 2 (.f 8))), (o q181), q691, q492, (o q178), (o q179), (o q225), (p 11 q196), (o q196), (o q241), (o q241), q566]) (.seq (.reg [q490, q503, (o (.off 0 (.f 8))), (o q181), (o q384), (o q354), (o (.ixS 2 (.x 5) (.x 4))), (o q214)]) (.reg [(o q434), q490, q503, (o q436), (o q181), (o (.call q56 [(.x 4), (.x 0)])), (o (.sto 2 (.f 5) (.x 0)))]))))) (.reg [(o q197), q495]))))))) (.seq (.seq (.reg [q490, (p 19 (.len (.x 0))), q530]) (.block 4 (.loop (.seq (.reg [(p 14 (.pk (.bin .lss) [(.f 4), (.f 19)]))]) (.seq (.cond (.f 14) .skip (.exit 4)) (.seq (.block 5 (.seq (.reg [q496, q517]) (.reg [q490, q510, q490, q510, (o q436), (o q181), (o q434), (o q353), q492, (o q178), (o q179), (o q225), (o (.ixS 2 (.x 11) (.x 10))), (o (.sto 2 (.x 0) (.x 3)))]))) (.reg [q683, q504]))))))) (.seq (.reg [q490, (p 21 (.mv (.x 0)))]) .ret))))))), [(.p 21)]⟩
theorem c205_ok : FnOk Tryz.prog Bts 205 c205 := fn_ok (wm := false) (na := 1) Tryz.func205 (by kernel_rfl) (by kernel_rfl) (by kernel_rfl)
def c206 : FnC := ⟨true, 15, [(some 11), (some 12), (some 4), (some 5), (some 13), (some 6), (some 14), (some 7)], (.seq (.reg [(p 2 (.box (.f 11))), (p 0 (.box (.f 12)))]) (.seq (.seq (.reg [q496, q498, (p 8 q437)]) (.cond (.f 8) .ret .skip)) (.seq (.reg [(o q246), (o q187), (o (.call q85 [(.x 1), (.x 0)])), (o (.call q14 [q10])), (o q353), q492, (o q178), (o q179), (o q225), (p 1 q196), (o q196), (o q241), (o q241), q566]) (.seq (.seq (.reg [(o q189), (o q246), (o q400), (p 9 q185)]) (.cond (.f 9) (.seq (.seq (.reg [(o (.ld false 1 (.f 13))), (o q187), ⟨none, none, [1], q362⟩, (o (.call q157 [(.x 2), (.x 0)])), (p 10 q185)]) (.cond (.f 10) (.reg [(o (.ld false 1 (.f 6))), (o q187), (o (.bsl [(.bool false), (.slice none 0 0)] 2 1 [0] [(.x 0)])), (o (.app 2 32 (.x 2) (.x 0))), (o (.sto 1 (.f 6) (.x 0)))]) .skip)) .ret) .skip)) (.seq (.reg [(o (.ld false 1 (.f 14))), (o q189), ⟨none, none, [1], q362⟩, (o q432), q502]) (.seq (.reg [(o q302), (o q246), (o q189), q496, q494, (o q474)]) (.reg [(o q302), (o q189), (o q187), q494, q498, (o q474)]))))))), []⟩
theorem c206_ok : FnOk Tryz.prog Bts 206 c206 := fn_ok (wm := true) (na := 8) Tryz.func206 (by kernel_rfl) (by kernel_rfl) (by kernel_rfl)
def c207 : FnC := ⟨false, 9, [(some 7), (some 8)], (.seq (.reg [(p 2 (.box (.f 8))), q604]) (.seq (.reg [q632, (o q267), (p 1 q196), (p 0 q196), (o q365), (o q365)]) (.seq (.seq (.reg [q503, (p 6 (.call (.k (.t (.one (.c (.v (.func (.func 246) ⟨[]⟩ ⟨[]⟩)))))) [(.x 0)]))]) (.block 0 (.rf (.f 6) 207))) (.seq (.reg [(o q189), (o q316), q507]) .ret)))), [(.p 5)]⟩
theorem c207_ok : FnOk Tryz.prog Bts 207 c207 := fn_ok (wm := false) (na := 2) Tryz.func207 (by kernel_rfl) (by kernel_rfl) (by kernel_rfl)
def b207 : BdC := ⟨9, [none, (some 4)], (.reg [(p 3 q196), (o (.sto 2 (.x 0) (.f 4)))]), (.block 1 (.seq (.reg [(o q189), (o (.off 0 (.f 2))), (o q181), q713, ⟨none, none, [0], q243⟩, ⟨none, none, [1], q187⟩, (o q354), (o (.call q85 [(.x 3), (.x 0)])), (o q259)]) (.reg [(o q187), (o (.off 2 (.f 2))), (o q181), q713, (o q242)])))⟩
theorem b207_ok : BdOk Tryz.prog Bts 207 b207 := bd_ok Tryz.func207 (by kernel_rfl) (by kernel_rfl)
def c208 : FnC := ⟨false, 3, [(some 2)], (.seq (.reg [q512, (p 1 q183)]) (.seq (.reg [(o q187), ⟨none, none, [0], q267⟩, (o q309), (o q228)]) .ret)), [(.cell true 4 1)]⟩
theorem c208_ok : FnOk Tryz.prog Bts 208 c208 := fn_ok (wm := false) (na := 1) Tryz.func208 (by kernel_rfl) (by kernel_rfl) (by kernel_rfl)
def c209 : FnC := ⟨false, 12, [(some 10), (some 11)], (.seq (.reg [(p 3 (.box (.f 11))), q595]) (.seq (.reg [(p 7 q342), (p 9 q342), (o (.sto 1 (.x 1) q0)), (o (.sto 1 (.x 1) q0))]) (.seq (.reg [(o (.mkf 247 [(.f 9), (.f 7)])), q504]) (.seq (.seq (.reg [(p 5 (.mv (.f 10))), q548, q501]) (.block 0 (.loop (.seq (.reg [(p 2 q276)]) (.seq (.cond (.f 2) .skip (.exit 0)) (.seq (.block 1 (.seq (.reg [(o q337), (o q175), q497]) (.reg [q496, q490, (o q202), (o (.call q157 [(.x 1), (.x 0)])), (o (.call (.x 3) [(.x 0)]))]))) (.reg [(o q197), q495]))))))) (.seq (.reg [(o q302), q514]) .ret))))), [(.p 8)]⟩
theorem c209_ok : FnOk Tryz.prog Bts 209 c209 := fn_ok (wm := false) (na := 2) Tryz.func209 (by kernel_rfl) (by kernel_rfl) (by kernel_rfl)
def c210 : FnC := ⟨false, 12, [(some 2)], (.seq (.reg [(p 9 q196)]) (.seq (.seq (.reg [q491, q493, (p 11 (.pk (.bin .lss) [(.x 0), q10]))]) (.cond (.f 11) (.seq (.reg [q632, (o (.sto 2 (.f 9) (.x 0)))]) .ret) .skip)) (.seq (.reg [(o q244), (p 3 q183), (o q198)]) (.seq (.seq (.reg [q491, q491, q493, (o q177), (p 7 (.slc 4 (.x 3) none (some (.x 0)))), q562, q501]) (.block 0 (.loop (.seq (.reg [(p 5 q314)]) (.seq (.cond (.f 5) .skip (.exit 0)) (.seq (.block 1 (.seq (.reg [(o (.ixS 4 (.f 7) (.f 0))), (o q176), (p 4 q183), (o q198)]) (.seq (.reg [(o q266), q491, q491, q493, (o q177), (o q340), (o q176), (o (.call q24 [(.x 6), (.x 0)])), q492, (o q178), (o q179), (p 1 q183), (o q216), q523]) (.seq (.reg [(o q188), (o q192), (o (.sto 1 (.x 0) q3))]) (.seq (.reg [(o q219), (o q202), (o q399), (p 6 q195)]) (.cond (.f 6) (.reg [(o q219), (o q331)]) .skip)))))) (.reg [(o q197), q495]))))))) (.seq (.reg [(o q202), ⟨none, none, [0], q213⟩, (o q387), (o q394), (o (.call q141 [(.x 0)])), (p 10 q196), (o q214)]) (.seq (.reg [(o (.ld true 2 (.f 10))), (o q318), (o (.sto 2 (.f 9) (.x 0)))]) .ret)))))), [(.cell true 2 9)]⟩
theorem c210_ok : FnOk Tryz.prog Bts 210 c210 := fn_ok (wm := false) (na := 1) Tryz.func210 (by kernel_rfl) (by kernel_rfl) (by kernel_rfl)
def c211 : FnC := ⟨true, 4, [(some 2), (some 3)], (.seq (.reg [q491, q493, (o q177), q495]) (.block 0 (.loop (.seq (.seq (.reg [q489, (p 1 q203)]) (.cond (.f 1) .skip (.exit 0))) (.seq (.block 1 (.reg [q491, q489, q494, q489, (o q275), (o (.ixS 4 (.x 4) (.x 3))), (o q198)])) (.reg [q489, (o q177), q495])))))), []⟩
theorem c211_ok : FnOk Tryz.prog Bts 211 c211 := fn_ok (wm := true) (na := 2) Tryz.func211 (by kernel_rfl) (by kernel_rfl) (by kernel_rfl)
def c212 : FnC := ⟨true, 4, [(some 1), (some 2), (some 3)], (.seq (.reg [(p 0 q183)]) (.seq (.reg [(o q247), q490, (o q212), (o q176), (o q202), (o q277), (o q251)]) .ret)), [(.cell true 4 0)]⟩
theorem c212_ok : FnOk Tryz.prog Bts 212 c212 := fn_ok (wm := true) (na := 3) Tryz.func212 (by kernel_rfl) (by kernel_rfl) (by kernel_rfl)
def c213 : FnC := ⟨true, 5, [(some 0), (some 2), (some 3), (some 4)], (.seq (.reg [(p 1 q183)]) (.seq (.reg [(o q247), q489, (o q212), (o q176), (o q202), (o (.ld false 1 (.f 4))), q489, (o q212), (o q176), ⟨none, none, [5, 8], (.call q12 [(.x 4), (.x 0)])⟩, q675, (o q228)]) .ret)), [(.cell true 4 1)]⟩
theorem c213_ok : FnOk Tryz.prog Bts 213 c213 := fn_ok (wm := true) (na := 4) Tryz.func213 (by kernel_rfl) (by kernel_rfl) (by kernel_rfl)
def c214 : FnC := ⟨true, 3, [(some 1)], (.seq (.reg [q515]) (.seq (.seq (.reg [q490, (p 2 q347)]) (.cond (.f 2) (.seq (.reg [q515]) .ret) .skip)) (.seq (.reg [(o q236), q490, (o q361), q495]) .ret))), [(.p 0)]⟩
theorem c214_ok : FnOk Tryz.prog Bts 214 c214 := fn_ok (wm := true) (na := 1) Tryz.func214 (by kernel_rfl) (by kernel_rfl) (by kernel_rfl)
def c215 : FnC := ⟨true, 3, [(some 1), (some 2)], (.seq (.reg [q490, q493, q495]) (.reg [q490, q489, q489, (o q221), (o (.call q158 [(.x 0)])), q491, (o (.call q102 [(.x 5), q0, (.x 4), (.x 1), (.x 0)]))])), []⟩
theorem c215_ok : FnOk Tryz.prog Bts 215 c215 := fn_ok (wm := true) (na := 2) Tryz.func215 (by kernel_rfl) (by kernel_rfl) (by kernel_rfl)
def c216 : FnC := ⟨false, 5, [(some 3), (some 4)], (.seq (.reg [q511, q513, q536]) (.seq (.reg [(o q188), (o q176), (o q186), (o q176), (o (.call q94 [(.x 2), (.x 0)])), q500]) .ret)), [(.p 2)]⟩
theorem c216_ok : FnOk Tryz.prog Bts 216 c216 := fn_ok (wm := false) (na := 2) Tryz.func216 (by kernel_rfl) (by kernel_rfl) (by kernel_rfl)
def c217 : FnC := ⟨false, 5, [(some 3), (some 4)], (.seq (.reg [(p 1 (.mv q159)), (p 2 (.mv q159))]) (.seq (.reg [q494, (o q221), q496, (o q221), (o q438), q495]) (.seq (.reg [q489, (o q283), (o q322), q489, (o q322), q630, q545]) .ret))), [(.p 1), (.p 2)]⟩
theorem c217_ok : FnOk Tryz.prog Bts 217 c217 := fn_ok (wm := false) (na := 2) Tryz.func217 (by kernel_rfl) (by kernel_rfl) (by kernel_rfl)
def c218 : FnC := ⟨false, 12, [(some 1), (some 2)], (.seq (.reg [(p 8 (.mv q6)), (p 9 (.mv q6))]) (.seq (.reg [q490, (o q439), q502]) (.seq (.reg [q490, (o q283), q504]) (.seq (.reg [q491, (o q439), q507]) (.seq (.reg [q491, (o q283), q509]) (.seq (.reg [q494, q498, (o q232), q547]) (.seq (.reg [q496, q498, (o q232), q505, (o q283), (o q253), q521]) (.seq (.reg [q503, (o q439), q495]) (.seq (.reg [q503, (o q283), q558]) (.seq (.reg [q489, q494, q499, (o q232), (o q303), q495]) (.seq (.reg [q496, q499, (o q232), q508, (o q200), q489, (o q283), (o q253), q514]) (.seq (.reg [q490, q491, (o q232), q517]) .ret)))))))))))), [(.p 8), (.p 9)]⟩
theorem c218_ok : FnOk Tryz.prog Bts 218 c218 := fn_ok (wm := false) (na := 2) Tryz.func218 (by kernel_rfl) (by kernel_rfl) (by kernel_rfl)
def c220 : FnC := ⟨false, 10, [(some 0), (some 1)], (.seq (.reg [q534]) (.seq (.reg [q489, (o (.call q160 [(.x 0)])), q500]) (.seq (.reg [q490, (o (.call q160 [(.x 0)])), q502]) (.seq (.seq (.reg [(p 4 (.mv (.f 2)))]) (.cond (.f 4) (.seq (.seq (.reg [(p 5 (.mv (.f 3)))]) (.cond (.f 5) (.seq (.reg [q534]) .ret) .skip)) (.seq (.reg [(p 9 (.mv q11))]) .ret)) .skip)) (.seq (.seq (.reg [(p 6 (.mv (.f 3)))]) (.cond (.f 6) (.seq (.reg [(p 9 (.mv q1))]) .ret) .skip)) (.seq (.seq (.reg [q489, q490, (p 7 q250)]) (.cond (.f 7) (.seq (.reg [(p 9 (.mv q11))]) .ret) .skip)) (.seq (.seq (.reg [q489, q490, (p 8 q304)]) (.cond (.f 8) (.seq (.reg [(p 9 (.mv q1))]) .ret) .skip)) (.seq (.reg [q534]) .ret)))))))), [(.p 9)]⟩
theorem c220_ok : FnOk Tryz.prog Bts 220 c220 := fn_ok (wm := false) (na := 2) Tryz.func220 (by kernel_rfl) (by kernel_rfl) (by kernel_rfl)
def c223 : FnC := ⟨false, 9, [(some 3), (some 4), (some 7)], (.seq (.reg [q583]) (.seq (.reg [(o q236), q500]) (.seq (.seq (.reg [q501]) (.block 0 (.loop (.seq (.seq (.reg [q489, q494, q493, (p 5 q204)]) (.cond (.f 5) .skip (.exit 0))) (.seq (.block 1 (.seq (.reg [q494, q489, (o q184), (o q180), (p 1 q220), (o q226)]) (.seq (.reg [q496, (o q188), (o q227), (o q175), q503, (p 6 q437)]) (.cond (.f 6) (.seq (.reg [q496, (o q188), (o q227), (o (.sto 1 (.x 0) q0))]) (.reg [q491, (o q281), (o q211), (o q320), q500])) .skip)))) (.reg [q489, (o q182), q495])))))) (.seq (.reg [q491, q514]) .ret)))), [(.p 8)]⟩
theorem c223_ok : FnOk Tryz.prog Bts 223 c223 := fn_ok (wm := false) (na := 3) Tryz.func223 (by kernel_rfl) (by kernel_rfl) (by kernel_rfl)
def c225 : FnC := ⟨false, 6, [(some 1)], (.seq (.reg [q530]) (.seq (.seq (.reg [q490, q493, (p 5 q358)]) (.cond (.f 5) (.reg [(o .bad), (o .bad)]) .skip)) (.seq (.reg [q490, (o q346), (o q175), q500]) (.seq (.seq (.reg [(p 0 (.mv q1))]) (.block 0 (.loop (.seq (.seq (.reg [q489, q490, q493, (p 3 q204)]) (.cond (.f 3) .skip (.exit 0))) (.seq (.block 1 (.reg [q491, q490, q489, (o q190), (o q175), (o (.pk .min [(.x 4), (.x 0)])), q500])) (.reg [q489, (o q182), q495])))))) (.seq (.reg [q491, q504]) .ret))))), [(.p 4)]⟩
theorem c225_ok : FnOk Tryz.prog Bts 225 c225 := fn_ok (wm := false) (na := 1) Tryz.func225 (by kernel_rfl) (by kernel_rfl) (by kernel_rfl)
def c226 : FnC := ⟨false, 9, [(some 8)], (.seq (.reg [q580]) (.seq (.reg [q516]) (.seq (.seq (.reg [(p 5 (.mv (.f 8))), q548, q501]) (.block 0 (.loop (.seq (.reg [(p 3 q276)]) (.seq (.cond (.f 3) .skip (.exit 0)) (.seq (.block 1 (.seq (.reg [(o q337), (o q175), q500]) (.seq (.reg [q490, q491, (o q348), q497]) (.seq (.reg [q490, (p 4 q423)]) (.cond (.f 4) (.exit 0) .skip))))) (.reg [(o q197), q495]))))))) (.seq (.reg [q490, q521]) .ret)))), [(.p 7)]⟩
theorem c226_ok : FnOk Tryz.prog Bts 226 c226 := fn_ok (wm := false) (na := 1) Tryz.func226 (by kernel_rfl) (by kernel_rfl) (by kernel_rfl)
def c227 : FnC := ⟨false, 12, [(some 10), (some 11), (some 2)], (.seq (.reg [q534]) (.seq (.seq (.reg [(p 0 (.mv q6))]) (.block 0 (.loop (.seq (.reg [(p 7 (.pk (.bin .lss) [(.f 0), (.k (.t (.one (.c (.v (.int .u64 (Int.ofNat 3)))))))]))]) (.seq (.cond (.f 7) .skip (.exit 0)) (.seq (.block 1 (.seq (.reg [q489, q497]) (.seq (.reg [q505, q491, q490, (o q475), (o q476), (o q477), q492, (o q178), (o q179), q525, q538]) (.seq (.reg [q508, q491, q490, (o q475), (o q476), (o q477), q492, (o q178), (o q179), q544, q575]) (.seq (.reg [q496, q492, q586, (p 8 (.pick (.x 1) (.x 0) q3))]) (.cond (.f 8) (.seq (.reg [q494, q498, (o (.call (.k (.t (.one (.c (.v (.func (.func 253) ⟨[]⟩ ⟨[]⟩)))))) [(.x 1), (.x 0)])), q517]) .ret) .skip)))))) (.reg [(o (.pk (.bin .add) [(.f 0), q32])), q495]))))))) (.seq (.reg [q505, q491, (o q237), q508, q491, (o q237), (o (.pk .min [(.x 3), (.x 0)])), q517]) .ret))), [(.p 9)]⟩
theorem c227_ok : FnOk Tryz.prog Bts 227 c227 := fn_ok (wm := false) (na := 3) Tryz.func227 (by kernel_rfl) (by kernel_rfl) (by kernel_rfl)
def c228 : FnC := ⟨false, 17, [(some 16), (some 14), (some 11)], (.seq (.reg [q557, (p 13 (.mv q0))]) (.seq (.seq (.reg [q528, q493, (p 15 q185)]) (.cond (.f 15) (.seq (.reg [q557, (p 13 (.mv q7))]) .ret) .skip)) (.seq (.reg [q528, q508, (o q282), q507]) (.seq (.reg [q498, q493, (o q177), q504]) (.seq (.reg [(o (.mv (.f 16))), q508, (o q282), q495]) (.seq (.block 0 (.loop (.seq (.seq (.reg [q489, q493, q496, (p 10 q304)]) (.cond (.f 10) .skip (.exit 0))) (.block 1 (.seq (.reg [q489, q489, q493, (o q177), (o q249), (o q175), q514]) (.seq (.reg [q489, q489, q493, (o q177), (o q440), q495]) (.seq (.reg [q489, q581, q536]) (.block 2 (.loop (.seq (.reg [(p 6 (.pk (.bin .lss) [(.f 2), (.f 9)]))]) (.seq (.cond (.f 6) .skip (.exit 2)) (.seq (.block 3 (.seq (.reg [q491, q497]) (.seq (.reg [q489, q490, q489, q490, (o q190), (o q175), q498, q496, (o q190), (o q175), (o (.call q8 [(.x 4), (.x 0)])), (o (.ixS 1 (.x 10) (.x 9))), (o q205)]) (.seq (.reg [q490, q489, q493, q496, (o q208), (o (.pk (.bin .sub) [(.x 4), (.x 0)])), q502]) (.seq (.reg [q494, (p 7 q203)]) (.cond (.f 7) (.reg [q489, q490, q489, q490, (o q190), (o q175), q506, q498, q494, (o q190), (o q175), ⟨none, none, [5], (.call q8 [(.x 4), (.x 0)])⟩, (o (.call q47 [(.x 6), (.x 0)])), (o (.ixS 1 (.x 12) (.x 11))), (o q205)]) .skip)))))) (.reg [(o (.pk (.bin .add) [(.f 2), q1])), q500]))))))))))))) (.seq (.reg [q489, q508, (o (.call (.k (.t (.one (.c (.v (.func (.func 254) ⟨[]⟩ ⟨[]⟩)))))) [(.x 1), (.x 0)])), q554, (p 13 (.mv q0))]) .ret))))))), [(.p 12), (.p 13)]⟩
theorem c228_ok : FnOk Tryz.prog Bts 228 c228 := fn_ok (wm := false) (na := 3) Tryz.func228 (by kernel_rfl) (by kernel_rfl) (by kernel_rfl)
def c229 : FnC := ⟨false, 4, [(some 0), (some 3)], (.seq (.reg [q516]) (.seq (.seq (.reg [q489, q493, (p 2 q185)]) (.cond (.f 2) (.seq (.reg [q516]) .ret) .skip)) (.seq (.reg [q489, q489, q494, (o q319), (o (.call q64 [(.x 3), (.x 0)])), q497]) .ret))), [(.p 1)]⟩
theorem c229_ok : FnOk Tryz.prog Bts 229 c229 := fn_ok (wm := false) (na := 2) Tryz.func229 (by kernel_rfl) (by kernel_rfl) (by kernel_rfl)
def c230 : FnC := ⟨false, 8, [(some 5), (some 6), (some 7)], (.seq (.reg [(p 2 (.box (.f 7))), q599, q530]) (.seq (.reg [q498, q499, (o q282), (p 1 q254), (o q205)]) (.seq (.reg [(p 0 (.new [(.c (.v .nilFunc))]))]) (.seq (.reg [(o (.mkf 255 [(.f 1), (.f 0), (.f 2)])), (o q323)]) (.seq (.reg [(o q240), (o (.call (.x 0) [q0])), ⟨none, none, [0], q255⟩, q493, (o q177), (o q363), q629, q538]) .ret))))), [(.p 3), (.p 4)]⟩
theorem c230_ok : FnOk Tryz.prog Bts 230 c230 := fn_ok (wm := false) (na := 3) Tryz.func230 (by kernel_rfl) (by kernel_rfl) (by kernel_rfl)
def c231 : FnC := ⟨false, 8, [(some 1), (some 0)], (.seq (.reg [q531]) (.seq (.seq (.reg [q489, (p 7 q201)]) (.cond (.f 7) (.seq (.reg [q531]) .ret) .skip)) (.seq (.reg [(o q213), (o q357), q500]) (.seq (.block 0 (.loop (.seq (.seq (.reg [q489, (p 3 q195)]) (.cond (.f 3) .skip (.exit 0))) (.seq (.block 1 (.seq (.seq (.reg [q489, q701, (p 4 q261)]) (.cond (.f 4) (.reg [q491, q490, (o q441), q500]) .skip)) (.seq (.reg [q489, (p 5 (.pk (.bin .gtr) [(.x 0), q1]))]) (.cond (.f 5) (.reg [q490, q490, (o q441), q497]) .skip)))) (.reg [q489, (o q478), q495]))))) (.seq (.reg [q491, q509]) .ret))))), [(.p 6)]⟩
theorem c231_ok : FnOk Tryz.prog Bts 231 c231 := fn_ok (wm := false) (na := 2) Tryz.func231 (by kernel_rfl) (by kernel_rfl) (by kernel_rfl)
def c235 : FnC := ⟨false, 4, [(some 2), (some 3)], (.seq (.reg [q515]) (.seq (.reg [q491, q494, (o q404), q492, (o q178), (o q179), q519, q542]) (.seq (.reg [q490, q495]) .ret))), [(.p 0)]⟩
theorem c235_ok : FnOk Tryz.prog Bts 235 c235 := fn_ok (wm := false) (na := 2) Tryz.func235 (by kernel_rfl) (by kernel_rfl) (by kernel_rfl)
def c236 : FnC := ⟨false, 15, [(some 3), (some 6), (some 7)], (.seq (.reg [q584, (p 14 (.mv q3))]) (.seq (.reg [q494, q499, (o q248), (o q182), (o q479), q514]) (.seq (.seq (.reg [q518]) (.block 0 (.loop (.seq (.seq (.reg [q490, q494, q493, (p 11 q204)]) (.cond (.f 11) .skip (.exit 0))) (.seq (.block 1 (.seq (.reg [q494, q490, (o q184), (o q206), (o q300), (o q181), (o (.call q163 [(.x 0)])), q517]) (.seq (.seq (.reg [q510, (p 12 q366)]) (.cond (.f 12) (.seq (.reg [q584, (p 14 (.mv q3))]) .ret) .skip)) (.seq (.reg [q494, q490, (o q184), (o q206), (o q192), (o q181), (o (.call q163 [(.x 0)])), q510, (o (.call q105 [(.x 0), q68])), (o q438), (o q222), q500]) (.seq (.seq (.reg [q501]) (.block 2 (.loop (.seq (.seq (.reg [q489, (p 4 q408)]) (.cond (.f 4) .skip (.exit 2))) (.seq (.block 3 (.seq (.reg [q489, q499, (p 5 q299)]) (.cond (.f 5) (.reg [q491, q503, q489, (o q221), (o q253), q494, q490, q489, (o q433), (o q192), (o q301), (o q175), (o (.call q105 [(.x 7), (.x 0)])), (o (.pk (.bin .mul) [(.x 12), (.x 0)])), (o q222), q500]) .skip))) (.reg [q489, (o q182), q495])))))) (.seq (.reg [q494, q490, q499, (o q433), (o q192), (o q301), (o q175), q547]) (.reg [q506, q505, q506, q505, (o q190), (o q175), q491, (o q200), (o q222), (o (.ixS 1 (.x 8) (.x 7))), (o q205)]))))))) (.reg [q490, (o q182), q497])))))) (.seq (.reg [q506, q506, q506, q493, (o q177), (o q249), (o q175), q702, (p 13 (.mv (.x 7))), q617]) .ret)))), [(.p 13), (.p 14)]⟩
theorem c236_ok : FnOk Tryz.prog Bts 236 c236 := fn_ok (wm := false) (na := 3) Tryz.func236 (by kernel_rfl) (by kernel_rfl) (by kernel_rfl)
def c237 : FnC := ⟨false, 11, [(some 10), (some 2)], (.seq (.reg [q539]) (.seq (.reg [(o q480), q505, (o (.app 1 8 (.x 1) (.x 0))), q495]) (.seq (.reg [q491, q491, q493, (o q177), (o q249), (o q175), (o (.call q105 [(.x 0), q68])), q514]) (.seq (.block 0 (.loop (.seq (.seq (.reg [q489, q493, q491, q493, (p 7 q412)]) (.cond (.f 7) .skip (.exit 0))) (.block 1 (.seq (.reg [q489, q489, q493, (o q177), (o q249), (o q175), q506, (o q232), (o q222), q489, q493, q491, q493, (o q345), (p 6 (.mv (.x 5))), q525]) (.seq (.seq (.reg [q518]) (.block 2 (.loop (.seq (.seq (.reg [q490, q491, q493, (p 4 q204)]) (.cond (.f 4) .skip (.exit 2))) (.seq (.block 3 (.reg [q489, q494, q490, (o q200), q489, q494, q490, (o q200), (o q249), (o q175), q491, q490, (o q190), (o q175), (o q367), q499, (o q232), (o q418), (o q222), (o (.ixS 1 (.x 18) (.x 15))), (o q205)])) (.reg [q490, (o q182), q497])))))) (.block 4 (.loop (.seq (.seq (.reg [q489, q493, (o q195), q492, q591, q533, q623, q633, q703, q704, q705, (p 5 q272)]) (.cond (.f 5) .skip (.exit 4))) (.block 5 (.reg [q489, q489, q493, (o q177), (o q440), q495]))))))))))) (.seq (.reg [q489, q517]) .ret))))), [(.p 9)]⟩
theorem c237_ok : FnOk Tryz.prog Bts 237 c237 := fn_ok (wm := false) (na := 2) Tryz.func237 (by kernel_rfl) (by kernel_rfl) (by kernel_rfl)
def c238 : FnC := ⟨false, 3, [(some 0), (some 1)], (.seq (.reg [q543]) (.seq (.reg [q489, q490, q489, q490, (o q248), (o (.call q100 [(.x 4), (.x 3), (.x 0)])), q500]) .ret)), [(.p 2)]⟩
theorem c238_ok : FnOk Tryz.prog Bts 238 c238 := fn_ok (wm := false) (na := 2) Tryz.func238 (by kernel_rfl) (by kernel_rfl) (by kernel_rfl)
def c239 : FnC := ⟨false, 7, [(some 4), (some 3)], (.seq (.reg [q576]) (.seq (.seq (.reg [q494, (p 6 q201)]) (.cond (.f 6) (.seq (.reg [(o q236), q507]) .ret) .skip)) (.seq (.reg [(o (.call (.k (.t (.one (.c (.v (.func (.func 260) ⟨[]⟩ ⟨[]⟩)))))) [q1])), q497]) (.seq (.seq (.reg [q501]) (.block 0 (.loop (.seq (.seq (.reg [q489, q494, (p 2 q250)]) (.cond (.f 2) .skip (.exit 0))) (.seq (.block 1 (.reg [q490, q496, (o q359), q497])) (.reg [q489, (o q182), q495])))))) (.seq (.reg [q490, q507]) .ret))))), [(.p 5)]⟩
theorem c239_ok : FnOk Tryz.prog Bts 239 c239 := fn_ok (wm := false) (na := 2) Tryz.func239 (by kernel_rfl) (by kernel_rfl) (by kernel_rfl)
def c242 : FnC := ⟨true, 4, [(some 1), (some 2), (some 3)], (.seq (.reg [(p 0 q183)]) (.seq (.reg [(o q247), q490, (o q212), (o q176), (o q202), (o q277), (o q251)]) .ret)), [(.cell true 4 0)]⟩
theorem c242_ok : FnOk Tryz.prog Bts 242 c242 := fn_ok (wm := true) (na := 3) Tryz.func242 (by kernel_rfl) (by kernel_rfl) (by kernel_rfl)
def c243 : FnC := ⟨true, 5, [(some 4), (some 3)], (.seq (.reg [(o q268), q493, (o q177), q495]) (.block 0 (.loop (.seq (.seq (.reg [q489, (p 1 q203)]) (.cond (.f 1) .skip (.exit 0))) (.seq (.block 1 (.seq (.reg [q496, q489, (o q268), q489, (o q190), (o q175), (o q442), (p 2 q194)]) (.cond (.f 2) .ret .skip))) (.reg [q489, (o q177), q495])))))), []⟩
theorem c243_ok : FnOk Tryz.prog Bts 243 c243 := fn_ok (wm := true) (na := 2) Tryz.func243 (by kernel_rfl) (by kernel_rfl) (by kernel_rfl)
def c244 : FnC := ⟨true, 3, [(some 2)], (.seq (.reg [q512, q607]) (.seq (.reg [(o (.mkf 263 [(.f 0)])), q497]) .ret)), [(.p 1)]⟩
theorem c244_ok : FnOk Tryz.prog Bts 244 c244 := fn_ok (wm := true) (na := 1) Tryz.func244 (by kernel_rfl) (by kernel_rfl) (by kernel_rfl)
def c245 : FnC := ⟨false, 3, [(some 0)], (.seq (.reg [q516]) (.seq (.reg [q489, q489, q489, (o (.call q164 [(.x 0)])), (o (.call q135 [(.x 2), (.x 0)])), q673, q492, (o q178), (o q179), (o q225), q553, q523, q523]) (.seq (.reg [q491, q497]) .ret))), [(.p 1)]⟩
theorem c245_ok : FnOk Tryz.prog Bts 245 c245 := fn_ok (wm := false) (na := 1) Tryz.func245 (by kernel_rfl) (by kernel_rfl) (by kernel_rfl)
def c246 : FnC := ⟨true, 3, [(some 2)], (.seq (.reg [q512, q607]) (.seq (.reg [(o (.mkf 265 [(.f 0)])), q497]) .ret)), [(.p 1)]⟩
theorem c246_ok : FnOk Tryz.prog Bts 246 c246 := fn_ok (wm := true) (na := 1) Tryz.func246 (by kernel_rfl) (by kernel_rfl) (by kernel_rfl)
def c247 : FnC := ⟨true, 5, [(some 0), (some 1), (some 2)], (.seq (.seq (.reg [q489, (o q255), (o q232), (p 3 q201)]) (.cond (.f 3) (.reg [(o q247), (o q182), (o (.sto 1 (.f 2) (.x 0)))]) .skip)) (.seq (.reg [q489, (p 4 q218)]) (.cond (.f 4) (.reg [q489, (o (.sto 1 (.f 1) (.x 0)))]) .skip))), []⟩
theorem c247_ok : FnOk Tryz.prog Bts 247 c247 := fn_ok (wm := true) (na := 3) Tryz.func247 (by kernel_rfl) (by kernel_rfl) (by kernel_rfl)
def c248 : FnC := ⟨true, 24, [(some 2), (some 0), (some 1), (some 6), (some 3)], (.seq (.reg [(p 7 (.mv q4))]) (.seq (.reg [(p 13 (.mv q4))]) (.block 0 (.loop (.block 1 (.seq (.reg [q490, q489, (o q208), q517]) (.seq (.seq (.reg [q510, (p 16 (.pk (.bin .leq) [(.x 0), q165]))]) (.cond (.f 16) (.seq (.reg [q491, q489, q490, q494, (o (.call (.k (.t (.one (.c (.v (.func (.func 266) ⟨[]⟩ ⟨[]⟩)))))) [(.x 3), (.x 2), (.x 1), (.x 0)]))]) .ret) .skip)) (.seq (.seq (.reg [q499, (p 17 q185)]) (.cond (.f 17) (.seq (.reg [q491, q489, q490, q494, (o (.call (.k (.t (.one (.c (.v (.func (.func 267) ⟨[]⟩ ⟨[]⟩)))))) [(.x 3), (.x 2), (.x 1), (.x 0)]))]) .ret) .skip)) (.seq (.seq (.reg [q503, (p 18 q194)]) (.cond (.f 18) (.seq (.reg [q491, q489, q490, q494, (o (.call (.k (.t (.one (.c (.v (.func (.func 268) ⟨[]⟩ ⟨[]⟩)))))) [(.x 3), (.x 2), (.x 1), (.x 0)]))]) (.reg [q499, (o q177), q509])) .skip)) (.seq (.reg [q491, q489, q490, q494, (o (.call (.k (.t (.one (.c (.v (.func (.func 269) ⟨[]⟩ ⟨[]⟩)))))) [(.x 3), (.x 2), (.x 1), (.x 0)])), q492, (o q178), (o q179), q544, q573]) (.seq (.seq (.reg [q506, (p 19 q448)]) (.cond (.f 19) (.seq (.reg [q491, q489, q490, q494, (o (.call (.k (.t (.one (.c (.v (.func (.func 270) ⟨[]⟩ ⟨[]⟩)))))) [(.x 3), (.x 2), (.x 1), (.x 0)]))]) (.seq (.reg [q490, (o q177), q498, q489, (o q208), (o (.pk (.bin .sub) [(.x 3), (.x 0)])), q507]) (.reg [(p 8 (.mv q1))]))) .skip)) (.seq (.seq (.reg [q503, q492, q638, (o (.pick (.x 1) (.x 0) q3)), q492, q609, ⟨(some (1, true)), none, [], q261⟩, (p 20 q215)]) (.cond (.f 20) (.seq (.reg [q491, q489, q490, q494, (p 21 (.call (.k (.t (.one (.c (.v (.func (.func 271) ⟨[]⟩ ⟨[]⟩)))))) [(.x 3), (.x 2), (.x 1), (.x 0)]))]) (.cond (.f 21) .ret .skip)) .skip)) (.seq (.seq (.reg [q489, (o q195), q492, q622, q535, q608, q633, ⟨(some (4, true)), none, [], q256⟩, ⟨(some (5, true)), none, [], q180⟩, ⟨(some (6, true)), none, [], (.mv (.f 2))⟩, ⟨(some (7, true)), none, [], (.mv (.f 5))⟩, ⟨(some (8, true)), none, [], q184⟩, q634, ⟨(some (10, true)), none, [], (.call (.x 9) [(.x 4), (.x 0)])⟩, q635, q706, (p 22 (.pick (.x 13) (.x 0) q3))]) (.cond (.f 22) (.seq (.reg [q491, q489, q490, q498, q494, (o (.call (.k (.t (.one (.c (.v (.func (.func 272) ⟨[]⟩ ⟨[]⟩)))))) [(.x 4), (.x 3), (.x 2), (.x 1), (.x 0)])), q572]) (.seq (.reg [q528, q495]) (.exit 1))) .skip)) (.seq (.reg [q491, q489, q490, q498, q494, (o (.call (.k (.t (.one (.c (.v (.func (.func 273) ⟨[]⟩ ⟨[]⟩)))))) [(.x 4), (.x 3), (.x 2), (.x 1), (.x 0)])), q492, (o q178), (o q179), q538, (p 15 (.mv (.x 1)))]) (.seq (.reg [q596, q574]) (.seq (.reg [q496, q489, (o q208), q490, q496, (o q208), (p 10 (.mv (.x 3))), (p 11 (.mv (.x 1)))]) (.seq (.reg [q510, (o (.pk (.bin .quo) [(.x 0), q48])), q554]) (.seq (.reg [q505, q508, (p 23 q250)]) (.cond (.f 23) (.seq (.reg [q505, q520, (o q280), q521]) (.seq (.reg [q491, q489, q496, q499, q494, (o (.call q102 [(.x 4), (.x 3), (.x 2), (.x 1), (.x 0)]))]) (.reg [q496, (o q182), q495]))) (.seq (.reg [q508, q520, (o q280), q521]) (.seq (.reg [q491, q496, (o q182), q490, q499, q494, (o (.call q102 [(.x 5), (.x 3), (.x 2), (.x 1), (.x 0)]))]) (.reg [q496, q497])))))))))))))))))))))), []⟩
theorem c248_ok : FnOk Tryz.prog Bts 248 c248 := fn_ok (wm := true) (na := 5) Tryz.func248 (by kernel_rfl) (by kernel_rfl) (by kernel_rfl)
def c249 : FnC := ⟨false, 2, [(some 1)], (.seq (.reg [q501]) (.seq (.cond q3 (.seq (.reg [q490, (o q322), (o (.call (.k (.t (.one (.c (.v (.func (.func 274) ⟨[]⟩ ⟨[]⟩)))))) [(.x 0)])), q495]) .ret) .skip) (.seq (.reg [q490, (o (.call (.k (.t (.one (.c (.v (.func (.func 275) ⟨[]⟩ ⟨[]⟩)))))) [(.x 0)])), q495]) .ret))), [(.p 0)]⟩
theorem c249_ok : FnOk Tryz.prog Bts 249 c249 := fn_ok (wm := false) (na := 1) Tryz.func249 (by kernel_rfl) (by kernel_rfl) (by kernel_rfl)
def c250 : FnC := ⟨false, 2, [(some 0)], (.seq (.reg [q541]) (.seq (.reg [q489, q489, (o q299), q497]) .ret)), [(.p 1)]⟩
theorem c250_ok : FnOk Tryz.prog Bts 250 c250 := fn_ok (wm := false) (na := 1) Tryz.func250 (by kernel_rfl) (by kernel_rfl) (by kernel_rfl)
def c252 : FnC := ⟨false, 20, [(some 19), (some 6), (some 10)], (.seq (.reg [q597, (p 16 (.mv q3))]) (.seq (.reg [(o (.mv (.f 19))), q499, (o q237), (o q182), (o q479), q558]) (.seq (.seq (.reg [(p 17 (.mv (.f 19))), (p 18 (.len (.x 0))), q534]) (.block 0 (.loop (.seq (.reg [(p 13 (.pk (.bin .lss) [(.f 9), (.f 18)]))]) (.seq (.cond (.f 13) .skip (.exit 0)) (.seq (.block 1 (.seq (.reg [(o (.ixS 8 (.f 17) (.f 9))), (o q180), (p 7 q220), (o q226)]) (.seq (.reg [(o (.off 4 (.f 7))), (o q300), (o q181), (o (.call q166 [(.x 0)])), q554]) (.seq (.seq (.reg [q520, (p 14 q366)]) (.cond (.f 14) (.seq (.reg [q597, (p 16 (.mv q3))]) .ret) .skip)) (.seq (.reg [(o (.off 4 (.f 7))), (o q192), (o q181), (o (.call q166 [(.x 0)])), q520, (o (.call q106 [(.x 0), q68])), (o q438), (o q222), q500]) (.seq (.seq (.reg [(o q325), (p 8 q176), q501]) (.block 2 (.loop (.seq (.reg [(p 4 q417)]) (.seq (.cond (.f 4) .skip (.exit 2)) (.seq (.block 3 (.seq (.reg [q489, (o (.at_ false 1 4 (.f 8) (.f 0))), q519, q525]) (.seq (.reg [q490, q499, (p 5 q299)]) (.cond (.f 5) (.reg [q491, q505, q490, (o q221), (o q253), q494, (o (.call q106 [(.x 1), (.x 0)])), (o (.pk (.bin .mul) [(.x 6), (.x 0)])), (o q222), q500]) .skip)))) (.reg [(o q197), q495]))))))) (.reg [q508, q499, (o q325), (o q227), (o q175), q508, q499, (o q325), (o q227), (o q175), (o (.ixS 1 (.x 4) (.x 0))), (o q175), q491, (o q200), (o q222), (o (.ixS 1 (.x 14) (.x 10))), (o q205)]))))))) (.reg [(o q393), q517]))))))) (.seq (.reg [q508, q508, q508, q493, (o q177), (o q249), (o q175), q702, (p 15 (.mv (.x 7))), q618]) .ret)))), [(.p 15), (.p 16)]⟩
theorem c252_ok : FnOk Tryz.prog Bts 252 c252 := fn_ok (wm := false) (na := 3) Tryz.func252 (by kernel_rfl) (by kernel_rfl) (by kernel_rfl)
def c253 : FnC := ⟨false, 17, [(some 13), (some 10)], (.seq (.reg [(p 15 (.mv q0))]) (.seq (.seq (.reg [q526, q493, q505, q493, (p 16 q204)]) (.cond (.f 16) (.reg [q505, q526, q556, q615]) .skip)) (.seq (.block 0 (.loop (.seq (.seq (.reg [q505, q493, (p 14 q195)]) (.cond (.f 14) .skip (.exit 0))) (.block 1 (.seq (.reg [q526, (o (.call (.k (.t (.one (.c (.v (.func (.func 278) ⟨[]⟩ ⟨[]⟩)))))) [(.x 0)])), q505, q505, q493, (o q177), (o q249), ⟨none, none, [5], q175⟩, (o (.call q106 [(.x 0), q68])), (p 0 (.mv (.x 7))), (p 12 (.mv (.x 1)))]) (.seq (.block 2 (.loop (.seq (.seq (.reg [q489, q493, q505, q493, (p 11 q412)]) (.cond (.f 11) .skip (.exit 2))) (.block 3 (.seq (.reg [q489, q489, q493, (o q177), (o q249), (o q175), q520, (o q232), (o q222), q489, q493, q505, q493, (o q345), (p 7 (.mv (.x 5))), q525]) (.seq (.seq (.reg [(p 8 (.mv (.f 10))), q581, q518]) (.block 4 (.loop (.seq (.reg [(p 5 (.pk (.bin .lss) [(.f 1), (.f 9)]))]) (.seq (.cond (.f 5) .skip (.exit 4)) (.seq (.block 5 (.seq (.reg [q490, (o (.ixS 1 (.f 8) (.f 1))), (o q175), q553, q538]) (.reg [q489, q494, q491, (o q200), q489, q494, q491, (o q200), (o q249), (o q175), q496, (o q367), q503, (o q232), (o q317), (o q222), (o (.ixS 1 (.x 15) (.x 12))), (o q205)]))) (.reg [(o q416), q497]))))))) (.block 6 (.loop (.seq (.seq (.reg [q489, q493, (o q195), q492, q591, q533, q623, q633, q703, q704, q705, (p 6 q272)]) (.cond (.f 6) .skip (.exit 6))) (.block 7 (.reg [q489, q489, q493, (o q177), (o q440), q495]))))))))))) (.reg [q505, q489, q556, q615]))))))) (.seq (.reg [q526, q493, (o q177), q561]) .ret)))), [(.p 15)]⟩
theorem c253_ok : FnOk Tryz.prog Bts 253 c253 := fn_ok (wm := false) (na := 2) Tryz.func253 (by kernel_rfl) (by kernel_rfl) (by kernel_rfl)
def c254 : FnC := ⟨false, 15, [(some 14), (some 8)], (.seq (.reg [q584]) (.seq (.reg [(o .mkm), q521]) (.seq (.seq (.reg [(p 11 (.mv (.f 14))), q626, q527]) (.block 0 (.loop (.seq (.reg [(p 10 (.pk (.bin .lss) [(.f 3), (.f 12)]))]) (.seq (.cond (.f 10) .skip (.exit 0)) (.seq (.block 1 (.seq (.reg [q494, (o (.ixS 1 (.f 11) (.f 3))), (o q175), q590, q613]) (.seq (.reg [(p 5 (.mv (.f 9))), q548, q518]) (.block 2 (.loop (.seq (.reg [(p 2 (.pk (.bin .lss) [(.f 1), (.f 6)]))]) (.seq (.cond (.f 2) .skip (.exit 2)) (.seq (.block 3 (.seq (.reg [(o (.ixS 8 (.f 5) (.f 1))), (o q180), (p 0 q220), (o q226)]) (.seq (.reg [q506, (o q186), (o q227), (o q175), q496, (o q200), (o q186), (o (.ixR 4 1 (.x 0) (.x 6))), (o q298)]) (.reg [q503, (o q186), (o q176), (o q273), (o q176), (o q420)])))) (.reg [(o q416), q497]))))))))) (.reg [q700, q502]))))))) (.seq (.reg [q503, (o q351), q574]) .ret)))), [(.p 13)]⟩
theorem c254_ok : FnOk Tryz.prog Bts 254 c254 := fn_ok (wm := false) (na := 2) Tryz.func254 (by kernel_rfl) (by kernel_rfl) (by kernel_rfl)
def c255 : FnC := ⟨true, 7, [(some 0), (some 1), (some 6), (some 3)], (.seq (.reg [q543]) (.seq (.seq (.reg [q489, (o q255), q493, (p 5 q293)]) (.cond (.f 5) (.seq (.reg [q543]) .ret) .skip)) (.seq (.reg [(o (.ld false 1 (.f 6))), q489, (o q182), (o (.call (.x 2) [(.x 0)])), (o q306), ⟨none, none, [1], q175⟩, (o q260), q504]) (.seq (.reg [q496, (o q255), q489, (o q190), (o q175), (o q288), (o q175), (o q255), q493, (o q177), q489, (o q208), ⟨none, none, [7, 10], (.call q101 [(.x 5), (.x 0)])⟩, q688, (o (.call q44 [(.x 13), (.x 0)])), q500]) .ret)))), [(.p 2)]⟩
theorem c255_ok : FnOk Tryz.prog Bts 255 c255 := fn_ok (wm := true) (na := 4) Tryz.func255 (by kernel_rfl) (by kernel_rfl) (by kernel_rfl)
def c258 : FnC := ⟨false, 7, [(some 6)], (.seq (.reg [(p 3 (.box (.f 6))), (p 4 (.mv q6))]) (.seq (.reg [(p 1 (.mv q6))]) (.seq (.seq (.reg [(o q288), (o q175), q493, (o q177), q495]) (.block 0 (.loop (.seq (.seq (.reg [q489, (p 2 q203)]) (.cond (.f 2) .skip (.exit 0))) (.seq (.block 1 (.reg [q490, (o (.pk (.bin .mul) [(.x 0), q167])), (o q288), (o q175), q489, (o q190), (o q175), (o q221), (o (.pk (.bin .add) [(.x 6), (.x 0)])), (o q222), q497])) (.reg [q489, (o q177), q495])))))) (.seq (.seq (.reg [(o q306), (o q175), q492, q603, q707, (p 5 q215)]) (.cond (.f 5) (.seq (.reg [q490, (o q367), q504]) .ret) .skip)) (.seq (.reg [q490, q504]) .ret))))), [(.p 4)]⟩
theorem c258_ok : FnOk Tryz.prog Bts 258 c258 := fn_ok (wm := false) (na := 1) Tryz.func258 (by kernel_rfl) (by kernel_rfl) (by kernel_rfl)
def c259 : FnC := ⟨false, 6, [(some 0), (some 1)], (.seq (.reg [(p 5 (.mv q6))]) (.seq (.reg [(p 2 (.mv q32))]) (.seq (.block 0 (.loop (.seq (.seq (.reg [q490, (p 3 q195)]) (.cond (.f 3) .skip (.exit 0))) (.block 1 (.seq (.seq (.reg [q490, (o (.pk (.bin .rem) [(.x 0), q10])), (p 4 q261)]) (.cond (.f 4) (.reg [q491, q489, (o q232), (o q222), q500]) .skip)) (.seq (.reg [q489, q489, (o q232), (o q222), q495]) (.reg [q490, (o q481), q497]))))))) (.seq (.reg [q491, q507]) .ret)))), [(.p 5)]⟩
theorem c259_ok : FnOk Tryz.prog Bts 259 c259 := fn_ok (wm := false) (na := 2) Tryz.func259 (by kernel_rfl) (by kernel_rfl) (by kernel_rfl)
def c260 : FnC := ⟨false, 2, [(some 1)], (.seq (.reg [q515]) (.seq (.reg [q490, (o q376), (o q334), q495]) .ret)), [(.p 0)]⟩
theorem c260_ok : FnOk Tryz.prog Bts 260 c260 := fn_ok (wm := false) (na := 1) Tryz.func260 (by kernel_rfl) (by kernel_rfl) (by kernel_rfl)
def c263 : FnC := ⟨true, 8, [(some 6), (some 7)], (.seq (.reg [(o q302), (o q302), ⟨none, none, [1], (.call q164 [(.x 0)])⟩, q606, q519]) (.block 0 (.loop (.seq (.seq (.reg [q489, q493, (o q195), q492, q586, q533, ⟨(some (2, true)), none, [], q275⟩, (p 4 q224)]) (.cond (.f 4) .skip (.exit 0))) (.block 1 (.seq (.reg [q543]) (.seq (.seq (.reg [q490, q493, (p 5 q195)]) (.cond (.f 5) (.seq (.reg [q489, q490, (o q410), q492, (o q178), (o q179), (o q225), q523, (p 3 (.mv (.x 2))), q523]) (.reg [q494, (o (.call q5 [q11])), (o (.call q150 [(.x 1), (.x 0)])), q500])) .skip)) (.reg [q490, q491, q524, q519])))))))), []⟩
theorem c263_ok : FnOk Tryz.prog Bts 263 c263 := fn_ok (wm := true) (na := 2) Tryz.func263 (by kernel_rfl) (by kernel_rfl) (by kernel_rfl)
def c264 : FnC := ⟨false, 3, [(some 2)], (.seq (.reg [q512, q516]) (.seq (.reg [(o q240), q493, (o q177), (o (.mkf 281 [(.f 0)])), (o q413), q497]) .ret)), [(.p 1)]⟩
theorem c264_ok : FnOk Tryz.prog Bts 264 c264 := fn_ok (wm := false) (na := 1) Tryz.func264 (by kernel_rfl) (by kernel_rfl) (by kernel_rfl)
def c265 : FnC := ⟨true, 5, [(some 4), (some 3)], (.seq (.reg [(o q268), q493, (o q177), q495]) (.block 0 (.loop (.seq (.seq (.reg [q489, (p 1 q203)]) (.cond (.f 1) .skip (.exit 0))) (.seq (.block 1 (.seq (.reg [q496, q489, (o q268), q489, (o q436), (o q181), (o q442), (p 2 q194)]) (.cond (.f 2) .ret .skip))) (.reg [q489, (o q177), q495])))))), []⟩
theorem c265_ok : FnOk Tryz.prog Bts 265 c265 := fn_ok (wm := true) (na := 2) Tryz.func265 (by kernel_rfl) (by kernel_rfl) (by kernel_rfl)
def c266 : FnC := ⟨true, 8, [(some 1), (some 3), (some 7), (some 5)], (.seq (.reg [q494, (o q182), q504]) (.block 0 (.loop (.seq (.seq (.reg [q496, q503, (p 6 q250)]) (.cond (.f 6) .skip (.exit 0))) (.seq (.block 1 (.seq (.reg [q496, q495]) (.block 2 (.loop (.seq (.seq (.reg [q489, q494, (o q304), q492, q612, q708, q608, q550, q551, ⟨(some (5, true)), none, [], (.mv (.f 1))⟩, q709, q710, q711, q634, q712, q635, (p 2 q369)]) (.cond (.f 2) .skip (.exit 2))) (.seq (.block 3 (.reg [q490, q489, q490, q489, (o q177), q490, q489, (o q177), (o q256), (o q180), q490, q489, (o q184), (o q180), (o q370), (o q233), (o q371), (o q229)])) (.reg [q489, (o q177), q495]))))))) (.reg [q496, (o q182), q504])))))), []⟩
theorem c266_ok : FnOk Tryz.prog Bts 266 c266 := fn_ok (wm := true) (na := 4) Tryz.func266 (by kernel_rfl) (by kernel_rfl) (by kernel_rfl)
def c267 : FnC := ⟨true, 11, [(some 2), (some 9), (some 10), (some 4)], (.seq (.reg [q510, q495]) (.seq (.reg [q595]) (.seq (.reg [q505, q510, (o q208), q521]) (.seq (.seq (.reg [q503, (o q177), (o q481), q502]) (.block 0 (.loop (.seq (.seq (.reg [q494, (p 5 q203)]) (.cond (.f 5) .skip (.exit 0))) (.seq (.block 1 (.reg [q491, q494, q503, q489, q496, (o q482)])) (.reg [q494, (o q177), q502])))))) (.seq (.reg [q503, (o q177), q497]) (.block 2 (.loop (.seq (.seq (.reg [q490, (p 6 q203)]) (.cond (.f 6) .skip (.exit 2))) (.seq (.block 3 (.seq (.reg [q491, q489, q491, q489, q490, (o q200), q491, q489, q490, (o q200), (o q284), (o q180), q491, q489, (o q184), (o q180), (o (.ixS 8 (.x 15) (.x 14))), (o q233), (o (.ixS 8 (.x 15) (.x 12))), (o q229)]) (.reg [q491, q506, q490, q489, q496, (o q482)]))) (.reg [q490, (o q177), q497])))))))))), []⟩
theorem c267_ok : FnOk Tryz.prog Bts 267 c267 := fn_ok (wm := true) (na := 4) Tryz.func267 (by kernel_rfl) (by kernel_rfl) (by kernel_rfl)
def c268 : FnC := ⟨true, 11, [(some 3), (some 4), (some 10), none], (.seq (.reg [q505, q496, (o q208), q500]) (.seq (.reg [q491, (p 9 q483)]) (.cond (.f 9) (.seq (.reg [q491, (o q221), (p 7 q484), (o q205)]) (.seq (.reg [q491, (o (.call (.k (.t (.one (.c (.v (.func (.func 283) ⟨[]⟩ ⟨[]⟩)))))) [(.x 0)])), q514]) (.seq (.reg [q496, q491, (o q324), (o q443), (o q303), (o q177), q497]) (.block 0 (.loop (.seq (.seq (.reg [q490, q496, q491, (o q324), (o q443), (o q303), (o q182), (p 5 (.pk (.bin .leq) [(.x 6), (.x 0)]))]) (.cond (.f 5) .skip (.exit 0))) (.seq (.block 1 (.seq (.reg [(o (.call (.k (.t (.one (.c (.v (.func (.func 284) ⟨[]⟩ ⟨[]⟩)))))) [(.f 7)])), q506, (o (.pk (.bin .sub) [(.x 0), q32])), (o (.pk (.bin .and) [(.x 2), (.x 0)])), (o q257), q495]) (.seq (.seq (.reg [q489, q491, (p 6 q280)]) (.cond (.f 6) (.reg [q489, q491, (o q208), q495]) .skip)) (.reg [q494, q490, q494, q496, q489, (o q200), q494, q496, q489, (o q200), (o q284), (o q180), q494, q490, (o q184), (o q180), (o (.ixS 8 (.x 15) (.x 14))), (o q233), (o (.ixS 8 (.x 15) (.x 12))), (o q229)])))) (.reg [q490, (o q182), q497])))))))) .skip))), []⟩
theorem c268_ok : FnOk Tryz.prog Bts 268 c268 := fn_ok (wm := true) (na := 4) Tryz.func268 (by kernel_rfl) (by kernel_rfl) (by kernel_rfl)
def c269 : FnC := ⟨true, 16, [(some 3), (some 4), (some 15), (some 5)], (.seq (.reg [q546, q537]) (.seq (.reg [q596, q496, (o q208), q497]) (.seq (.reg [(p 2 q342)]) (.seq (.reg [q496, q490, (o q324), (o (.pk (.bin .mul) [(.x 0), q1])), (o q303), q514]) (.seq (.reg [q496, q490, (o q324), (o q443), (o q303), q495]) (.seq (.reg [q496, q490, (o q324), (o (.pk (.bin .mul) [(.x 0), q7])), (o q303), q517]) (.seq (.seq (.reg [q490, (p 11 q483)]) (.cond (.f 11) (.seq (.seq (.reg [q490, (p 12 (.pk (.bin .geq) [(.x 0), q169]))]) (.cond (.f 12) (.seq (.reg [q494, q506, q498, (o q444), q514]) (.seq (.reg [q494, q489, q498, (o q444), q495]) (.reg [q494, q510, q498, (o q444), q517]))) .skip)) (.reg [q494, q506, q489, q510, q498, (o (.call q170 [(.x 4), (.x 3), (.x 2), (.x 1), (.f 2), (.x 0)])), q495])) .skip)) (.seq (.reg [(p 10 q247)]) (.block 0 (.seq (.reg [(o (.pk (.bin .eql) [(.f 10), q0])), q574]) (.cond (.f 13) (.seq (.reg [q489, q509, (p 7 (.mv q1))]) .ret) (.seq (.reg [(o (.pk (.bin .eql) [(.f 10), q165])), q572]) (.cond (.f 14) (.seq (.reg [q489, q509, (p 7 (.mv q10))]) .ret) (.seq (.reg [q489, q509, q537]) .ret)))))))))))))), [(.p 6), (.p 7)]⟩
theorem c269_ok : FnOk Tryz.prog Bts 269 c269 := fn_ok (wm := true) (na := 4) Tryz.func269 (by kernel_rfl) (by kernel_rfl) (by kernel_rfl)
def c270 : FnC := ⟨true, 6, [(some 2), (some 4), (some 5), none], (.seq (.reg [q496, q495]) (.seq (.reg [q498, (o q177), q497]) (.block 0 (.loop (.seq (.seq (.reg [q489, q490, (p 3 q250)]) (.cond (.f 3) .skip (.exit 0))) (.block 1 (.seq (.reg [q491, q489, q491, q490, q491, q490, (o q184), (o q180), q491, q489, (o q184), (o q180), (o q223), (o q233), (o q223), (o q229)]) (.seq (.reg [q489, (o q182), q495]) (.reg [q490, (o q177), q497]))))))))), []⟩
theorem c270_ok : FnOk Tryz.prog Bts 270 c270 := fn_ok (wm := true) (na := 4) Tryz.func270 (by kernel_rfl) (by kernel_rfl) (by kernel_rfl)
def c271 : FnC := ⟨true, 19, [(some 0), (some 13), (some 5), (some 4)], (.seq (.reg [q605]) (.seq (.reg [q526, (o q182), q502]) (.seq (.seq (.reg [(p 11 (.mv q0))]) (.block 0 (.loop (.seq (.seq (.reg [q508, (p 14 (.pk (.bin .lss) [(.x 0), q110]))]) (.cond (.f 14) .skip (.exit 0))) (.seq (.block 1 (.seq (.block 2 (.loop (.seq (.seq (.reg [q494, q498, (o q250), q492, q549, q533, q636, q550, q551, ⟨(some (5, true)), none, [], (.mv (.f 0))⟩, q585, q710, q711, q634, q712, q635, q706, (p 6 (.pick (.x 13) (.x 0) q3))]) (.cond (.f 6) .skip (.exit 2))) (.block 3 (.reg [q494, (o q182), q502]))))) (.seq (.seq (.reg [q494, q498, (p 15 q437)]) (.cond (.f 15) (.seq (.reg [(p 12 (.mv q4))]) .ret) .skip)) (.seq (.seq (.reg [q498, q526, (o q208), (p 16 (.pk (.bin .lss) [(.x 0), q169]))]) (.cond (.f 16) (.seq (.reg [q605]) .ret) .skip)) (.seq (.reg [q489, q494, q489, q494, (o q177), q489, q494, (o q177), (o q256), (o q180), q489, q494, (o q184), (o q180), (o q370), (o q233), (o q371), (o q229)]) (.seq (.seq (.reg [q494, q526, (o q208), (p 17 q485)]) (.cond (.f 17) (.seq (.reg [q494, (o q177), q497]) (.block 4 (.loop (.seq (.seq (.reg [q490, (p 7 (.pk (.bin .geq) [(.x 0), q1]))]) (.cond (.f 7) .skip (.exit 4))) (.seq (.block 5 (.seq (.seq (.reg [q496, q489, q490, (o q184), (o q180), q489, q490, (o q177), (o q256), (o q180), (o q368), (o q201), (p 8 q194)]) (.cond (.f 8) (.exit 4) .skip)) (.reg [q489, q490, q489, q490, (o q177), q489, q490, (o q177), (o q256), (o q180), q489, q490, (o q184), (o q180), (o q370), (o q233), (o q371), (o q229)]))) (.reg [q490, (o q177), q497])))))) .skip)) (.seq (.reg [q498, q494, (o q208), (p 18 q485)]) (.cond (.f 18) (.seq (.reg [q494, (o q182), q500]) (.block 6 (.loop (.seq (.seq (.reg [q491, q498, (p 9 q250)]) (.cond (.f 9) .skip (.exit 6))) (.seq (.block 7 (.seq (.seq (.reg [q496, q489, q491, (o q184), (o q180), q489, q491, (o q177), (o q256), (o q180), (o q368), (o q201), (p 10 q194)]) (.cond (.f 10) (.exit 6) .skip)) (.reg [q489, q491, q489, q491, (o q177), q489, q491, (o q177), (o q256), (o q180), q489, q491, (o q184), (o q180), (o q370), (o q233), (o q371), (o q229)]))) (.reg [q491, (o q182), q500])))))) .skip)))))))) (.reg [q508, (o q182), q558])))))) (.seq (.reg [q605]) .ret)))), [(.p 12)]⟩
theorem c271_ok : FnOk Tryz.prog Bts 271 c271 := fn_ok (wm := true) (na := 4) Tryz.func271 (by kernel_rfl) (by kernel_rfl) (by kernel_rfl)
def c272 : FnC := ⟨true, 11, [(some 2), (some 3), (some 10), (some 8), (some 4)], (.seq (.reg [q534]) (.seq (.reg [q491, q494, q491, q506, q491, q506, (o q184), (o q180), q491, q494, (o q184), (o q180), (o q223), (o q233), (o q223), (o q229)]) (.seq (.reg [q494, (o q182), q505, (o q177), q606, q519]) (.seq (.block 0 (.loop (.block 1 (.seq (.block 2 (.loop (.seq (.seq (.reg [q489, q490, (o q279), q492, q549, q535, q636, q550, q551, q567, q709, q555, q568, q569, q570, q637, (p 5 q369)]) (.cond (.f 5) .skip (.exit 2))) (.block 3 (.reg [q489, (o q182), q495]))))) (.seq (.block 4 (.loop (.seq (.seq (.reg [q489, q490, (o q279), q492, q549, q535, q636, q550, q551, q567, q655, q555, q568, q569, q570, (p 6 q335)]) (.cond (.f 6) .skip (.exit 4))) (.block 5 (.reg [q490, (o q177), q497]))))) (.seq (.seq (.reg [q489, q490, (p 7 q304)]) (.cond (.f 7) (.exit 0) .skip)) (.seq (.reg [q491, q489, q491, q490, q491, q490, (o q184), (o q180), q491, q489, (o q184), (o q180), (o q223), (o q233), (o q223), (o q229)]) (.seq (.reg [q489, (o q182), q495]) (.reg [q490, (o q177), q497]))))))))) (.seq (.reg [q489, q517]) .ret))))), [(.p 9)]⟩
theorem c272_ok : FnOk Tryz.prog Bts 272 c272 := fn_ok (wm := true) (na := 5) Tryz.func272 (by kernel_rfl) (by kernel_rfl) (by kernel_rfl)
def c273 : FnC := ⟨true, 15, [(some 2), (some 3), (some 14), (some 12), (some 4)], (.seq (.reg [q602, (p 11 (.mv q3))]) (.seq (.reg [q491, q494, q491, q520, q491, q520, (o q184), (o q180), q491, q494, (o q184), (o q180), (o q223), (o q233), (o q223), (o q229)]) (.seq (.reg [q494, (o q182), q528, (o q177), q630, q524]) (.seq (.block 0 (.loop (.seq (.seq (.reg [q490, q489, (o q279), q492, q549, q535, q628, q550, q551, q567, q585, q555, q568, q569, q570, (p 7 q335)]) (.cond (.f 7) .skip (.exit 0))) (.block 1 (.reg [q490, (o q182), q497]))))) (.seq (.block 2 (.loop (.seq (.seq (.reg [q490, q489, (o q279), q492, q549, q535, q608, q550, q551, q567, q585, q555, q568, q569, q570, q637, (p 8 q369)]) (.cond (.f 8) .skip (.exit 2))) (.block 3 (.reg [q489, (o q177), q495]))))) (.seq (.seq (.reg [q490, q489, (p 13 q304)]) (.cond (.f 13) (.seq (.reg [q491, q489, q491, q494, q491, q494, (o q184), (o q180), q491, q489, (o q184), (o q180), (o q223), (o q233), (o q223), (o q229)]) (.seq (.reg [q489, q547, (p 11 (.mv q4))]) .ret)) .skip)) (.seq (.reg [q491, q490, q491, q489, q491, q489, (o q184), (o q180), q491, q490, (o q184), (o q180), (o q223), (o q233), (o q223), (o q229)]) (.seq (.reg [q490, (o q182), q497]) (.seq (.reg [q489, (o q177), q495]) (.seq (.block 4 (.loop (.block 5 (.seq (.block 6 (.loop (.seq (.seq (.reg [q490, q489, (o q279), q492, q549, q535, q628, q550, q551, q567, q585, q555, q568, q569, q570, (p 5 q335)]) (.cond (.f 5) .skip (.exit 6))) (.block 7 (.reg [q490, (o q182), q497]))))) (.seq (.block 8 (.loop (.seq (.seq (.reg [q490, q489, (o q279), q492, q549, q535, q608, q550, q551, q567, q585, q555, q568, q569, q570, q637, (p 6 q369)]) (.cond (.f 6) .skip (.exit 8))) (.block 9 (.reg [q489, (o q177), q495]))))) (.seq (.seq (.reg [q490, q489, (p 9 q304)]) (.cond (.f 9) (.exit 4) .skip)) (.seq (.reg [q491, q490, q491, q489, q491, q489, (o q184), (o q180), q491, q490, (o q184), (o q180), (o q223), (o q233), (o q223), (o q229)]) (.seq (.reg [q490, (o q182), q497]) (.reg [q489, (o q177), q495]))))))))) (.seq (.reg [q491, q489, q491, q494, q491, q494, (o q184), (o q180), q491, q489, (o q184), (o q180), (o q223), (o q233), (o q223), (o q229)]) (.seq (.reg [q489, q547, (p 11 (.mv q3))]) .ret)))))))))))), [(.p 10), (.p 11)]⟩
theorem c273_ok : FnOk Tryz.prog Bts 273 c273 := fn_ok (wm := true) (na := 5) Tryz.func273 (by kernel_rfl) (by kernel_rfl) (by kernel_rfl)
def c274 : FnC := ⟨false, 4, [(some 0)], (.seq (.reg [q518]) (.seq (.seq (.reg [q489, (p 2 (.pk (.bin .geq) [(.x 0), (.k (.t (.one (.c (.v (.int .u32 (Int.ofNat 65536)))))))]))]) (.cond (.f 2) (.seq (.reg [q489, (o q486), q495]) (.reg [(p 1 (.mv q172))])) .skip)) (.seq (.seq (.reg [q489, (p 3 (.pk (.bin .geq) [(.x 0), (.k (.t (.one (.c (.v (.int .u32 (Int.ofNat 256)))))))]))]) (.cond (.f 3) (.seq (.reg [q489, (o q487), q495]) (.reg [q490, (o q488), q497])) .skip)) (.seq (.reg [q490, q489, (o (.pk (.cvt .u8) [(.x 0)])), (o (.ixc q174 (.x 0))), (o q257), (o q317), q497]) .ret)))), [(.p 1)]⟩
theorem c274_ok : FnOk Tryz.prog Bts 274 c274 := fn_ok (wm := false) (na := 1) Tryz.func274 (by kernel_rfl) (by kernel_rfl) (by kernel_rfl)
def c275 : FnC := ⟨false, 5, [(some 0)], (.seq (.reg [q518]) (.seq (.seq (.reg [q489, (p 2 (.pk (.bin .geq) [(.x 0), q167]))]) (.cond (.f 2) (.seq (.reg [q489, (o q283), q495]) (.reg [(p 1 (.mv (.k (.t (.one (.c (.v (.int .i64 (Int.ofNat 32)))))))))])) .skip)) (.seq (.seq (.reg [q489, (p 3 (.pk (.bin .geq) [(.x 0), (.k (.t (.one (.c (.v (.int .u64 (Int.ofNat 65536)))))))]))]) (.cond (.f 3) (.seq (.reg [q489, (o q486), q495]) (.reg [q490, (o (.pk (.bin .add) [(.x 0), q172])), q497])) .skip)) (.seq (.seq (.reg [q489, (p 4 (.pk (.bin .geq) [(.x 0), (.k (.t (.one (.c (.v (.int .u64 (Int.ofNat 256)))))))]))]) (.cond (.f 4) (.seq (.reg [q489, (o q487), q495]) (.reg [q490, (o q488), q497])) .skip)) (.seq (.reg [q490, q489, (o (.pk (.cvt .u8) [(.x 0)])), (o (.ixc q174 (.x 0))), (o q257), (o q317), q497]) .ret))))), [(.p 1)]⟩
theorem c275_ok : FnOk Tryz.prog Bts 275 c275 := fn_ok (wm := false) (na := 1) Tryz.func275 (by kernel_rfl) (by kernel_rfl) (by kernel_rfl)
def c276 : FnC := ⟨false, 8, [(some 7)], (.seq (.reg [(p 3 (.box (.f 7))), (p 4 (.mv q6))]) (.seq (.reg [(p 0 q484)]) (.seq (.seq (.reg [(o q288), (o q175), (p 5 (.call (.k (.t (.one (.c (.v (.func (.func 287) ⟨[]⟩ ⟨[]⟩)))))) [(.x 0)]))]) (.block 0 (.rf (.f 5) 276))) (.seq (.seq (.reg [(o q306), (o q175), q492, ⟨(some (0, true)), none, [], q240⟩, q707, (p 6 q215)]) (.cond (.f 6) (.reg [(o q240), (o q367), (o q323)]) .skip)) (.seq (.reg [(o q240), q504]) .ret))))), [(.p 4)]⟩
theorem c276_ok : FnOk Tryz.prog Bts 276 c276 := fn_ok (wm := false) (na := 1) Tryz.func276 (by kernel_rfl) (by kernel_rfl) (by kernel_rfl)
def b276 : BdC := ⟨8, [none, (some 2)], (.reg [(p 1 (.mv (.f 2)))]), (.block 1 (.reg [(o q240), (o (.pk (.bin .shl) [(.x 0), q26])), q490, (o q221), (o (.pk (.bin .or) [(.x 2), (.x 0)])), (o q222), (o q323)]))⟩
theorem b276_ok : BdOk Tryz.prog Bts 276 b276 := bd_ok Tryz.func276 (by kernel_rfl) (by kernel_rfl)
def c277 : FnC := ⟨false, 6, [(some 0), (some 1)], (.seq (.reg [(p 5 (.mv q6))]) (.seq (.reg [(p 2 (.mv q32))]) (.seq (.block 0 (.loop (.seq (.seq (.reg [q490, (p 3 q195)]) (.cond (.f 3) .skip (.exit 0))) (.seq (.block 1 (.seq (.seq (.reg [q490, q701, (p 4 q261)]) (.cond (.f 4) (.reg [q491, q489, (o q232), (o q222), q500]) .skip)) (.reg [q489, q489, (o q232), (o q222), q495]))) (.reg [q490, (o q478), q497]))))) (.seq (.reg [q491, q507]) .ret)))), [(.p 5)]⟩
theorem c277_ok : FnOk Tryz.prog Bts 277 c277 := fn_ok (wm := false) (na := 2) Tryz.func277 (by kernel_rfl) (by kernel_rfl) (by kernel_rfl)
def c278 : FnC := ⟨true, 3, [(some 1)], (.seq (.reg [q515]) (.seq (.seq (.reg [q490, (p 2 q347)]) (.cond (.f 2) (.seq (.reg [q515]) .ret) .skip)) (.seq (.reg [(o q480), q490, (o (.app 1 8 (.x 1) (.x 0))), q495]) .ret))), [(.p 0)]⟩
theorem c278_ok : FnOk Tryz.prog Bts 278 c278 := fn_ok (wm := true) (na := 1) Tryz.func278 (by kernel_rfl) (by kernel_rfl) (by kernel_rfl)
def c281 : FnC := ⟨true, 3, [(some 0), (some 2)], (.seq (.reg [(p 1 q183)]) (.seq (.reg [(o q247), q489, (o q182), (o q341), (o q176), q489, (o q182), ⟨none, none, [2, 6], q308⟩, (o (.call q12 [(.x 3), (.x 0)])), (o q228)]) .ret)), [(.cell true 4 1)]⟩
theorem c281_ok : FnOk Tryz.prog Bts 281 c281 := fn_ok (wm := true) (na := 2) Tryz.func281 (by kernel_rfl) (by kernel_rfl) (by kernel_rfl)
def c282 : FnC := ⟨true, 10, [(some 1), (some 9), (some 4), (some 2), (some 5)], (.seq (.reg [q510, q502]) (.block 0 (.loop (.block 1 (.seq (.reg [q494, (o (.pk (.bin .mul) [q10, (.x 0)])), (o q182), q495]) (.seq (.seq (.reg [q489, q496, (p 6 q280)]) (.cond (.f 6) (.exit 0) .skip)) (.seq (.seq (.reg [q489, (o q182), q496, (o q250), q492, q612, q708, q646, ⟨(some (3, true)), none, [], (.mv (.f 0))⟩, ⟨(some (4, true)), none, [], q200⟩, ⟨(some (5, true)), none, [], q284⟩, ⟨(some (6, true)), none, [], q180⟩, ⟨(some (7, true)), none, [], (.mv (.f 1))⟩, ⟨(some (8, true)), none, [], (.mv (.f 2))⟩, ⟨(some (9, true)), none, [], (.mv (.f 0))⟩, ⟨(some (10, true)), none, [], q200⟩, ⟨(some (11, true)), none, [], q182⟩, ⟨(some (12, true)), none, [], (.ixS 8 (.x 4) (.x 0))⟩, ⟨(some (13, true)), none, [], q180⟩, ⟨(some (14, true)), none, [], (.call (.x 13) [(.x 7), (.x 0)])⟩, ⟨(some (15, true)), none, [], q201⟩, (p 7 (.pick (.x 16) (.x 0) q3))]) (.cond (.f 7) (.reg [q489, (o q182), q495]) .skip)) (.seq (.seq (.reg [q498, q490, q491, q494, (o q200), (o q284), (o q180), q490, q491, q489, (o q200), (o q284), (o q180), (o (.call (.x 12) [(.x 6), (.x 0)])), (o q201), (p 8 q194)]) (.cond (.f 8) .ret .skip)) (.seq (.reg [q490, q491, q494, (o q200), q490, q491, q489, (o q200), q490, q491, q489, (o q200), (o q284), (o q180), q490, q491, q494, (o q200), (o q284), (o q180), (o (.ixS 8 (.x 19) (.x 16))), (o (.sto 8 (.x 0) (.x 7))), (o (.ixS 8 (.x 17) (.x 14))), (o q229)]) (.reg [q489, q502])))))))))), []⟩
theorem c282_ok : FnOk Tryz.prog Bts 282 c282 := fn_ok (wm := true) (na := 5) Tryz.func282 (by kernel_rfl) (by kernel_rfl) (by kernel_rfl)
def c283 : FnC := ⟨false, 2, [(some 1)], (.seq (.reg [(p 0 (.mv q6))]) (.seq (.reg [q490, (o q221), (o (.call q158 [(.x 0)])), (o (.pk (.bin .shl) [q32, (.x 0)])), q495]) .ret)), [(.p 0)]⟩
theorem c283_ok : FnOk Tryz.prog Bts 283 c283 := fn_ok (wm := false) (na := 1) Tryz.func283 (by kernel_rfl) (by kernel_rfl) (by kernel_rfl)
def c284 : FnC := ⟨true, 2, [(some 0)], (.seq (.reg [(p 1 (.mv q6))]) (.seq (.reg [q489, (o q199), (o q175), q489, (o q199), (o q175), (o (.pk (.bin .shl) [(.x 0), (.k (.t (.one (.c (.v (.int .u64 (Int.ofNat 13)))))))])), (o q445), (o q364), (o q205)]) (.seq (.reg [q489, (o q199), (o q175), q489, (o q199), (o q175), (o (.pk (.bin .shr) [(.x 0), (.k (.t (.one (.c (.v (.int .u64 (Int.ofNat 7)))))))])), (o q445), (o q364), (o q205)]) (.seq (.reg [q489, (o q199), (o q175), q489, (o q199), (o q175), (o (.pk (.bin .shl) [(.x 0), q104])), (o q445), (o q364), (o q205)]) (.seq (.reg [q489, (o q199), (o q175), q497]) .ret))))), [(.p 1)]⟩
theorem c284_ok : FnOk Tryz.prog Bts 284 c284 := fn_ok (wm := true) (na := 1) Tryz.func284 (by kernel_rfl) (by kernel_rfl) (by kernel_rfl)
def c285 : FnC := ⟨true, 5, [(some 2), (some 0), (some 3), (some 4)], (.seq (.reg [q518]) (.seq (.reg [q491, q489, (o q177), q489, q489, (o q182), q494, q496, (o (.call q170 [(.x 7), (.x 5), (.x 4), (.x 2), (.x 1), (.x 0)])), q497]) .ret)), [(.p 1)]⟩
theorem c285_ok : FnOk Tryz.prog Bts 285 c285 := fn_ok (wm := true) (na := 4) Tryz.func285 (by kernel_rfl) (by kernel_rfl) (by kernel_rfl)
def c286 : FnC := ⟨true, 7, [(some 2), (some 1), (some 0), (some 5), (some 3), (some 4)], (.seq (.reg [q546]) (.seq (.reg [q491, q490, q489, q494, q496, (o q446), q492, (o q178), (o q179), q519, q524]) (.seq (.reg [q491, q489, q498, q494, q496, (o q446), q492, (o q178), (o q179), q524, q544]) (.seq (.reg [q491, q490, q489, q494, q496, (o q446), q492, (o q178), (o q179), q519, q524]) (.seq (.reg [q489, q509]) .ret))))), [(.p 6)]⟩
theorem c286_ok : FnOk Tryz.prog Bts 286 c286 := fn_ok (wm := true) (na := 6) Tryz.func286 (by kernel_rfl) (by kernel_rfl) (by kernel_rfl)
def c287 : FnC := ⟨true, 3, [(some 2)], (.seq (.reg [q512, q607]) (.seq (.reg [(o (.mkf 289 [(.f 0)])), q497]) .ret)), [(.p 1)]⟩
theorem c287_ok : FnOk Tryz.prog Bts 287 c287 := fn_ok (wm := true) (na := 1) Tryz.func287 (by kernel_rfl) (by kernel_rfl) (by kernel_rfl)
def c288 : FnC := ⟨true, 8, [(some 4), (some 0), (some 1), (some 6), (some 7)], (.seq (.reg [q536, q527]) (.seq (.seq (.reg [q503, q496, q490, (o q184), (o q180), q496, q489, (o q184), (o q180), (o q285), (p 5 q201)]) (.cond (.f 5) (.seq (.reg [q499, (o q199), (o q175), (o q182), (o (.nilc (.x 3))), (o q205)]) (.seq (.reg [q490, q489, q545, q525]) .ret)) .skip)) (.seq (.reg [q489, q490, q545, q525]) .ret))), [(.p 2), (.p 3)]⟩
theorem c288_ok : FnOk Tryz.prog Bts 288 c288 := fn_ok (wm := true) (na := 5) Tryz.func288 (by kernel_rfl) (by kernel_rfl) (by kernel_rfl)
def c289 : FnC := ⟨true, 5, [(some 4), (some 3)], (.seq (.reg [(o q268), q493, (o q177), q495]) (.block 0 (.loop (.seq (.seq (.reg [q489, (p 1 q203)]) (.cond (.f 1) .skip (.exit 0))) (.seq (.block 1 (.seq (.reg [q496, q489, (o q268), q489, (o q190), (o q175), (o q442), (p 2 q194)]) (.cond (.f 2) .ret .skip))) (.reg [q489, (o q177), q495])))))), []⟩
theorem c289_ok : FnOk Tryz.prog Bts 289 c289 := fn_ok (wm := true) (na := 2) Tryz.func289 (by kernel_rfl) (by kernel_rfl) (by kernel_rfl)
end Go.Proofs.YtcejidongpkpoaaGreat
