/-
  The law at a class of inputs: the machine answers yes.
-/
import Derived.Test.YtfiijelajgifiaaGreatW28
namespace Go.Proofs.YtfiijelajgifiaaGreat
open Go Go.Mach Go.Flow
set_option maxRecDepth 1000000
set_option linter.all false
set_option linter.defProp false
def agxx (t b a c : Nat) : V1 := .agg [.sy .u8 [([1], 10), ([], t)], .sy .u8 [([0, 1], 4), ([], b)], .sy .u8 [([0, 0, 1], 4), ([], a)], .sy .u8 [([0, 0, 0, 1], 3), ([], c)]]
def Syx (t b a c : Nat) : Prop := aA4 aSF 1000 100 (aF q6.1) [agxx t b a c] = some (yes, [], [], [])
theorem Kr {t b a c : Nat} (h : aA4 aSF 1000 100 (aF q6.1) [agxx t b a c] = some (yes, [], [], []) := by kernel_rfl) : Syx t b a c := h
theorem Pa {P : Nat → Prop} (h0 : P 0) (h1 : P 1) (h2 : P 2) : ∀ c, c < 3 → P c
  | 0, _ => h0
  | 1, _ => h1
  | 2, _ => h2
  | n + 3, h => absurd h (by omega)
theorem Pb {P : Nat → Prop} (h0 : P 0) (h1 : P 1) (h2 : P 2) (h3 : P 3) : ∀ c, c < 4 → P c
  | 0, _ => h0
  | 1, _ => h1
  | 2, _ => h2
  | 3, _ => h3
  | n + 4, h => absurd h (by omega)
theorem Pc {P : Nat → Prop} (h0 : P 0) (h1 : P 1) (h2 : P 2) (h3 : P 3) (h4 : P 4) (h5 : P 5) (h6 : P 6) (h7 : P 7) (h8 : P 8) (h9 : P 9) : ∀ c, c < 10 → P c
  | 0, _ => h0
  | 1, _ => h1
  | 2, _ => h2
  | 3, _ => h3
  | 4, _ => h4
  | 5, _ => h5
  | 6, _ => h6
  | 7, _ => h7
  | 8, _ => h8
  | 9, _ => h9
  | n + 10, h => absurd h (by omega)
end Go.Proofs.YtfiijelajgifiaaGreat
