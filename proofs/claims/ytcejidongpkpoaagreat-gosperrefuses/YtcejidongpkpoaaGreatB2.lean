/-
  Groups of inputs, second part.
-/
import Derived.Test.YtcejidongpkpoaaGreatA7
set_option linter.all false
set_option linter.unusedSectionVars false
set_option linter.constructorNameAsVariable false
namespace Go.Proofs.YtcejidongpkpoaaGreat
open Go Go.Mach Go.Flow
set_option maxRecDepth 1000000
theorem g0_1 : runYes tM 1000 100 c3 [(.one (.sy .i8 [([1], (Int.ofNat 1)), ([], (Int.ofNat 1))])), (.one (.v (.int .i8 (Int.ofNat 1))))] = some (yes, [], [], []) := by kernel_rfl
theorem g1_1 : runYes tM 1000 100 c3 [(.one (.v (.int .i8 (Int.ofNat 0)))), (.one (.v (.int .i8 (Int.ofNat 1))))] = some (yes, [], [], []) := by kernel_rfl
theorem g2_1 : runYes tM 1000 100 c3 [(.one (.v (.int .i8 (Int.negSucc 0)))), (.one (.v (.int .i8 (Int.ofNat 1))))] = some (yes, [], [], []) := by kernel_rfl
theorem g3_1 : runYes tM 1000 100 c3 [(.one (.sy .i8 [([1], (Int.negSucc 0)), ([], (Int.negSucc 1))])), (.one (.v (.int .i8 (Int.ofNat 1))))] = some (yes, [], [], []) := by kernel_rfl
end Go.Proofs.YtcejidongpkpoaaGreat
