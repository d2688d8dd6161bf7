/-
  What the statement's row wants of the program, checked by the kernel.
-/
import Derived.Test.YtfiijelajgifiaaGreatRows
import Derived.WalkKit
import Derived.ProofKit
import Derived.OpenShut
namespace Go.Proofs.YtfiijelajgifiaaGreat.zeilIsTrue
open Go Go.ChangeShapes Go.WideShapes Go.ChangeAt Go.RowKit
theorem own : ownKnob Tryz.prog.godebug = none := by kernel_rfl
theorem over1 : Tryz.pinned.checked.prog.funcNamed Rows.zeilIsTrueRow.func = some 4 := by kernel_rfl
theorem over2 : joinedFacts Tryz.pinned.checked.prog 4 Tryz.f4 Rows.zeilIsTrueSpec Rows.zeilIsTrueRow = true := by kernel_rfl
theorem over3 : Tryz.f4.isInstance Tryz.pinned.checked.prog Rows.zeilIsTrueRow.origin Rows.zeilIsTrueRow.targs := of_decide_eq_true (by kernel_rfl)
theorem over4 : Tryz.f4.isWrapper Tryz.pinned.checked.prog Rows.zeilIsTrueRow.wrapper Rows.zeilIsTrueRow.mainSum := by
  unfold Func.isWrapper
  first
  | (rw [if_pos (by decide +kernel)]; kernel_rfl)
  | (rw [if_neg (by decide +kernel)]; exact ⟨rfl, rfl⟩)
end Go.Proofs.YtfiijelajgifiaaGreat.zeilIsTrue
