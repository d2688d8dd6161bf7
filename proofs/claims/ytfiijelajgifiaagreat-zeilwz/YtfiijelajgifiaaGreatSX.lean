/-
  What the statement's row wants of the program, checked by the kernel.
-/
import Derived.Test.YtfiijelajgifiaaGreatRows
import Derived.WalkKit
import Derived.ProofKit
import Derived.OpenShut
namespace Go.Proofs.YtfiijelajgifiaaGreat.zeilWz
open Go Go.ChangeShapes Go.WideShapes Go.ChangeAt Go.RowKit
theorem own : ownKnob Tryz.prog.godebug = none := by kernel_rfl
theorem over1 : Tryz.pinned.checked.prog.funcNamed Rows.zeilWzRow.func = some 6 := by kernel_rfl
theorem over2 : joinedFacts Tryz.pinned.checked.prog 6 Tryz.f6 Rows.zeilWzSpec Rows.zeilWzRow = true := by kernel_rfl
theorem over3 : Tryz.f6.isInstance Tryz.pinned.checked.prog Rows.zeilWzRow.origin Rows.zeilWzRow.targs := of_decide_eq_true (by kernel_rfl)
theorem over4 : Tryz.f6.isWrapper Tryz.pinned.checked.prog Rows.zeilWzRow.wrapper Rows.zeilWzRow.mainSum := by
  unfold Func.isWrapper
  first
  | (rw [if_pos (by decide +kernel)]; kernel_rfl)
  | (rw [if_neg (by decide +kernel)]; exact ⟨rfl, rfl⟩)
end Go.Proofs.YtfiijelajgifiaaGreat.zeilWz
