/-
  No cell of these rows narrows 'for every input' (looked for: loops, veiled, ifaces, maps, wideKeys, modest, calm, conditions, laid).
  DERIVED. THE GIVEN ROWS OF THIS SEAT. 4 by the template 'for every input the law returns true; each argument reads behind the call as it read before'; 0 by the template 'total and deterministic' (their statements: YtfiijelajgifiaaGreatTotals.lean).
  GIVEN WITH THE SEED: the statements are not yours to turn. If you find one false, say at which input.
  Laid BY PROGRAM, IN A SANDBOX (cutbox-rows.mjs): the forced cells as the released guide's own fill.sh prints them over the translation b39a1f03d371f923… (all of the seat's roots in one cut). By AI agents, Wed Nov 11 2026. No macro, syntax, notation, axiom, sorry.
-/
import Derived.Test.YtfiijelajgifiaaGreatChecked
import GoSem.Claim
import GoSem.ClaimJoined
import GoSem.ClaimMapViews
import Derived.JoinedTies
import Derived.KernelRfl
namespace Go.Proofs.YtfiijelajgifiaaGreat
/- THE CELL 'sum', in the pinned program and in every row, IS THE sha256 OF THE DUMP (.gsa) THAT YtfiijelajgifiaaGreatProg.lean LOADS. Nothing in Lean hashes anything: it is a label: what it is worth is what the hold of that sum in a sandbox is worth. -/
noncomputable def Tryz.pinned : Pinned := { name := "ytfiijelajgifiaagreat", sum := "b39a1f03d371f9239bf2ea30fed1804d63a8323bca472b38b9dd26c93f93e5b6", checked := Tryz.checked }
namespace Rows
def none {H : Type} : Left H := { results := [], args := [] }

/-- 'quadraturelaw26.ZeilMatchesReference': WHATEVER THE INPUT: true; the input reads as it did. -/
def zeilMatchesReferenceSpec : ChangeSpec := { name := "zeilMatchesReference", fn := fun _ => fun
  | [d1, d2] => { results := [.lit (.bool true)], args := [d1, d2] }
  | _ => none }
def zeilMatchesReferenceRow : OpenClaim := { program := "ytfiijelajgifiaagreat", sum := "b39a1f03d371f9239bf2ea30fed1804d63a8323bca472b38b9dd26c93f93e5b6", func := "quadrature/quadraturelaw26.ZeilMatchesReference", spec := "zeilMatchesReference", unfollowed := true, recurses := true, plainKeys := false, apart := false }
def ZeilMatchesReferenceSaid : Prop := zeilMatchesReferenceRow.holds Tryz.pinned (OpenSpec.ofChange zeilMatchesReferenceSpec)

/-- ITS FALSE NEIGHBOUR: 'it returns false'. Refute it at one input. -/
def zeilMatchesReferenceWrong : ChangeSpec := { name := "zeilMatchesReference", fn := fun _ => fun
  | [d1, d2] => { results := [.lit (.bool false)], args := [d1, d2] }
  | _ => none }
def ZeilMatchesReferenceWrongFalsely : Prop := zeilMatchesReferenceRow.holds Tryz.pinned (OpenSpec.ofChange zeilMatchesReferenceWrong)

/-- 'quadraturelaw26.ZeilIsTrue': WHATEVER THE INPUT: true; the input reads as it did. -/
def zeilIsTrueSpec : ChangeSpec := { name := "zeilIsTrue", fn := fun _ => fun
  | [d] => { results := [.lit (.bool true)], args := [d] }
  | _ => none }
def zeilIsTrueRow : OpenClaim := { program := "ytfiijelajgifiaagreat", sum := "b39a1f03d371f9239bf2ea30fed1804d63a8323bca472b38b9dd26c93f93e5b6", func := "quadrature/quadraturelaw26.ZeilIsTrue", spec := "zeilIsTrue", unfollowed := true, recurses := true, plainKeys := false, apart := false }
def ZeilIsTrueSaid : Prop := zeilIsTrueRow.holds Tryz.pinned (OpenSpec.ofChange zeilIsTrueSpec)

/-- ITS FALSE NEIGHBOUR: 'it returns false'. Refute it at one input. -/
def zeilIsTrueWrong : ChangeSpec := { name := "zeilIsTrue", fn := fun _ => fun
  | [d] => { results := [.lit (.bool false)], args := [d] }
  | _ => none }
def ZeilIsTrueWrongFalsely : Prop := zeilIsTrueRow.holds Tryz.pinned (OpenSpec.ofChange zeilIsTrueWrong)

/-- 'quadraturelaw26.ZeilKeepsOrders': WHATEVER THE INPUT: true; the input reads as it did. -/
def zeilKeepsOrdersSpec : ChangeSpec := { name := "zeilKeepsOrders", fn := fun _ => fun
  | [d1, d2] => { results := [.lit (.bool true)], args := [d1, d2] }
  | _ => none }
def zeilKeepsOrdersRow : OpenClaim := { program := "ytfiijelajgifiaagreat", sum := "b39a1f03d371f9239bf2ea30fed1804d63a8323bca472b38b9dd26c93f93e5b6", func := "quadrature/quadraturelaw26.ZeilKeepsOrders", spec := "zeilKeepsOrders", unfollowed := true, recurses := true, plainKeys := false, apart := false }
def ZeilKeepsOrdersSaid : Prop := zeilKeepsOrdersRow.holds Tryz.pinned (OpenSpec.ofChange zeilKeepsOrdersSpec)

/-- ITS FALSE NEIGHBOUR: 'it returns false'. Refute it at one input. -/
def zeilKeepsOrdersWrong : ChangeSpec := { name := "zeilKeepsOrders", fn := fun _ => fun
  | [d1, d2] => { results := [.lit (.bool false)], args := [d1, d2] }
  | _ => none }
def ZeilKeepsOrdersWrongFalsely : Prop := zeilKeepsOrdersRow.holds Tryz.pinned (OpenSpec.ofChange zeilKeepsOrdersWrong)

/-- 'quadraturelaw26.ZeilWz': WHATEVER THE INPUT: true; the input reads as it did. -/
def zeilWzSpec : ChangeSpec := { name := "zeilWz", fn := fun _ => fun
  | [d] => { results := [.lit (.bool true)], args := [d] }
  | _ => none }
def zeilWzRow : OpenClaim := { program := "ytfiijelajgifiaagreat", sum := "b39a1f03d371f9239bf2ea30fed1804d63a8323bca472b38b9dd26c93f93e5b6", func := "quadrature/quadraturelaw26.ZeilWz", spec := "zeilWz", unfollowed := true, recurses := true, plainKeys := false, apart := false }
def ZeilWzSaid : Prop := zeilWzRow.holds Tryz.pinned (OpenSpec.ofChange zeilWzSpec)

/-- ITS FALSE NEIGHBOUR: 'it returns false'. Refute it at one input. -/
def zeilWzWrong : ChangeSpec := { name := "zeilWz", fn := fun _ => fun
  | [d] => { results := [.lit (.bool false)], args := [d] }
  | _ => none }
def ZeilWzWrongFalsely : Prop := zeilWzRow.holds Tryz.pinned (OpenSpec.ofChange zeilWzWrong)

/- THE SECOND FORM. 'bulk': how many values and letters a reading holds, each counted each time it is reached (what is shared counts as often as it is met; a slice's spare places count too). A statement '..UptoSaid' is the law's where the arguments, and the package variables that the reading takes, are together of bulk at most 1048576: NARROWER than '..Said'. Prove '..Said' where nothing that the law and all that it calls make is longer than what came in: it says more and counts as full. Else prove '..UptoSaid'. A law counts once. -/
mutual
def uptoBulk {H : Type} : DataW H → Nat
  | .lit (.string bytes) => bytes.length + 1
  | .lit _ => 1
  | .nil => 1
  | .ptr d => uptoBulk d + 1
  | .slice elems spare => uptoBulkAll elems + uptoBulkAll spare + 1
  | .agg parts => uptoBulkAll parts + 1
  | .iface _ d => uptoBulk d + 1
  | .map entries => uptoBulkEntries entries + 1
  | .held _ => 1
def uptoBulkAll {H : Type} : List (DataW H) → Nat
  | [] => 0
  | d :: r => uptoBulk d + uptoBulkAll r
def uptoBulkEntries {H : Type} : List (Lit × DataW H) → Nat
  | [] => 0
  | x :: r => uptoBulkEntry x + uptoBulkEntries r
def uptoBulkEntry {H : Type} : Lit × DataW H → Nat
  | (.string bytes, d) => bytes.length + uptoBulk d + 1
  | (_, d) => uptoBulk d + 1
 end
def uptoSmall : (H : Type) → List (DataW H) → Bool := fun _ ds => decide (uptoBulkAll ds ≤ 1048576)
def OpenSpec.upto (s : _root_.Go.ChangeSpec) : _root_.Go.OpenSpec := { _root_.Go.OpenSpec.ofChange s with cond := some uptoSmall }

/-- 'quadraturelaw26.ZeilMatchesReference', WHERE WHAT IT READS IS OF BULK AT MOST 1048576: true; the input reads as it did. -/
def zeilMatchesReferenceUptoRow : OpenClaim := { program := "ytfiijelajgifiaagreat", sum := "b39a1f03d371f9239bf2ea30fed1804d63a8323bca472b38b9dd26c93f93e5b6", func := "quadrature/quadraturelaw26.ZeilMatchesReference", spec := "zeilMatchesReference", unfollowed := true, recurses := true, plainKeys := false, apart := false, narrowed := true }
def ZeilMatchesReferenceUptoSaid : Prop := zeilMatchesReferenceUptoRow.holds Tryz.pinned (OpenSpec.upto zeilMatchesReferenceSpec)

/-- 'quadraturelaw26.ZeilIsTrue', WHERE WHAT IT READS IS OF BULK AT MOST 1048576: true; the input reads as it did. -/
def zeilIsTrueUptoRow : OpenClaim := { program := "ytfiijelajgifiaagreat", sum := "b39a1f03d371f9239bf2ea30fed1804d63a8323bca472b38b9dd26c93f93e5b6", func := "quadrature/quadraturelaw26.ZeilIsTrue", spec := "zeilIsTrue", unfollowed := true, recurses := true, plainKeys := false, apart := false, narrowed := true }
def ZeilIsTrueUptoSaid : Prop := zeilIsTrueUptoRow.holds Tryz.pinned (OpenSpec.upto zeilIsTrueSpec)

/-- 'quadraturelaw26.ZeilKeepsOrders', WHERE WHAT IT READS IS OF BULK AT MOST 1048576: true; the input reads as it did. -/
def zeilKeepsOrdersUptoRow : OpenClaim := { program := "ytfiijelajgifiaagreat", sum := "b39a1f03d371f9239bf2ea30fed1804d63a8323bca472b38b9dd26c93f93e5b6", func := "quadrature/quadraturelaw26.ZeilKeepsOrders", spec := "zeilKeepsOrders", unfollowed := true, recurses := true, plainKeys := false, apart := false, narrowed := true }
def ZeilKeepsOrdersUptoSaid : Prop := zeilKeepsOrdersUptoRow.holds Tryz.pinned (OpenSpec.upto zeilKeepsOrdersSpec)

/-- 'quadraturelaw26.ZeilWz', WHERE WHAT IT READS IS OF BULK AT MOST 1048576: true; the input reads as it did. -/
def zeilWzUptoRow : OpenClaim := { program := "ytfiijelajgifiaagreat", sum := "b39a1f03d371f9239bf2ea30fed1804d63a8323bca472b38b9dd26c93f93e5b6", func := "quadrature/quadraturelaw26.ZeilWz", spec := "zeilWz", unfollowed := true, recurses := true, plainKeys := false, apart := false, narrowed := true }
def ZeilWzUptoSaid : Prop := zeilWzUptoRow.holds Tryz.pinned (OpenSpec.upto zeilWzSpec)

end Rows
end Go.Proofs.YtfiijelajgifiaaGreat
