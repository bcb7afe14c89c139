/-
  No cell of these rows narrows 'for every input' (looked for: loops, veiled, ifaces, maps, wideKeys, modest, calm, conditions, laid).
  DERIVED. THE GIVEN ROWS OF THIS SEAT. 8 by the template 'for every input the law returns true; each argument reads behind the call as it read before'; 0 by the template 'total and deterministic' (their statements: YtkechegbfjggcaaTotals.lean).
  GIVEN WITH THE SEED: the statements are not yours to turn. If you find one false, say at which input.
  Laid BY PROGRAM, IN A SANDBOX (cutbox-rows.mjs): the forced cells as the released guide's own fill.sh prints them over the translation f653f2a8106ef962… (all of the seat's roots in one cut). By AI agents, Wed Nov 11 2026. No macro, syntax, notation, axiom, sorry.
-/
import Derived.Test.YtkechegbfjggcaaChecked
import GoSem.Claim
import GoSem.ClaimJoined
import GoSem.ClaimMapViews
import Derived.JoinedTies
import Derived.KernelRfl
namespace Go.Proofs.Ytkechegbfjggcaa
/- THE CELL 'sum', in the pinned program and in every row, IS THE sha256 OF THE DUMP (.gsa) THAT YtkechegbfjggcaaProg.lean LOADS. Nothing in Lean hashes anything: it is a label: what it is worth is what the hold of that sum in a sandbox is worth. -/
noncomputable def Try.pinned : Pinned := { name := "ytkechegbfjggcaa", sum := "f653f2a8106ef9625d9d58161a69fe0ca0b281769f8d833459127a67826dcf4a", checked := Try.checked }
namespace Rows
def none {H : Type} : Left H := { results := [], args := [] }

/-- 'keyholelaw05.LatticeOrder': WHATEVER THE INPUT: true; the input reads as it did. -/
def latticeOrderSpec : ChangeSpec := { name := "latticeOrder", fn := fun _ => fun
  | [d1, d2, d3] => { results := [.lit (.bool true)], args := [d1, d2, d3] }
  | _ => none }
def latticeOrderRow : OpenClaim := { program := "ytkechegbfjggcaa", sum := "f653f2a8106ef9625d9d58161a69fe0ca0b281769f8d833459127a67826dcf4a", func := "keyhole/keyholelaw05.LatticeOrder", spec := "latticeOrder", unfollowed := true, recurses := true, apart := false }
def LatticeOrderSaid : Prop := latticeOrderRow.holds Try.pinned (OpenSpec.ofChange latticeOrderSpec)

/-- ITS FALSE NEIGHBOUR: 'it returns false'. Refute it at one input. -/
def latticeOrderWrong : ChangeSpec := { name := "latticeOrder", fn := fun _ => fun
  | [d1, d2, d3] => { results := [.lit (.bool false)], args := [d1, d2, d3] }
  | _ => none }
def LatticeOrderWrongFalsely : Prop := latticeOrderRow.holds Try.pinned (OpenSpec.ofChange latticeOrderWrong)

/-- 'keyholelaw05.LatticeBounds': WHATEVER THE INPUT: true; the input reads as it did. -/
def latticeBoundsSpec : ChangeSpec := { name := "latticeBounds", fn := fun _ => fun
  | [d1, d2, d3] => { results := [.lit (.bool true)], args := [d1, d2, d3] }
  | _ => none }
def latticeBoundsRow : OpenClaim := { program := "ytkechegbfjggcaa", sum := "f653f2a8106ef9625d9d58161a69fe0ca0b281769f8d833459127a67826dcf4a", func := "keyhole/keyholelaw05.LatticeBounds", spec := "latticeBounds", unfollowed := true, recurses := true, apart := false }
def LatticeBoundsSaid : Prop := latticeBoundsRow.holds Try.pinned (OpenSpec.ofChange latticeBoundsSpec)

/-- ITS FALSE NEIGHBOUR: 'it returns false'. Refute it at one input. -/
def latticeBoundsWrong : ChangeSpec := { name := "latticeBounds", fn := fun _ => fun
  | [d1, d2, d3] => { results := [.lit (.bool false)], args := [d1, d2, d3] }
  | _ => none }
def LatticeBoundsWrongFalsely : Prop := latticeBoundsRow.holds Try.pinned (OpenSpec.ofChange latticeBoundsWrong)

/-- 'keyholelaw05.LatticeLaws': WHATEVER THE INPUT: true; the input reads as it did. -/
def latticeLawsSpec : ChangeSpec := { name := "latticeLaws", fn := fun _ => fun
  | [d1, d2, d3] => { results := [.lit (.bool true)], args := [d1, d2, d3] }
  | _ => none }
def latticeLawsRow : OpenClaim := { program := "ytkechegbfjggcaa", sum := "f653f2a8106ef9625d9d58161a69fe0ca0b281769f8d833459127a67826dcf4a", func := "keyhole/keyholelaw05.LatticeLaws", spec := "latticeLaws", unfollowed := true, recurses := true, apart := false }
def LatticeLawsSaid : Prop := latticeLawsRow.holds Try.pinned (OpenSpec.ofChange latticeLawsSpec)

/-- ITS FALSE NEIGHBOUR: 'it returns false'. Refute it at one input. -/
def latticeLawsWrong : ChangeSpec := { name := "latticeLaws", fn := fun _ => fun
  | [d1, d2, d3] => { results := [.lit (.bool false)], args := [d1, d2, d3] }
  | _ => none }
def LatticeLawsWrongFalsely : Prop := latticeLawsRow.holds Try.pinned (OpenSpec.ofChange latticeLawsWrong)

/-- 'keyholelaw05.LatticeMade': WHATEVER THE INPUT: true; the input reads as it did. -/
def latticeMadeSpec : ChangeSpec := { name := "latticeMade", fn := fun _ => fun
  | [d1, d2] => { results := [.lit (.bool true)], args := [d1, d2] }
  | _ => none }
def latticeMadeRow : OpenClaim := { program := "ytkechegbfjggcaa", sum := "f653f2a8106ef9625d9d58161a69fe0ca0b281769f8d833459127a67826dcf4a", func := "keyhole/keyholelaw05.LatticeMade", spec := "latticeMade", unfollowed := true, recurses := true, apart := false }
def LatticeMadeSaid : Prop := latticeMadeRow.holds Try.pinned (OpenSpec.ofChange latticeMadeSpec)

/-- ITS FALSE NEIGHBOUR: 'it returns false'. Refute it at one input. -/
def latticeMadeWrong : ChangeSpec := { name := "latticeMade", fn := fun _ => fun
  | [d1, d2] => { results := [.lit (.bool false)], args := [d1, d2] }
  | _ => none }
def LatticeMadeWrongFalsely : Prop := latticeMadeRow.holds Try.pinned (OpenSpec.ofChange latticeMadeWrong)

/-- 'keyholelaw05.LatticeNames': WHATEVER THE INPUT: true; the input reads as it did. -/
def latticeNamesSpec : ChangeSpec := { name := "latticeNames", fn := fun _ => fun
  | [d1, d2, d3] => { results := [.lit (.bool true)], args := [d1, d2, d3] }
  | _ => none }
def latticeNamesRow : OpenClaim := { program := "ytkechegbfjggcaa", sum := "f653f2a8106ef9625d9d58161a69fe0ca0b281769f8d833459127a67826dcf4a", func := "keyhole/keyholelaw05.LatticeNames", spec := "latticeNames", unfollowed := true, recurses := true, apart := false }
def LatticeNamesSaid : Prop := latticeNamesRow.holds Try.pinned (OpenSpec.ofChange latticeNamesSpec)

/-- ITS FALSE NEIGHBOUR: 'it returns false'. Refute it at one input. -/
def latticeNamesWrong : ChangeSpec := { name := "latticeNames", fn := fun _ => fun
  | [d1, d2, d3] => { results := [.lit (.bool false)], args := [d1, d2, d3] }
  | _ => none }
def LatticeNamesWrongFalsely : Prop := latticeNamesRow.holds Try.pinned (OpenSpec.ofChange latticeNamesWrong)

/-- 'keyholelaw05.LatticeEnds': WHATEVER THE INPUT: true; the input reads as it did. -/
def latticeEndsSpec : ChangeSpec := { name := "latticeEnds", fn := fun _ => fun
  | [d1, d2, d3] => { results := [.lit (.bool true)], args := [d1, d2, d3] }
  | _ => none }
def latticeEndsRow : OpenClaim := { program := "ytkechegbfjggcaa", sum := "f653f2a8106ef9625d9d58161a69fe0ca0b281769f8d833459127a67826dcf4a", func := "keyhole/keyholelaw05.LatticeEnds", spec := "latticeEnds", unfollowed := true, recurses := true, apart := false }
def LatticeEndsSaid : Prop := latticeEndsRow.holds Try.pinned (OpenSpec.ofChange latticeEndsSpec)

/-- ITS FALSE NEIGHBOUR: 'it returns false'. Refute it at one input. -/
def latticeEndsWrong : ChangeSpec := { name := "latticeEnds", fn := fun _ => fun
  | [d1, d2, d3] => { results := [.lit (.bool false)], args := [d1, d2, d3] }
  | _ => none }
def LatticeEndsWrongFalsely : Prop := latticeEndsRow.holds Try.pinned (OpenSpec.ofChange latticeEndsWrong)

/-- 'keyholelaw05.LatticeCovers': WHATEVER THE INPUT: true; the input reads as it did. -/
def latticeCoversSpec : ChangeSpec := { name := "latticeCovers", fn := fun _ => fun
  | [d1, d2] => { results := [.lit (.bool true)], args := [d1, d2] }
  | _ => none }
def latticeCoversRow : OpenClaim := { program := "ytkechegbfjggcaa", sum := "f653f2a8106ef9625d9d58161a69fe0ca0b281769f8d833459127a67826dcf4a", func := "keyhole/keyholelaw05.LatticeCovers", spec := "latticeCovers", unfollowed := true, recurses := true, apart := false }
def LatticeCoversSaid : Prop := latticeCoversRow.holds Try.pinned (OpenSpec.ofChange latticeCoversSpec)

/-- ITS FALSE NEIGHBOUR: 'it returns false'. Refute it at one input. -/
def latticeCoversWrong : ChangeSpec := { name := "latticeCovers", fn := fun _ => fun
  | [d1, d2] => { results := [.lit (.bool false)], args := [d1, d2] }
  | _ => none }
def LatticeCoversWrongFalsely : Prop := latticeCoversRow.holds Try.pinned (OpenSpec.ofChange latticeCoversWrong)

/-- 'keyholelaw05.LatticeNil': WHATEVER THE INPUT: true; the input reads as it did. -/
def latticeNilSpec : ChangeSpec := { name := "latticeNil", fn := fun _ => fun
  | [d1, d2, d3] => { results := [.lit (.bool true)], args := [d1, d2, d3] }
  | _ => none }
def latticeNilRow : OpenClaim := { program := "ytkechegbfjggcaa", sum := "f653f2a8106ef9625d9d58161a69fe0ca0b281769f8d833459127a67826dcf4a", func := "keyhole/keyholelaw05.LatticeNil", spec := "latticeNil", unfollowed := true, recurses := true, apart := false }
def LatticeNilSaid : Prop := latticeNilRow.holds Try.pinned (OpenSpec.ofChange latticeNilSpec)

/-- ITS FALSE NEIGHBOUR: 'it returns false'. Refute it at one input. -/
def latticeNilWrong : ChangeSpec := { name := "latticeNil", fn := fun _ => fun
  | [d1, d2, d3] => { results := [.lit (.bool false)], args := [d1, d2, d3] }
  | _ => none }
def LatticeNilWrongFalsely : Prop := latticeNilRow.holds Try.pinned (OpenSpec.ofChange latticeNilWrong)

/- THE SECOND FORM. 'bulk': how many values and letters a reading holds, each counted each time it is reached (what is shared counts as often as it is met; a slice's spare places count too). A statement '..UptoSaid' is the law's where the arguments, and the package variables that the reading takes, are together of bulk at most 1048576: NARROWER than '..Said'. Prove '..Said' where nothing that the law and all that it calls make is longer than what came in: it says more and counts as full. Else prove '..UptoSaid'. A law counts once. -/
mutual
def uptoBulk {H : Type} : DataW H → Nat
  | .lit (.string bytes) => bytes.length + 1
  | .lit _ => 1
  | .nil => 1
  | .ptr d => uptoBulk d + 1
  | .slice elems spare => uptoBulkAll elems + uptoBulkAll spare + 1
  | .agg parts => uptoBulkAll parts + 1
  | .iface _ d => uptoBulk d + 1
  | .map entries => uptoBulkEntries entries + 1
  | .held _ => 1
def uptoBulkAll {H : Type} : List (DataW H) → Nat
  | [] => 0
  | d :: r => uptoBulk d + uptoBulkAll r
def uptoBulkEntries {H : Type} : List (Lit × DataW H) → Nat
  | [] => 0
  | x :: r => uptoBulkEntry x + uptoBulkEntries r
def uptoBulkEntry {H : Type} : Lit × DataW H → Nat
  | (.string bytes, d) => bytes.length + uptoBulk d + 1
  | (_, d) => uptoBulk d + 1
 end
def uptoSmall : (H : Type) → List (DataW H) → Bool := fun _ ds => decide (uptoBulkAll ds ≤ 1048576)
def OpenSpec.upto (s : _root_.Go.ChangeSpec) : _root_.Go.OpenSpec := { _root_.Go.OpenSpec.ofChange s with cond := some uptoSmall }

/-- 'keyholelaw05.LatticeOrder', WHERE WHAT IT READS IS OF BULK AT MOST 1048576: true; the input reads as it did. -/
def latticeOrderUptoRow : OpenClaim := { program := "ytkechegbfjggcaa", sum := "f653f2a8106ef9625d9d58161a69fe0ca0b281769f8d833459127a67826dcf4a", func := "keyhole/keyholelaw05.LatticeOrder", spec := "latticeOrder", unfollowed := true, recurses := true, apart := false, narrowed := true }
def LatticeOrderUptoSaid : Prop := latticeOrderUptoRow.holds Try.pinned (OpenSpec.upto latticeOrderSpec)

/-- 'keyholelaw05.LatticeBounds', WHERE WHAT IT READS IS OF BULK AT MOST 1048576: true; the input reads as it did. -/
def latticeBoundsUptoRow : OpenClaim := { program := "ytkechegbfjggcaa", sum := "f653f2a8106ef9625d9d58161a69fe0ca0b281769f8d833459127a67826dcf4a", func := "keyhole/keyholelaw05.LatticeBounds", spec := "latticeBounds", unfollowed := true, recurses := true, apart := false, narrowed := true }
def LatticeBoundsUptoSaid : Prop := latticeBoundsUptoRow.holds Try.pinned (OpenSpec.upto latticeBoundsSpec)

/-- 'keyholelaw05.LatticeLaws', WHERE WHAT IT READS IS OF BULK AT MOST 1048576: true; the input reads as it did. -/
def latticeLawsUptoRow : OpenClaim := { program := "ytkechegbfjggcaa", sum := "f653f2a8106ef9625d9d58161a69fe0ca0b281769f8d833459127a67826dcf4a", func := "keyhole/keyholelaw05.LatticeLaws", spec := "latticeLaws", unfollowed := true, recurses := true, apart := false, narrowed := true }
def LatticeLawsUptoSaid : Prop := latticeLawsUptoRow.holds Try.pinned (OpenSpec.upto latticeLawsSpec)

/-- 'keyholelaw05.LatticeMade', WHERE WHAT IT READS IS OF BULK AT MOST 1048576: true; the input reads as it did. -/
def latticeMadeUptoRow : OpenClaim := { program := "ytkechegbfjggcaa", sum := "f653f2a8106ef9625d9d58161a69fe0ca0b281769f8d833459127a67826dcf4a", func := "keyhole/keyholelaw05.LatticeMade", spec := "latticeMade", unfollowed := true, recurses := true, apart := false, narrowed := true }
def LatticeMadeUptoSaid : Prop := latticeMadeUptoRow.holds Try.pinned (OpenSpec.upto latticeMadeSpec)

/-- 'keyholelaw05.LatticeNames', WHERE WHAT IT READS IS OF BULK AT MOST 1048576: true; the input reads as it did. -/
def latticeNamesUptoRow : OpenClaim := { program := "ytkechegbfjggcaa", sum := "f653f2a8106ef9625d9d58161a69fe0ca0b281769f8d833459127a67826dcf4a", func := "keyhole/keyholelaw05.LatticeNames", spec := "latticeNames", unfollowed := true, recurses := true, apart := false, narrowed := true }
def LatticeNamesUptoSaid : Prop := latticeNamesUptoRow.holds Try.pinned (OpenSpec.upto latticeNamesSpec)

/-- 'keyholelaw05.LatticeEnds', WHERE WHAT IT READS IS OF BULK AT MOST 1048576: true; the input reads as it did. -/
def latticeEndsUptoRow : OpenClaim := { program := "ytkechegbfjggcaa", sum := "f653f2a8106ef9625d9d58161a69fe0ca0b281769f8d833459127a67826dcf4a", func := "keyhole/keyholelaw05.LatticeEnds", spec := "latticeEnds", unfollowed := true, recurses := true, apart := false, narrowed := true }
def LatticeEndsUptoSaid : Prop := latticeEndsUptoRow.holds Try.pinned (OpenSpec.upto latticeEndsSpec)

/-- 'keyholelaw05.LatticeCovers', WHERE WHAT IT READS IS OF BULK AT MOST 1048576: true; the input reads as it did. -/
def latticeCoversUptoRow : OpenClaim := { program := "ytkechegbfjggcaa", sum := "f653f2a8106ef9625d9d58161a69fe0ca0b281769f8d833459127a67826dcf4a", func := "keyhole/keyholelaw05.LatticeCovers", spec := "latticeCovers", unfollowed := true, recurses := true, apart := false, narrowed := true }
def LatticeCoversUptoSaid : Prop := latticeCoversUptoRow.holds Try.pinned (OpenSpec.upto latticeCoversSpec)

/-- 'keyholelaw05.LatticeNil', WHERE WHAT IT READS IS OF BULK AT MOST 1048576: true; the input reads as it did. -/
def latticeNilUptoRow : OpenClaim := { program := "ytkechegbfjggcaa", sum := "f653f2a8106ef9625d9d58161a69fe0ca0b281769f8d833459127a67826dcf4a", func := "keyhole/keyholelaw05.LatticeNil", spec := "latticeNil", unfollowed := true, recurses := true, apart := false, narrowed := true }
def LatticeNilUptoSaid : Prop := latticeNilUptoRow.holds Try.pinned (OpenSpec.upto latticeNilSpec)

end Rows
end Go.Proofs.Ytkechegbfjggcaa
