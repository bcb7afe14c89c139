/-
  NARROWER THAN 'FOR EVERY INPUT', by the rows' own cells (each row's printed sentence says how): SliceBacks: loops · SliceNeeds: loops · SliceDual: loops · SlicePrograms: loops · SliceOutputs: loops · SliceUnneeded: loops · SliceUnions: loops.
  DERIVED. THE GIVEN ROWS OF THIS SEAT. 7 by the template 'for every input the law returns true; each argument reads behind the call as it read before'; 0 by the template 'total and deterministic' (their statements: YtppjennamodfdaaGreatTotals.lean).
  GIVEN WITH THE SEED: the statements are not yours to turn. If you find one false, say at which input.
  Laid BY PROGRAM, IN A SANDBOX (cutbox-rows.mjs): the forced cells as the released guide's own fill.sh prints them over the translation b25d5a9b331e18ff… (all of the seat's roots in one cut). By AI agents, Wed Nov 11 2026. No macro, syntax, notation, axiom, sorry.
-/
import Derived.Test.YtppjennamodfdaaGreatChecked
import GoSem.Claim
import GoSem.ClaimJoined
import GoSem.ClaimMapViews
import Derived.JoinedTies
import Derived.KernelRfl
namespace Go.Proofs.YtppjennamodfdaaGreat
/- THE CELL 'sum', in the pinned program and in every row, IS THE sha256 OF THE DUMP (.gsa) THAT YtppjennamodfdaaGreatProg.lean LOADS. Nothing in Lean hashes anything: it is a label: what it is worth is what the hold of that sum in a sandbox is worth. -/
noncomputable def Tryz.pinned : Pinned := { name := "ytppjennamodfdaagreat", sum := "b25d5a9b331e18ffb836a401a6211dbae2b61941073f3a94897ff776662b13b9", checked := Tryz.checked }
namespace Rows
def none {H : Type} : Left H := { results := [], args := [] }

/-- 'keyholelaw24.SliceBacks': WHATEVER THE INPUT: true; the input reads as it did. -/
def sliceBacksSpec : ChangeSpec := { name := "sliceBacks", fn := fun _ => fun
  | [d1, d2, d3] => { results := [.lit (.bool true)], args := [d1, d2, d3] }
  | _ => none }
def sliceBacksRow : OpenClaim := { program := "ytppjennamodfdaagreat", sum := "b25d5a9b331e18ffb836a401a6211dbae2b61941073f3a94897ff776662b13b9", func := "keyhole/keyholelaw24.SliceBacks", spec := "sliceBacks", unfollowed := true, recurses := true, loops := true, apart := false }
def SliceBacksSaid : Prop := sliceBacksRow.holds Tryz.pinned (OpenSpec.ofChange sliceBacksSpec)

/-- ITS FALSE NEIGHBOUR: 'it returns false'. Refute it at one input. -/
def sliceBacksWrong : ChangeSpec := { name := "sliceBacks", fn := fun _ => fun
  | [d1, d2, d3] => { results := [.lit (.bool false)], args := [d1, d2, d3] }
  | _ => none }
def SliceBacksWrongFalsely : Prop := sliceBacksRow.holds Tryz.pinned (OpenSpec.ofChange sliceBacksWrong)

/-- 'keyholelaw24.SliceNeeds': WHATEVER THE INPUT: true; the input reads as it did. -/
def sliceNeedsSpec : ChangeSpec := { name := "sliceNeeds", fn := fun _ => fun
  | [d1, d2] => { results := [.lit (.bool true)], args := [d1, d2] }
  | _ => none }
def sliceNeedsRow : OpenClaim := { program := "ytppjennamodfdaagreat", sum := "b25d5a9b331e18ffb836a401a6211dbae2b61941073f3a94897ff776662b13b9", func := "keyhole/keyholelaw24.SliceNeeds", spec := "sliceNeeds", unfollowed := true, recurses := true, loops := true, apart := false }
def SliceNeedsSaid : Prop := sliceNeedsRow.holds Tryz.pinned (OpenSpec.ofChange sliceNeedsSpec)

/-- ITS FALSE NEIGHBOUR: 'it returns false'. Refute it at one input. -/
def sliceNeedsWrong : ChangeSpec := { name := "sliceNeeds", fn := fun _ => fun
  | [d1, d2] => { results := [.lit (.bool false)], args := [d1, d2] }
  | _ => none }
def SliceNeedsWrongFalsely : Prop := sliceNeedsRow.holds Tryz.pinned (OpenSpec.ofChange sliceNeedsWrong)

/-- 'keyholelaw24.SliceDual': WHATEVER THE INPUT: true; the input reads as it did. -/
def sliceDualSpec : ChangeSpec := { name := "sliceDual", fn := fun _ => fun
  | [d1, d2, d3] => { results := [.lit (.bool true)], args := [d1, d2, d3] }
  | _ => none }
def sliceDualRow : OpenClaim := { program := "ytppjennamodfdaagreat", sum := "b25d5a9b331e18ffb836a401a6211dbae2b61941073f3a94897ff776662b13b9", func := "keyhole/keyholelaw24.SliceDual", spec := "sliceDual", unfollowed := true, recurses := true, loops := true, apart := false }
def SliceDualSaid : Prop := sliceDualRow.holds Tryz.pinned (OpenSpec.ofChange sliceDualSpec)

/-- ITS FALSE NEIGHBOUR: 'it returns false'. Refute it at one input. -/
def sliceDualWrong : ChangeSpec := { name := "sliceDual", fn := fun _ => fun
  | [d1, d2, d3] => { results := [.lit (.bool false)], args := [d1, d2, d3] }
  | _ => none }
def SliceDualWrongFalsely : Prop := sliceDualRow.holds Tryz.pinned (OpenSpec.ofChange sliceDualWrong)

/-- 'keyholelaw24.SlicePrograms': WHATEVER THE INPUT: true; the input reads as it did. -/
def sliceProgramsSpec : ChangeSpec := { name := "slicePrograms", fn := fun _ => fun
  | [d1, d2] => { results := [.lit (.bool true)], args := [d1, d2] }
  | _ => none }
def sliceProgramsRow : OpenClaim := { program := "ytppjennamodfdaagreat", sum := "b25d5a9b331e18ffb836a401a6211dbae2b61941073f3a94897ff776662b13b9", func := "keyhole/keyholelaw24.SlicePrograms", spec := "slicePrograms", unfollowed := true, recurses := true, loops := true, apart := false }
def SliceProgramsSaid : Prop := sliceProgramsRow.holds Tryz.pinned (OpenSpec.ofChange sliceProgramsSpec)

/-- ITS FALSE NEIGHBOUR: 'it returns false'. Refute it at one input. -/
def sliceProgramsWrong : ChangeSpec := { name := "slicePrograms", fn := fun _ => fun
  | [d1, d2] => { results := [.lit (.bool false)], args := [d1, d2] }
  | _ => none }
def SliceProgramsWrongFalsely : Prop := sliceProgramsRow.holds Tryz.pinned (OpenSpec.ofChange sliceProgramsWrong)

/-- 'keyholelaw24.SliceOutputs': WHATEVER THE INPUT: true; the input reads as it did. -/
def sliceOutputsSpec : ChangeSpec := { name := "sliceOutputs", fn := fun _ => fun
  | [d1, d2, d3] => { results := [.lit (.bool true)], args := [d1, d2, d3] }
  | _ => none }
def sliceOutputsRow : OpenClaim := { program := "ytppjennamodfdaagreat", sum := "b25d5a9b331e18ffb836a401a6211dbae2b61941073f3a94897ff776662b13b9", func := "keyhole/keyholelaw24.SliceOutputs", spec := "sliceOutputs", unfollowed := true, recurses := true, loops := true, apart := false }
def SliceOutputsSaid : Prop := sliceOutputsRow.holds Tryz.pinned (OpenSpec.ofChange sliceOutputsSpec)

/-- ITS FALSE NEIGHBOUR: 'it returns false'. Refute it at one input. -/
def sliceOutputsWrong : ChangeSpec := { name := "sliceOutputs", fn := fun _ => fun
  | [d1, d2, d3] => { results := [.lit (.bool false)], args := [d1, d2, d3] }
  | _ => none }
def SliceOutputsWrongFalsely : Prop := sliceOutputsRow.holds Tryz.pinned (OpenSpec.ofChange sliceOutputsWrong)

/-- 'keyholelaw24.SliceUnneeded': WHATEVER THE INPUT: true; the input reads as it did. -/
def sliceUnneededSpec : ChangeSpec := { name := "sliceUnneeded", fn := fun _ => fun
  | [d1, d2, d3] => { results := [.lit (.bool true)], args := [d1, d2, d3] }
  | _ => none }
def sliceUnneededRow : OpenClaim := { program := "ytppjennamodfdaagreat", sum := "b25d5a9b331e18ffb836a401a6211dbae2b61941073f3a94897ff776662b13b9", func := "keyhole/keyholelaw24.SliceUnneeded", spec := "sliceUnneeded", unfollowed := true, recurses := true, loops := true, apart := false }
def SliceUnneededSaid : Prop := sliceUnneededRow.holds Tryz.pinned (OpenSpec.ofChange sliceUnneededSpec)

/-- ITS FALSE NEIGHBOUR: 'it returns false'. Refute it at one input. -/
def sliceUnneededWrong : ChangeSpec := { name := "sliceUnneeded", fn := fun _ => fun
  | [d1, d2, d3] => { results := [.lit (.bool false)], args := [d1, d2, d3] }
  | _ => none }
def SliceUnneededWrongFalsely : Prop := sliceUnneededRow.holds Tryz.pinned (OpenSpec.ofChange sliceUnneededWrong)

/-- 'keyholelaw24.SliceUnions': WHATEVER THE INPUT: true; the input reads as it did. -/
def sliceUnionsSpec : ChangeSpec := { name := "sliceUnions", fn := fun _ => fun
  | [d1, d2, d3] => { results := [.lit (.bool true)], args := [d1, d2, d3] }
  | _ => none }
def sliceUnionsRow : OpenClaim := { program := "ytppjennamodfdaagreat", sum := "b25d5a9b331e18ffb836a401a6211dbae2b61941073f3a94897ff776662b13b9", func := "keyhole/keyholelaw24.SliceUnions", spec := "sliceUnions", unfollowed := true, recurses := true, loops := true, apart := false }
def SliceUnionsSaid : Prop := sliceUnionsRow.holds Tryz.pinned (OpenSpec.ofChange sliceUnionsSpec)

/-- ITS FALSE NEIGHBOUR: 'it returns false'. Refute it at one input. -/
def sliceUnionsWrong : ChangeSpec := { name := "sliceUnions", fn := fun _ => fun
  | [d1, d2, d3] => { results := [.lit (.bool false)], args := [d1, d2, d3] }
  | _ => none }
def SliceUnionsWrongFalsely : Prop := sliceUnionsRow.holds Tryz.pinned (OpenSpec.ofChange sliceUnionsWrong)

/- THE SECOND FORM. 'bulk': how many values and letters a reading holds, each counted each time it is reached (what is shared counts as often as it is met; a slice's spare places count too). A statement '..UptoSaid' is the law's where the arguments, and the package variables that the reading takes, are together of bulk at most 1048576: NARROWER than '..Said'. Prove '..Said' where nothing that the law and all that it calls make is longer than what came in: it says more and counts as full. Else prove '..UptoSaid'. A law counts once. -/
mutual
def uptoBulk {H : Type} : DataW H → Nat
  | .lit (.string bytes) => bytes.length + 1
  | .lit _ => 1
  | .nil => 1
  | .ptr d => uptoBulk d + 1
  | .slice elems spare => uptoBulkAll elems + uptoBulkAll spare + 1
  | .agg parts => uptoBulkAll parts + 1
  | .iface _ d => uptoBulk d + 1
  | .map entries => uptoBulkEntries entries + 1
  | .held _ => 1
def uptoBulkAll {H : Type} : List (DataW H) → Nat
  | [] => 0
  | d :: r => uptoBulk d + uptoBulkAll r
def uptoBulkEntries {H : Type} : List (Lit × DataW H) → Nat
  | [] => 0
  | x :: r => uptoBulkEntry x + uptoBulkEntries r
def uptoBulkEntry {H : Type} : Lit × DataW H → Nat
  | (.string bytes, d) => bytes.length + uptoBulk d + 1
  | (_, d) => uptoBulk d + 1
 end
def uptoSmall : (H : Type) → List (DataW H) → Bool := fun _ ds => decide (uptoBulkAll ds ≤ 1048576)
def OpenSpec.upto (s : _root_.Go.ChangeSpec) : _root_.Go.OpenSpec := { _root_.Go.OpenSpec.ofChange s with cond := some uptoSmall }

/-- 'keyholelaw24.SliceBacks', WHERE WHAT IT READS IS OF BULK AT MOST 1048576: true; the input reads as it did. -/
def sliceBacksUptoRow : OpenClaim := { program := "ytppjennamodfdaagreat", sum := "b25d5a9b331e18ffb836a401a6211dbae2b61941073f3a94897ff776662b13b9", func := "keyhole/keyholelaw24.SliceBacks", spec := "sliceBacks", unfollowed := true, recurses := true, loops := true, apart := false, narrowed := true }
def SliceBacksUptoSaid : Prop := sliceBacksUptoRow.holds Tryz.pinned (OpenSpec.upto sliceBacksSpec)

/-- 'keyholelaw24.SliceNeeds', WHERE WHAT IT READS IS OF BULK AT MOST 1048576: true; the input reads as it did. -/
def sliceNeedsUptoRow : OpenClaim := { program := "ytppjennamodfdaagreat", sum := "b25d5a9b331e18ffb836a401a6211dbae2b61941073f3a94897ff776662b13b9", func := "keyhole/keyholelaw24.SliceNeeds", spec := "sliceNeeds", unfollowed := true, recurses := true, loops := true, apart := false, narrowed := true }
def SliceNeedsUptoSaid : Prop := sliceNeedsUptoRow.holds Tryz.pinned (OpenSpec.upto sliceNeedsSpec)

/-- 'keyholelaw24.SliceDual', WHERE WHAT IT READS IS OF BULK AT MOST 1048576: true; the input reads as it did. -/
def sliceDualUptoRow : OpenClaim := { program := "ytppjennamodfdaagreat", sum := "b25d5a9b331e18ffb836a401a6211dbae2b61941073f3a94897ff776662b13b9", func := "keyhole/keyholelaw24.SliceDual", spec := "sliceDual", unfollowed := true, recurses := true, loops := true, apart := false, narrowed := true }
def SliceDualUptoSaid : Prop := sliceDualUptoRow.holds Tryz.pinned (OpenSpec.upto sliceDualSpec)

/-- 'keyholelaw24.SlicePrograms', WHERE WHAT IT READS IS OF BULK AT MOST 1048576: true; the input reads as it did. -/
def sliceProgramsUptoRow : OpenClaim := { program := "ytppjennamodfdaagreat", sum := "b25d5a9b331e18ffb836a401a6211dbae2b61941073f3a94897ff776662b13b9", func := "keyhole/keyholelaw24.SlicePrograms", spec := "slicePrograms", unfollowed := true, recurses := true, loops := true, apart := false, narrowed := true }
def SliceProgramsUptoSaid : Prop := sliceProgramsUptoRow.holds Tryz.pinned (OpenSpec.upto sliceProgramsSpec)

/-- 'keyholelaw24.SliceOutputs', WHERE WHAT IT READS IS OF BULK AT MOST 1048576: true; the input reads as it did. -/
def sliceOutputsUptoRow : OpenClaim := { program := "ytppjennamodfdaagreat", sum := "b25d5a9b331e18ffb836a401a6211dbae2b61941073f3a94897ff776662b13b9", func := "keyhole/keyholelaw24.SliceOutputs", spec := "sliceOutputs", unfollowed := true, recurses := true, loops := true, apart := false, narrowed := true }
def SliceOutputsUptoSaid : Prop := sliceOutputsUptoRow.holds Tryz.pinned (OpenSpec.upto sliceOutputsSpec)

/-- 'keyholelaw24.SliceUnneeded', WHERE WHAT IT READS IS OF BULK AT MOST 1048576: true; the input reads as it did. -/
def sliceUnneededUptoRow : OpenClaim := { program := "ytppjennamodfdaagreat", sum := "b25d5a9b331e18ffb836a401a6211dbae2b61941073f3a94897ff776662b13b9", func := "keyhole/keyholelaw24.SliceUnneeded", spec := "sliceUnneeded", unfollowed := true, recurses := true, loops := true, apart := false, narrowed := true }
def SliceUnneededUptoSaid : Prop := sliceUnneededUptoRow.holds Tryz.pinned (OpenSpec.upto sliceUnneededSpec)

/-- 'keyholelaw24.SliceUnions', WHERE WHAT IT READS IS OF BULK AT MOST 1048576: true; the input reads as it did. -/
def sliceUnionsUptoRow : OpenClaim := { program := "ytppjennamodfdaagreat", sum := "b25d5a9b331e18ffb836a401a6211dbae2b61941073f3a94897ff776662b13b9", func := "keyhole/keyholelaw24.SliceUnions", spec := "sliceUnions", unfollowed := true, recurses := true, loops := true, apart := false, narrowed := true }
def SliceUnionsUptoSaid : Prop := sliceUnionsUptoRow.holds Tryz.pinned (OpenSpec.upto sliceUnionsSpec)

end Rows
end Go.Proofs.YtppjennamodfdaaGreat
