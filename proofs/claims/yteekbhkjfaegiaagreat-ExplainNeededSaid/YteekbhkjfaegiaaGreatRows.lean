/-
  NARROWER THAN 'FOR EVERY INPUT', by the rows' own cells (each row's printed sentence says how): ExplainPair: loops · ExplainLeast: loops · ExplainNeeded: loops.
  DERIVED. THE GIVEN ROWS OF THIS SEAT. 3 by the template 'for every input the law returns true; each argument reads behind the call as it read before'; 0 by the template 'total and deterministic' (their statements: YteekbhkjfaegiaaGreatTotals.lean).
  GIVEN WITH THE SEED: the statements are not yours to turn. If you find one false, say at which input.
  Laid BY PROGRAM, IN A SANDBOX (cutbox-rows.mjs): the forced cells as the released guide's own fill.sh prints them over the translation 948262ee2269a564… (all of the seat's roots in one cut). By AI agents, Wed Nov 11 2026. No macro, syntax, notation, axiom, sorry.
-/
import Derived.Test.YteekbhkjfaegiaaGreatChecked
import GoSem.Claim
import GoSem.ClaimJoined
import GoSem.ClaimMapViews
import Derived.JoinedTies
import Derived.KernelRfl
namespace Go.Proofs.YteekbhkjfaegiaaGreat
/- THE CELL 'sum', in the pinned program and in every row, IS THE sha256 OF THE DUMP (.gsa) THAT YteekbhkjfaegiaaGreatProg.lean LOADS. Nothing in Lean hashes anything: it is a label: what it is worth is what the hold of that sum in a sandbox is worth. -/
noncomputable def Tryz.pinned : Pinned := { name := "yteekbhkjfaegiaagreat", sum := "948262ee2269a564463f3b8895be3ed08ec4fa77912d84545039fb436aab628e", checked := Tryz.checked }
namespace Rows
def none {H : Type} : Left H := { results := [], args := [] }

/-- 'keyholelaw54.ExplainPair': WHATEVER THE INPUT: true; the input reads as it did. -/
def explainPairSpec : ChangeSpec := { name := "explainPair", fn := fun _ => fun
  | [d1, d2] => { results := [.lit (.bool true)], args := [d1, d2] }
  | _ => none }
def explainPairRow : OpenClaim := { program := "yteekbhkjfaegiaagreat", sum := "948262ee2269a564463f3b8895be3ed08ec4fa77912d84545039fb436aab628e", func := "keyhole/keyholelaw54.ExplainPair", spec := "explainPair", unfollowed := true, recurses := true, loops := true, apart := false }
def ExplainPairSaid : Prop := explainPairRow.holds Tryz.pinned (OpenSpec.ofChange explainPairSpec)

/-- ITS FALSE NEIGHBOUR: 'it returns false'. Refute it at one input. -/
def explainPairWrong : ChangeSpec := { name := "explainPair", fn := fun _ => fun
  | [d1, d2] => { results := [.lit (.bool false)], args := [d1, d2] }
  | _ => none }
def ExplainPairWrongFalsely : Prop := explainPairRow.holds Tryz.pinned (OpenSpec.ofChange explainPairWrong)

/-- 'keyholelaw54.ExplainLeast': WHATEVER THE INPUT: true; the input reads as it did. -/
def explainLeastSpec : ChangeSpec := { name := "explainLeast", fn := fun _ => fun
  | [d1, d2, d3] => { results := [.lit (.bool true)], args := [d1, d2, d3] }
  | _ => none }
def explainLeastRow : OpenClaim := { program := "yteekbhkjfaegiaagreat", sum := "948262ee2269a564463f3b8895be3ed08ec4fa77912d84545039fb436aab628e", func := "keyhole/keyholelaw54.ExplainLeast", spec := "explainLeast", unfollowed := true, recurses := true, loops := true, apart := false }
def ExplainLeastSaid : Prop := explainLeastRow.holds Tryz.pinned (OpenSpec.ofChange explainLeastSpec)

/-- ITS FALSE NEIGHBOUR: 'it returns false'. Refute it at one input. -/
def explainLeastWrong : ChangeSpec := { name := "explainLeast", fn := fun _ => fun
  | [d1, d2, d3] => { results := [.lit (.bool false)], args := [d1, d2, d3] }
  | _ => none }
def ExplainLeastWrongFalsely : Prop := explainLeastRow.holds Tryz.pinned (OpenSpec.ofChange explainLeastWrong)

/-- 'keyholelaw54.ExplainNeeded': WHATEVER THE INPUT: true; the input reads as it did. -/
def explainNeededSpec : ChangeSpec := { name := "explainNeeded", fn := fun _ => fun
  | [d1, d2] => { results := [.lit (.bool true)], args := [d1, d2] }
  | _ => none }
def explainNeededRow : OpenClaim := { program := "yteekbhkjfaegiaagreat", sum := "948262ee2269a564463f3b8895be3ed08ec4fa77912d84545039fb436aab628e", func := "keyhole/keyholelaw54.ExplainNeeded", spec := "explainNeeded", unfollowed := true, recurses := true, loops := true, apart := false }
def ExplainNeededSaid : Prop := explainNeededRow.holds Tryz.pinned (OpenSpec.ofChange explainNeededSpec)

/-- ITS FALSE NEIGHBOUR: 'it returns false'. Refute it at one input. -/
def explainNeededWrong : ChangeSpec := { name := "explainNeeded", fn := fun _ => fun
  | [d1, d2] => { results := [.lit (.bool false)], args := [d1, d2] }
  | _ => none }
def ExplainNeededWrongFalsely : Prop := explainNeededRow.holds Tryz.pinned (OpenSpec.ofChange explainNeededWrong)

/- THE SECOND FORM. 'bulk': how many values and letters a reading holds, each counted each time it is reached (what is shared counts as often as it is met; a slice's spare places count too). A statement '..UptoSaid' is the law's where the arguments, and the package variables that the reading takes, are together of bulk at most 1048576: NARROWER than '..Said'. Prove '..Said' where nothing that the law and all that it calls make is longer than what came in: it says more and counts as full. Else prove '..UptoSaid'. A law counts once. -/
mutual
def uptoBulk {H : Type} : DataW H → Nat
  | .lit (.string bytes) => bytes.length + 1
  | .lit _ => 1
  | .nil => 1
  | .ptr d => uptoBulk d + 1
  | .slice elems spare => uptoBulkAll elems + uptoBulkAll spare + 1
  | .agg parts => uptoBulkAll parts + 1
  | .iface _ d => uptoBulk d + 1
  | .map entries => uptoBulkEntries entries + 1
  | .held _ => 1
def uptoBulkAll {H : Type} : List (DataW H) → Nat
  | [] => 0
  | d :: r => uptoBulk d + uptoBulkAll r
def uptoBulkEntries {H : Type} : List (Lit × DataW H) → Nat
  | [] => 0
  | x :: r => uptoBulkEntry x + uptoBulkEntries r
def uptoBulkEntry {H : Type} : Lit × DataW H → Nat
  | (.string bytes, d) => bytes.length + uptoBulk d + 1
  | (_, d) => uptoBulk d + 1
 end
def uptoSmall : (H : Type) → List (DataW H) → Bool := fun _ ds => decide (uptoBulkAll ds ≤ 1048576)
def OpenSpec.upto (s : _root_.Go.ChangeSpec) : _root_.Go.OpenSpec := { _root_.Go.OpenSpec.ofChange s with cond := some uptoSmall }

/-- 'keyholelaw54.ExplainPair', WHERE WHAT IT READS IS OF BULK AT MOST 1048576: true; the input reads as it did. -/
def explainPairUptoRow : OpenClaim := { program := "yteekbhkjfaegiaagreat", sum := "948262ee2269a564463f3b8895be3ed08ec4fa77912d84545039fb436aab628e", func := "keyhole/keyholelaw54.ExplainPair", spec := "explainPair", unfollowed := true, recurses := true, loops := true, apart := false, narrowed := true }
def ExplainPairUptoSaid : Prop := explainPairUptoRow.holds Tryz.pinned (OpenSpec.upto explainPairSpec)

/-- 'keyholelaw54.ExplainLeast', WHERE WHAT IT READS IS OF BULK AT MOST 1048576: true; the input reads as it did. -/
def explainLeastUptoRow : OpenClaim := { program := "yteekbhkjfaegiaagreat", sum := "948262ee2269a564463f3b8895be3ed08ec4fa77912d84545039fb436aab628e", func := "keyhole/keyholelaw54.ExplainLeast", spec := "explainLeast", unfollowed := true, recurses := true, loops := true, apart := false, narrowed := true }
def ExplainLeastUptoSaid : Prop := explainLeastUptoRow.holds Tryz.pinned (OpenSpec.upto explainLeastSpec)

/-- 'keyholelaw54.ExplainNeeded', WHERE WHAT IT READS IS OF BULK AT MOST 1048576: true; the input reads as it did. -/
def explainNeededUptoRow : OpenClaim := { program := "yteekbhkjfaegiaagreat", sum := "948262ee2269a564463f3b8895be3ed08ec4fa77912d84545039fb436aab628e", func := "keyhole/keyholelaw54.ExplainNeeded", spec := "explainNeeded", unfollowed := true, recurses := true, loops := true, apart := false, narrowed := true }
def ExplainNeededUptoSaid : Prop := explainNeededUptoRow.holds Tryz.pinned (OpenSpec.upto explainNeededSpec)

end Rows
end Go.Proofs.YteekbhkjfaegiaaGreat
