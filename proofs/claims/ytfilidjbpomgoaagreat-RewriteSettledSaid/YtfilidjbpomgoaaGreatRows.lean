/-
  NARROWER THAN 'FOR EVERY INPUT', by the rows' own cells (each row's printed sentence says how): RewriteEven: loops · RewriteSteady: loops · RewriteSettled: loops.
  DERIVED. THE GIVEN ROWS OF THIS SEAT. 3 by the template 'for every input the law returns true; each argument reads behind the call as it read before'; 0 by the template 'total and deterministic' (their statements: YtfilidjbpomgoaaGreatTotals.lean).
  GIVEN WITH THE SEED: the statements are not yours to turn. If you find one false, say at which input.
  Laid BY PROGRAM, IN A SANDBOX (cutbox-rows.mjs): the forced cells as the released guide's own fill.sh prints them over the translation debf557ffeda601a… (all of the seat's roots in one cut). By AI agents, Wed Nov 11 2026. No macro, syntax, notation, axiom, sorry.
-/
import Derived.Test.YtfilidjbpomgoaaGreatChecked
import GoSem.Claim
import GoSem.ClaimJoined
import GoSem.ClaimMapViews
import Derived.JoinedTies
import Derived.KernelRfl
namespace Go.Proofs.YtfilidjbpomgoaaGreat
/- THE CELL 'sum', in the pinned program and in every row, IS THE sha256 OF THE DUMP (.gsa) THAT YtfilidjbpomgoaaGreatProg.lean LOADS. Nothing in Lean hashes anything: it is a label: what it is worth is what the hold of that sum in a sandbox is worth. -/
noncomputable def Tryz.pinned : Pinned := { name := "ytfilidjbpomgoaagreat", sum := "debf557ffeda601ad07857ca29fed8ea066b3901dd0182af008a891a608682f3", checked := Tryz.checked }
namespace Rows
def none {H : Type} : Left H := { results := [], args := [] }

/-- 'keyholelaw46.RewriteEven': WHATEVER THE INPUT: true; the input reads as it did. -/
def rewriteEvenSpec : ChangeSpec := { name := "rewriteEven", fn := fun _ => fun
  | [d] => { results := [.lit (.bool true)], args := [d] }
  | _ => none }
def rewriteEvenRow : OpenClaim := { program := "ytfilidjbpomgoaagreat", sum := "debf557ffeda601ad07857ca29fed8ea066b3901dd0182af008a891a608682f3", func := "keyhole/keyholelaw46.RewriteEven", spec := "rewriteEven", unfollowed := true, recurses := true, loops := true, apart := false }
def RewriteEvenSaid : Prop := rewriteEvenRow.holds Tryz.pinned (OpenSpec.ofChange rewriteEvenSpec)

/-- ITS FALSE NEIGHBOUR: 'it returns false'. Refute it at one input. -/
def rewriteEvenWrong : ChangeSpec := { name := "rewriteEven", fn := fun _ => fun
  | [d] => { results := [.lit (.bool false)], args := [d] }
  | _ => none }
def RewriteEvenWrongFalsely : Prop := rewriteEvenRow.holds Tryz.pinned (OpenSpec.ofChange rewriteEvenWrong)

/-- 'keyholelaw46.RewriteSteady': WHATEVER THE INPUT: true; the input reads as it did. -/
def rewriteSteadySpec : ChangeSpec := { name := "rewriteSteady", fn := fun _ => fun
  | [d] => { results := [.lit (.bool true)], args := [d] }
  | _ => none }
def rewriteSteadyRow : OpenClaim := { program := "ytfilidjbpomgoaagreat", sum := "debf557ffeda601ad07857ca29fed8ea066b3901dd0182af008a891a608682f3", func := "keyhole/keyholelaw46.RewriteSteady", spec := "rewriteSteady", unfollowed := true, recurses := true, loops := true, apart := false }
def RewriteSteadySaid : Prop := rewriteSteadyRow.holds Tryz.pinned (OpenSpec.ofChange rewriteSteadySpec)

/-- ITS FALSE NEIGHBOUR: 'it returns false'. Refute it at one input. -/
def rewriteSteadyWrong : ChangeSpec := { name := "rewriteSteady", fn := fun _ => fun
  | [d] => { results := [.lit (.bool false)], args := [d] }
  | _ => none }
def RewriteSteadyWrongFalsely : Prop := rewriteSteadyRow.holds Tryz.pinned (OpenSpec.ofChange rewriteSteadyWrong)

/-- 'keyholelaw46.RewriteSettled': WHATEVER THE INPUT: true; the input reads as it did. -/
def rewriteSettledSpec : ChangeSpec := { name := "rewriteSettled", fn := fun _ => fun
  | [d1, d2] => { results := [.lit (.bool true)], args := [d1, d2] }
  | _ => none }
def rewriteSettledRow : OpenClaim := { program := "ytfilidjbpomgoaagreat", sum := "debf557ffeda601ad07857ca29fed8ea066b3901dd0182af008a891a608682f3", func := "keyhole/keyholelaw46.RewriteSettled", spec := "rewriteSettled", unfollowed := true, recurses := true, loops := true, apart := false }
def RewriteSettledSaid : Prop := rewriteSettledRow.holds Tryz.pinned (OpenSpec.ofChange rewriteSettledSpec)

/-- ITS FALSE NEIGHBOUR: 'it returns false'. Refute it at one input. -/
def rewriteSettledWrong : ChangeSpec := { name := "rewriteSettled", fn := fun _ => fun
  | [d1, d2] => { results := [.lit (.bool false)], args := [d1, d2] }
  | _ => none }
def RewriteSettledWrongFalsely : Prop := rewriteSettledRow.holds Tryz.pinned (OpenSpec.ofChange rewriteSettledWrong)

/- THE SECOND FORM. 'bulk': how many values and letters a reading holds, each counted each time it is reached (what is shared counts as often as it is met; a slice's spare places count too). A statement '..UptoSaid' is the law's where the arguments, and the package variables that the reading takes, are together of bulk at most 1048576: NARROWER than '..Said'. Prove '..Said' where nothing that the law and all that it calls make is longer than what came in: it says more and counts as full. Else prove '..UptoSaid'. A law counts once. -/
mutual
def uptoBulk {H : Type} : DataW H → Nat
  | .lit (.string bytes) => bytes.length + 1
  | .lit _ => 1
  | .nil => 1
  | .ptr d => uptoBulk d + 1
  | .slice elems spare => uptoBulkAll elems + uptoBulkAll spare + 1
  | .agg parts => uptoBulkAll parts + 1
  | .iface _ d => uptoBulk d + 1
  | .map entries => uptoBulkEntries entries + 1
  | .held _ => 1
def uptoBulkAll {H : Type} : List (DataW H) → Nat
  | [] => 0
  | d :: r => uptoBulk d + uptoBulkAll r
def uptoBulkEntries {H : Type} : List (Lit × DataW H) → Nat
  | [] => 0
  | x :: r => uptoBulkEntry x + uptoBulkEntries r
def uptoBulkEntry {H : Type} : Lit × DataW H → Nat
  | (.string bytes, d) => bytes.length + uptoBulk d + 1
  | (_, d) => uptoBulk d + 1
 end
def uptoSmall : (H : Type) → List (DataW H) → Bool := fun _ ds => decide (uptoBulkAll ds ≤ 1048576)
def OpenSpec.upto (s : _root_.Go.ChangeSpec) : _root_.Go.OpenSpec := { _root_.Go.OpenSpec.ofChange s with cond := some uptoSmall }

/-- 'keyholelaw46.RewriteEven', WHERE WHAT IT READS IS OF BULK AT MOST 1048576: true; the input reads as it did. -/
def rewriteEvenUptoRow : OpenClaim := { program := "ytfilidjbpomgoaagreat", sum := "debf557ffeda601ad07857ca29fed8ea066b3901dd0182af008a891a608682f3", func := "keyhole/keyholelaw46.RewriteEven", spec := "rewriteEven", unfollowed := true, recurses := true, loops := true, apart := false, narrowed := true }
def RewriteEvenUptoSaid : Prop := rewriteEvenUptoRow.holds Tryz.pinned (OpenSpec.upto rewriteEvenSpec)

/-- 'keyholelaw46.RewriteSteady', WHERE WHAT IT READS IS OF BULK AT MOST 1048576: true; the input reads as it did. -/
def rewriteSteadyUptoRow : OpenClaim := { program := "ytfilidjbpomgoaagreat", sum := "debf557ffeda601ad07857ca29fed8ea066b3901dd0182af008a891a608682f3", func := "keyhole/keyholelaw46.RewriteSteady", spec := "rewriteSteady", unfollowed := true, recurses := true, loops := true, apart := false, narrowed := true }
def RewriteSteadyUptoSaid : Prop := rewriteSteadyUptoRow.holds Tryz.pinned (OpenSpec.upto rewriteSteadySpec)

/-- 'keyholelaw46.RewriteSettled', WHERE WHAT IT READS IS OF BULK AT MOST 1048576: true; the input reads as it did. -/
def rewriteSettledUptoRow : OpenClaim := { program := "ytfilidjbpomgoaagreat", sum := "debf557ffeda601ad07857ca29fed8ea066b3901dd0182af008a891a608682f3", func := "keyhole/keyholelaw46.RewriteSettled", spec := "rewriteSettled", unfollowed := true, recurses := true, loops := true, apart := false, narrowed := true }
def RewriteSettledUptoSaid : Prop := rewriteSettledUptoRow.holds Tryz.pinned (OpenSpec.upto rewriteSettledSpec)

end Rows
end Go.Proofs.YtfilidjbpomgoaaGreat
