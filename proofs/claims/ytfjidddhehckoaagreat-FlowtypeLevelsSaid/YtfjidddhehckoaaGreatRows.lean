/-
  NARROWER THAN 'FOR EVERY INPUT', by the rows' own cells (each row's printed sentence says how): FlowtypeSecure: loops · FlowtypeRaised: loops · FlowtypeSettled: loops · FlowtypeFaults: loops · FlowtypeChecks: loops · FlowtypeLevels: loops.
  DERIVED. THE GIVEN ROWS OF THIS SEAT. 6 by the template 'for every input the law returns true; each argument reads behind the call as it read before'; 0 by the template 'total and deterministic' (their statements: YtfjidddhehckoaaGreatTotals.lean).
  GIVEN WITH THE SEED: the statements are not yours to turn. If you find one false, say at which input.
  Laid BY PROGRAM, IN A SANDBOX (cutbox-rows.mjs): the forced cells as the released guide's own fill.sh prints them over the translation 315c554e568fd3c6… (all of the seat's roots in one cut). By AI agents, Wed Nov 11 2026. No macro, syntax, notation, axiom, sorry.
-/
import Derived.Test.YtfjidddhehckoaaGreatChecked
import GoSem.Claim
import GoSem.ClaimJoined
import GoSem.ClaimMapViews
import Derived.JoinedTies
import Derived.KernelRfl
namespace Go.Proofs.YtfjidddhehckoaaGreat
/- THE CELL 'sum', in the pinned program and in every row, IS THE sha256 OF THE DUMP (.gsa) THAT YtfjidddhehckoaaGreatProg.lean LOADS. Nothing in Lean hashes anything: it is a label: what it is worth is what the hold of that sum in a sandbox is worth. -/
noncomputable def Tryz.pinned : Pinned := { name := "ytfjidddhehckoaagreat", sum := "315c554e568fd3c69d43f27fa7c7d9b06389faa28c66bd26db0a99c57ffe256d", checked := Tryz.checked }
namespace Rows
def none {H : Type} : Left H := { results := [], args := [] }

/-- 'keyholelaw25.FlowtypeSecure': WHATEVER THE INPUT: true; the input reads as it did. -/
def flowtypeSecureSpec : ChangeSpec := { name := "flowtypeSecure", fn := fun _ => fun
  | [d1, d2, d3] => { results := [.lit (.bool true)], args := [d1, d2, d3] }
  | _ => none }
def flowtypeSecureRow : OpenClaim := { program := "ytfjidddhehckoaagreat", sum := "315c554e568fd3c69d43f27fa7c7d9b06389faa28c66bd26db0a99c57ffe256d", func := "keyhole/keyholelaw25.FlowtypeSecure", spec := "flowtypeSecure", unfollowed := true, recurses := true, loops := true, apart := false }
def FlowtypeSecureSaid : Prop := flowtypeSecureRow.holds Tryz.pinned (OpenSpec.ofChange flowtypeSecureSpec)

/-- ITS FALSE NEIGHBOUR: 'it returns false'. Refute it at one input. -/
def flowtypeSecureWrong : ChangeSpec := { name := "flowtypeSecure", fn := fun _ => fun
  | [d1, d2, d3] => { results := [.lit (.bool false)], args := [d1, d2, d3] }
  | _ => none }
def FlowtypeSecureWrongFalsely : Prop := flowtypeSecureRow.holds Tryz.pinned (OpenSpec.ofChange flowtypeSecureWrong)

/-- 'keyholelaw25.FlowtypeRaised': WHATEVER THE INPUT: true; the input reads as it did. -/
def flowtypeRaisedSpec : ChangeSpec := { name := "flowtypeRaised", fn := fun _ => fun
  | [d1, d2, d3] => { results := [.lit (.bool true)], args := [d1, d2, d3] }
  | _ => none }
def flowtypeRaisedRow : OpenClaim := { program := "ytfjidddhehckoaagreat", sum := "315c554e568fd3c69d43f27fa7c7d9b06389faa28c66bd26db0a99c57ffe256d", func := "keyhole/keyholelaw25.FlowtypeRaised", spec := "flowtypeRaised", unfollowed := true, recurses := true, loops := true, apart := false }
def FlowtypeRaisedSaid : Prop := flowtypeRaisedRow.holds Tryz.pinned (OpenSpec.ofChange flowtypeRaisedSpec)

/-- ITS FALSE NEIGHBOUR: 'it returns false'. Refute it at one input. -/
def flowtypeRaisedWrong : ChangeSpec := { name := "flowtypeRaised", fn := fun _ => fun
  | [d1, d2, d3] => { results := [.lit (.bool false)], args := [d1, d2, d3] }
  | _ => none }
def FlowtypeRaisedWrongFalsely : Prop := flowtypeRaisedRow.holds Tryz.pinned (OpenSpec.ofChange flowtypeRaisedWrong)

/-- 'keyholelaw25.FlowtypeSettled': WHATEVER THE INPUT: true; the input reads as it did. -/
def flowtypeSettledSpec : ChangeSpec := { name := "flowtypeSettled", fn := fun _ => fun
  | [d1, d2, d3] => { results := [.lit (.bool true)], args := [d1, d2, d3] }
  | _ => none }
def flowtypeSettledRow : OpenClaim := { program := "ytfjidddhehckoaagreat", sum := "315c554e568fd3c69d43f27fa7c7d9b06389faa28c66bd26db0a99c57ffe256d", func := "keyhole/keyholelaw25.FlowtypeSettled", spec := "flowtypeSettled", unfollowed := true, recurses := true, loops := true, apart := false }
def FlowtypeSettledSaid : Prop := flowtypeSettledRow.holds Tryz.pinned (OpenSpec.ofChange flowtypeSettledSpec)

/-- ITS FALSE NEIGHBOUR: 'it returns false'. Refute it at one input. -/
def flowtypeSettledWrong : ChangeSpec := { name := "flowtypeSettled", fn := fun _ => fun
  | [d1, d2, d3] => { results := [.lit (.bool false)], args := [d1, d2, d3] }
  | _ => none }
def FlowtypeSettledWrongFalsely : Prop := flowtypeSettledRow.holds Tryz.pinned (OpenSpec.ofChange flowtypeSettledWrong)

/-- 'keyholelaw25.FlowtypeFaults': WHATEVER THE INPUT: true; the input reads as it did. -/
def flowtypeFaultsSpec : ChangeSpec := { name := "flowtypeFaults", fn := fun _ => fun
  | [d1, d2] => { results := [.lit (.bool true)], args := [d1, d2] }
  | _ => none }
def flowtypeFaultsRow : OpenClaim := { program := "ytfjidddhehckoaagreat", sum := "315c554e568fd3c69d43f27fa7c7d9b06389faa28c66bd26db0a99c57ffe256d", func := "keyhole/keyholelaw25.FlowtypeFaults", spec := "flowtypeFaults", unfollowed := true, recurses := true, loops := true, apart := false }
def FlowtypeFaultsSaid : Prop := flowtypeFaultsRow.holds Tryz.pinned (OpenSpec.ofChange flowtypeFaultsSpec)

/-- ITS FALSE NEIGHBOUR: 'it returns false'. Refute it at one input. -/
def flowtypeFaultsWrong : ChangeSpec := { name := "flowtypeFaults", fn := fun _ => fun
  | [d1, d2] => { results := [.lit (.bool false)], args := [d1, d2] }
  | _ => none }
def FlowtypeFaultsWrongFalsely : Prop := flowtypeFaultsRow.holds Tryz.pinned (OpenSpec.ofChange flowtypeFaultsWrong)

/-- 'keyholelaw25.FlowtypeChecks': WHATEVER THE INPUT: true; the input reads as it did. -/
def flowtypeChecksSpec : ChangeSpec := { name := "flowtypeChecks", fn := fun _ => fun
  | [d1, d2] => { results := [.lit (.bool true)], args := [d1, d2] }
  | _ => none }
def flowtypeChecksRow : OpenClaim := { program := "ytfjidddhehckoaagreat", sum := "315c554e568fd3c69d43f27fa7c7d9b06389faa28c66bd26db0a99c57ffe256d", func := "keyhole/keyholelaw25.FlowtypeChecks", spec := "flowtypeChecks", unfollowed := true, recurses := true, loops := true, apart := false }
def FlowtypeChecksSaid : Prop := flowtypeChecksRow.holds Tryz.pinned (OpenSpec.ofChange flowtypeChecksSpec)

/-- ITS FALSE NEIGHBOUR: 'it returns false'. Refute it at one input. -/
def flowtypeChecksWrong : ChangeSpec := { name := "flowtypeChecks", fn := fun _ => fun
  | [d1, d2] => { results := [.lit (.bool false)], args := [d1, d2] }
  | _ => none }
def FlowtypeChecksWrongFalsely : Prop := flowtypeChecksRow.holds Tryz.pinned (OpenSpec.ofChange flowtypeChecksWrong)

/-- 'keyholelaw25.FlowtypeLevels': WHATEVER THE INPUT: true; the input reads as it did. -/
def flowtypeLevelsSpec : ChangeSpec := { name := "flowtypeLevels", fn := fun _ => fun
  | [d1, d2] => { results := [.lit (.bool true)], args := [d1, d2] }
  | _ => none }
def flowtypeLevelsRow : OpenClaim := { program := "ytfjidddhehckoaagreat", sum := "315c554e568fd3c69d43f27fa7c7d9b06389faa28c66bd26db0a99c57ffe256d", func := "keyhole/keyholelaw25.FlowtypeLevels", spec := "flowtypeLevels", unfollowed := true, recurses := true, loops := true, apart := false }
def FlowtypeLevelsSaid : Prop := flowtypeLevelsRow.holds Tryz.pinned (OpenSpec.ofChange flowtypeLevelsSpec)

/-- ITS FALSE NEIGHBOUR: 'it returns false'. Refute it at one input. -/
def flowtypeLevelsWrong : ChangeSpec := { name := "flowtypeLevels", fn := fun _ => fun
  | [d1, d2] => { results := [.lit (.bool false)], args := [d1, d2] }
  | _ => none }
def FlowtypeLevelsWrongFalsely : Prop := flowtypeLevelsRow.holds Tryz.pinned (OpenSpec.ofChange flowtypeLevelsWrong)

/- THE SECOND FORM. 'bulk': how many values and letters a reading holds, each counted each time it is reached (what is shared counts as often as it is met; a slice's spare places count too). A statement '..UptoSaid' is the law's where the arguments, and the package variables that the reading takes, are together of bulk at most 1048576: NARROWER than '..Said'. Prove '..Said' where nothing that the law and all that it calls make is longer than what came in: it says more and counts as full. Else prove '..UptoSaid'. A law counts once. -/
mutual
def uptoBulk {H : Type} : DataW H → Nat
  | .lit (.string bytes) => bytes.length + 1
  | .lit _ => 1
  | .nil => 1
  | .ptr d => uptoBulk d + 1
  | .slice elems spare => uptoBulkAll elems + uptoBulkAll spare + 1
  | .agg parts => uptoBulkAll parts + 1
  | .iface _ d => uptoBulk d + 1
  | .map entries => uptoBulkEntries entries + 1
  | .held _ => 1
def uptoBulkAll {H : Type} : List (DataW H) → Nat
  | [] => 0
  | d :: r => uptoBulk d + uptoBulkAll r
def uptoBulkEntries {H : Type} : List (Lit × DataW H) → Nat
  | [] => 0
  | x :: r => uptoBulkEntry x + uptoBulkEntries r
def uptoBulkEntry {H : Type} : Lit × DataW H → Nat
  | (.string bytes, d) => bytes.length + uptoBulk d + 1
  | (_, d) => uptoBulk d + 1
 end
def uptoSmall : (H : Type) → List (DataW H) → Bool := fun _ ds => decide (uptoBulkAll ds ≤ 1048576)
def OpenSpec.upto (s : _root_.Go.ChangeSpec) : _root_.Go.OpenSpec := { _root_.Go.OpenSpec.ofChange s with cond := some uptoSmall }

/-- 'keyholelaw25.FlowtypeSecure', WHERE WHAT IT READS IS OF BULK AT MOST 1048576: true; the input reads as it did. -/
def flowtypeSecureUptoRow : OpenClaim := { program := "ytfjidddhehckoaagreat", sum := "315c554e568fd3c69d43f27fa7c7d9b06389faa28c66bd26db0a99c57ffe256d", func := "keyhole/keyholelaw25.FlowtypeSecure", spec := "flowtypeSecure", unfollowed := true, recurses := true, loops := true, apart := false, narrowed := true }
def FlowtypeSecureUptoSaid : Prop := flowtypeSecureUptoRow.holds Tryz.pinned (OpenSpec.upto flowtypeSecureSpec)

/-- 'keyholelaw25.FlowtypeRaised', WHERE WHAT IT READS IS OF BULK AT MOST 1048576: true; the input reads as it did. -/
def flowtypeRaisedUptoRow : OpenClaim := { program := "ytfjidddhehckoaagreat", sum := "315c554e568fd3c69d43f27fa7c7d9b06389faa28c66bd26db0a99c57ffe256d", func := "keyhole/keyholelaw25.FlowtypeRaised", spec := "flowtypeRaised", unfollowed := true, recurses := true, loops := true, apart := false, narrowed := true }
def FlowtypeRaisedUptoSaid : Prop := flowtypeRaisedUptoRow.holds Tryz.pinned (OpenSpec.upto flowtypeRaisedSpec)

/-- 'keyholelaw25.FlowtypeSettled', WHERE WHAT IT READS IS OF BULK AT MOST 1048576: true; the input reads as it did. -/
def flowtypeSettledUptoRow : OpenClaim := { program := "ytfjidddhehckoaagreat", sum := "315c554e568fd3c69d43f27fa7c7d9b06389faa28c66bd26db0a99c57ffe256d", func := "keyhole/keyholelaw25.FlowtypeSettled", spec := "flowtypeSettled", unfollowed := true, recurses := true, loops := true, apart := false, narrowed := true }
def FlowtypeSettledUptoSaid : Prop := flowtypeSettledUptoRow.holds Tryz.pinned (OpenSpec.upto flowtypeSettledSpec)

/-- 'keyholelaw25.FlowtypeFaults', WHERE WHAT IT READS IS OF BULK AT MOST 1048576: true; the input reads as it did. -/
def flowtypeFaultsUptoRow : OpenClaim := { program := "ytfjidddhehckoaagreat", sum := "315c554e568fd3c69d43f27fa7c7d9b06389faa28c66bd26db0a99c57ffe256d", func := "keyhole/keyholelaw25.FlowtypeFaults", spec := "flowtypeFaults", unfollowed := true, recurses := true, loops := true, apart := false, narrowed := true }
def FlowtypeFaultsUptoSaid : Prop := flowtypeFaultsUptoRow.holds Tryz.pinned (OpenSpec.upto flowtypeFaultsSpec)

/-- 'keyholelaw25.FlowtypeChecks', WHERE WHAT IT READS IS OF BULK AT MOST 1048576: true; the input reads as it did. -/
def flowtypeChecksUptoRow : OpenClaim := { program := "ytfjidddhehckoaagreat", sum := "315c554e568fd3c69d43f27fa7c7d9b06389faa28c66bd26db0a99c57ffe256d", func := "keyhole/keyholelaw25.FlowtypeChecks", spec := "flowtypeChecks", unfollowed := true, recurses := true, loops := true, apart := false, narrowed := true }
def FlowtypeChecksUptoSaid : Prop := flowtypeChecksUptoRow.holds Tryz.pinned (OpenSpec.upto flowtypeChecksSpec)

/-- 'keyholelaw25.FlowtypeLevels', WHERE WHAT IT READS IS OF BULK AT MOST 1048576: true; the input reads as it did. -/
def flowtypeLevelsUptoRow : OpenClaim := { program := "ytfjidddhehckoaagreat", sum := "315c554e568fd3c69d43f27fa7c7d9b06389faa28c66bd26db0a99c57ffe256d", func := "keyhole/keyholelaw25.FlowtypeLevels", spec := "flowtypeLevels", unfollowed := true, recurses := true, loops := true, apart := false, narrowed := true }
def FlowtypeLevelsUptoSaid : Prop := flowtypeLevelsUptoRow.holds Tryz.pinned (OpenSpec.upto flowtypeLevelsSpec)

end Rows
end Go.Proofs.YtfjidddhehckoaaGreat
