/-
  No cell of these rows narrows 'for every input' (looked for: loops, veiled, ifaces, maps, wideKeys, modest, calm, conditions, laid).
  DERIVED. THE GIVEN ROWS OF THIS SEAT. 8 by the template 'for every input the law returns true; each argument reads behind the call as it read before'; 0 by the template 'total and deterministic' (their statements: YtpnhnldneecpnaaTotals.lean).
  GIVEN WITH THE SEED: the statements are not yours to turn. If you find one false, say at which input.
  Laid BY PROGRAM, IN A SANDBOX (cutbox-rows.mjs): the forced cells as the released guide's own fill.sh prints them over the translation 56f29a82aec0907e… (all of the seat's roots in one cut). By AI agents, Wed Nov 11 2026. No macro, syntax, notation, axiom, sorry.
-/
import Derived.Test.YtpnhnldneecpnaaChecked
import GoSem.Claim
import GoSem.ClaimJoined
import GoSem.ClaimMapViews
import Derived.JoinedTies
import Derived.KernelRfl
namespace Go.Proofs.Ytpnhnldneecpnaa
/- THE CELL 'sum', in the pinned program and in every row, IS THE sha256 OF THE DUMP (.gsa) THAT YtpnhnldneecpnaaProg.lean LOADS. Nothing in Lean hashes anything: it is a label: what it is worth is what the hold of that sum in a sandbox is worth. -/
noncomputable def Try.pinned : Pinned := { name := "ytpnhnldneecpnaa", sum := "56f29a82aec0907e2765726cbed70249889b8ae3b95026f3c766901200e6e964", checked := Try.checked }
namespace Rows
def none {H : Type} : Left H := { results := [], args := [] }

/-- 'keyholelaw13.DomainSpaces': WHATEVER THE INPUT: true; the input reads as it did. -/
def domainSpacesSpec : ChangeSpec := { name := "domainSpaces", fn := fun _ => fun
  | [d1, d2] => { results := [.lit (.bool true)], args := [d1, d2] }
  | _ => none }
def domainSpacesRow : OpenClaim := { program := "ytpnhnldneecpnaa", sum := "56f29a82aec0907e2765726cbed70249889b8ae3b95026f3c766901200e6e964", func := "keyhole/keyholelaw13.DomainSpaces", spec := "domainSpaces", apart := false }
def DomainSpacesSaid : Prop := domainSpacesRow.holds Try.pinned (OpenSpec.ofChange domainSpacesSpec)

/-- ITS FALSE NEIGHBOUR: 'it returns false'. Refute it at one input. -/
def domainSpacesWrong : ChangeSpec := { name := "domainSpaces", fn := fun _ => fun
  | [d1, d2] => { results := [.lit (.bool false)], args := [d1, d2] }
  | _ => none }
def DomainSpacesWrongFalsely : Prop := domainSpacesRow.holds Try.pinned (OpenSpec.ofChange domainSpacesWrong)

/-- 'keyholelaw13.DomainRanks': WHATEVER THE INPUT: true; the input reads as it did. -/
def domainRanksSpec : ChangeSpec := { name := "domainRanks", fn := fun _ => fun
  | [d1, d2, d3] => { results := [.lit (.bool true)], args := [d1, d2, d3] }
  | _ => none }
def domainRanksRow : OpenClaim := { program := "ytpnhnldneecpnaa", sum := "56f29a82aec0907e2765726cbed70249889b8ae3b95026f3c766901200e6e964", func := "keyhole/keyholelaw13.DomainRanks", spec := "domainRanks", apart := false }
def DomainRanksSaid : Prop := domainRanksRow.holds Try.pinned (OpenSpec.ofChange domainRanksSpec)

/-- ITS FALSE NEIGHBOUR: 'it returns false'. Refute it at one input. -/
def domainRanksWrong : ChangeSpec := { name := "domainRanks", fn := fun _ => fun
  | [d1, d2, d3] => { results := [.lit (.bool false)], args := [d1, d2, d3] }
  | _ => none }
def DomainRanksWrongFalsely : Prop := domainRanksRow.holds Try.pinned (OpenSpec.ofChange domainRanksWrong)

/-- 'keyholelaw13.DomainUnranks': WHATEVER THE INPUT: true; the input reads as it did. -/
def domainUnranksSpec : ChangeSpec := { name := "domainUnranks", fn := fun _ => fun
  | [d1, d2, d3] => { results := [.lit (.bool true)], args := [d1, d2, d3] }
  | _ => none }
def domainUnranksRow : OpenClaim := { program := "ytpnhnldneecpnaa", sum := "56f29a82aec0907e2765726cbed70249889b8ae3b95026f3c766901200e6e964", func := "keyhole/keyholelaw13.DomainUnranks", spec := "domainUnranks", apart := false }
def DomainUnranksSaid : Prop := domainUnranksRow.holds Try.pinned (OpenSpec.ofChange domainUnranksSpec)

/-- ITS FALSE NEIGHBOUR: 'it returns false'. Refute it at one input. -/
def domainUnranksWrong : ChangeSpec := { name := "domainUnranks", fn := fun _ => fun
  | [d1, d2, d3] => { results := [.lit (.bool false)], args := [d1, d2, d3] }
  | _ => none }
def DomainUnranksWrongFalsely : Prop := domainUnranksRow.holds Try.pinned (OpenSpec.ofChange domainUnranksWrong)

/-- 'keyholelaw13.DomainOrder': WHATEVER THE INPUT: true; the input reads as it did. -/
def domainOrderSpec : ChangeSpec := { name := "domainOrder", fn := fun _ => fun
  | [d1, d2, d3] => { results := [.lit (.bool true)], args := [d1, d2, d3] }
  | _ => none }
def domainOrderRow : OpenClaim := { program := "ytpnhnldneecpnaa", sum := "56f29a82aec0907e2765726cbed70249889b8ae3b95026f3c766901200e6e964", func := "keyhole/keyholelaw13.DomainOrder", spec := "domainOrder", apart := false }
def DomainOrderSaid : Prop := domainOrderRow.holds Try.pinned (OpenSpec.ofChange domainOrderSpec)

/-- ITS FALSE NEIGHBOUR: 'it returns false'. Refute it at one input. -/
def domainOrderWrong : ChangeSpec := { name := "domainOrder", fn := fun _ => fun
  | [d1, d2, d3] => { results := [.lit (.bool false)], args := [d1, d2, d3] }
  | _ => none }
def DomainOrderWrongFalsely : Prop := domainOrderRow.holds Try.pinned (OpenSpec.ofChange domainOrderWrong)

/-- 'keyholelaw13.DomainKinds': WHATEVER THE INPUT: true; the input reads as it did. -/
def domainKindsSpec : ChangeSpec := { name := "domainKinds", fn := fun _ => fun
  | [d1, d2, d3] => { results := [.lit (.bool true)], args := [d1, d2, d3] }
  | _ => none }
def domainKindsRow : OpenClaim := { program := "ytpnhnldneecpnaa", sum := "56f29a82aec0907e2765726cbed70249889b8ae3b95026f3c766901200e6e964", func := "keyhole/keyholelaw13.DomainKinds", spec := "domainKinds", apart := false }
def DomainKindsSaid : Prop := domainKindsRow.holds Try.pinned (OpenSpec.ofChange domainKindsSpec)

/-- ITS FALSE NEIGHBOUR: 'it returns false'. Refute it at one input. -/
def domainKindsWrong : ChangeSpec := { name := "domainKinds", fn := fun _ => fun
  | [d1, d2, d3] => { results := [.lit (.bool false)], args := [d1, d2, d3] }
  | _ => none }
def DomainKindsWrongFalsely : Prop := domainKindsRow.holds Try.pinned (OpenSpec.ofChange domainKindsWrong)

/-- 'keyholelaw13.DomainNext': WHATEVER THE INPUT: true; the input reads as it did. -/
def domainNextSpec : ChangeSpec := { name := "domainNext", fn := fun _ => fun
  | [d1, d2, d3] => { results := [.lit (.bool true)], args := [d1, d2, d3] }
  | _ => none }
def domainNextRow : OpenClaim := { program := "ytpnhnldneecpnaa", sum := "56f29a82aec0907e2765726cbed70249889b8ae3b95026f3c766901200e6e964", func := "keyhole/keyholelaw13.DomainNext", spec := "domainNext", apart := false }
def DomainNextSaid : Prop := domainNextRow.holds Try.pinned (OpenSpec.ofChange domainNextSpec)

/-- ITS FALSE NEIGHBOUR: 'it returns false'. Refute it at one input. -/
def domainNextWrong : ChangeSpec := { name := "domainNext", fn := fun _ => fun
  | [d1, d2, d3] => { results := [.lit (.bool false)], args := [d1, d2, d3] }
  | _ => none }
def DomainNextWrongFalsely : Prop := domainNextRow.holds Try.pinned (OpenSpec.ofChange domainNextWrong)

/-- 'keyholelaw13.DomainInputs': WHATEVER THE INPUT: true; the input reads as it did. -/
def domainInputsSpec : ChangeSpec := { name := "domainInputs", fn := fun _ => fun
  | [d1, d2] => { results := [.lit (.bool true)], args := [d1, d2] }
  | _ => none }
def domainInputsRow : OpenClaim := { program := "ytpnhnldneecpnaa", sum := "56f29a82aec0907e2765726cbed70249889b8ae3b95026f3c766901200e6e964", func := "keyhole/keyholelaw13.DomainInputs", spec := "domainInputs", apart := false }
def DomainInputsSaid : Prop := domainInputsRow.holds Try.pinned (OpenSpec.ofChange domainInputsSpec)

/-- ITS FALSE NEIGHBOUR: 'it returns false'. Refute it at one input. -/
def domainInputsWrong : ChangeSpec := { name := "domainInputs", fn := fun _ => fun
  | [d1, d2] => { results := [.lit (.bool false)], args := [d1, d2] }
  | _ => none }
def DomainInputsWrongFalsely : Prop := domainInputsRow.holds Try.pinned (OpenSpec.ofChange domainInputsWrong)

/-- 'keyholelaw13.DomainWithin': WHATEVER THE INPUT: true; the input reads as it did. -/
def domainWithinSpec : ChangeSpec := { name := "domainWithin", fn := fun _ => fun
  | [d1, d2, d3] => { results := [.lit (.bool true)], args := [d1, d2, d3] }
  | _ => none }
def domainWithinRow : OpenClaim := { program := "ytpnhnldneecpnaa", sum := "56f29a82aec0907e2765726cbed70249889b8ae3b95026f3c766901200e6e964", func := "keyhole/keyholelaw13.DomainWithin", spec := "domainWithin", apart := false }
def DomainWithinSaid : Prop := domainWithinRow.holds Try.pinned (OpenSpec.ofChange domainWithinSpec)

/-- ITS FALSE NEIGHBOUR: 'it returns false'. Refute it at one input. -/
def domainWithinWrong : ChangeSpec := { name := "domainWithin", fn := fun _ => fun
  | [d1, d2, d3] => { results := [.lit (.bool false)], args := [d1, d2, d3] }
  | _ => none }
def DomainWithinWrongFalsely : Prop := domainWithinRow.holds Try.pinned (OpenSpec.ofChange domainWithinWrong)

/- THE SECOND FORM. 'bulk': how many values and letters a reading holds, each counted each time it is reached (what is shared counts as often as it is met; a slice's spare places count too). A statement '..UptoSaid' is the law's where the arguments, and the package variables that the reading takes, are together of bulk at most 1048576: NARROWER than '..Said'. Prove '..Said' where nothing that the law and all that it calls make is longer than what came in: it says more and counts as full. Else prove '..UptoSaid'. A law counts once. -/
mutual
def uptoBulk {H : Type} : DataW H → Nat
  | .lit (.string bytes) => bytes.length + 1
  | .lit _ => 1
  | .nil => 1
  | .ptr d => uptoBulk d + 1
  | .slice elems spare => uptoBulkAll elems + uptoBulkAll spare + 1
  | .agg parts => uptoBulkAll parts + 1
  | .iface _ d => uptoBulk d + 1
  | .map entries => uptoBulkEntries entries + 1
  | .held _ => 1
def uptoBulkAll {H : Type} : List (DataW H) → Nat
  | [] => 0
  | d :: r => uptoBulk d + uptoBulkAll r
def uptoBulkEntries {H : Type} : List (Lit × DataW H) → Nat
  | [] => 0
  | x :: r => uptoBulkEntry x + uptoBulkEntries r
def uptoBulkEntry {H : Type} : Lit × DataW H → Nat
  | (.string bytes, d) => bytes.length + uptoBulk d + 1
  | (_, d) => uptoBulk d + 1
 end
def uptoSmall : (H : Type) → List (DataW H) → Bool := fun _ ds => decide (uptoBulkAll ds ≤ 1048576)
def OpenSpec.upto (s : _root_.Go.ChangeSpec) : _root_.Go.OpenSpec := { _root_.Go.OpenSpec.ofChange s with cond := some uptoSmall }

/-- 'keyholelaw13.DomainSpaces', WHERE WHAT IT READS IS OF BULK AT MOST 1048576: true; the input reads as it did. -/
def domainSpacesUptoRow : OpenClaim := { program := "ytpnhnldneecpnaa", sum := "56f29a82aec0907e2765726cbed70249889b8ae3b95026f3c766901200e6e964", func := "keyhole/keyholelaw13.DomainSpaces", spec := "domainSpaces", apart := false, narrowed := true }
def DomainSpacesUptoSaid : Prop := domainSpacesUptoRow.holds Try.pinned (OpenSpec.upto domainSpacesSpec)

/-- 'keyholelaw13.DomainRanks', WHERE WHAT IT READS IS OF BULK AT MOST 1048576: true; the input reads as it did. -/
def domainRanksUptoRow : OpenClaim := { program := "ytpnhnldneecpnaa", sum := "56f29a82aec0907e2765726cbed70249889b8ae3b95026f3c766901200e6e964", func := "keyhole/keyholelaw13.DomainRanks", spec := "domainRanks", apart := false, narrowed := true }
def DomainRanksUptoSaid : Prop := domainRanksUptoRow.holds Try.pinned (OpenSpec.upto domainRanksSpec)

/-- 'keyholelaw13.DomainUnranks', WHERE WHAT IT READS IS OF BULK AT MOST 1048576: true; the input reads as it did. -/
def domainUnranksUptoRow : OpenClaim := { program := "ytpnhnldneecpnaa", sum := "56f29a82aec0907e2765726cbed70249889b8ae3b95026f3c766901200e6e964", func := "keyhole/keyholelaw13.DomainUnranks", spec := "domainUnranks", apart := false, narrowed := true }
def DomainUnranksUptoSaid : Prop := domainUnranksUptoRow.holds Try.pinned (OpenSpec.upto domainUnranksSpec)

/-- 'keyholelaw13.DomainOrder', WHERE WHAT IT READS IS OF BULK AT MOST 1048576: true; the input reads as it did. -/
def domainOrderUptoRow : OpenClaim := { program := "ytpnhnldneecpnaa", sum := "56f29a82aec0907e2765726cbed70249889b8ae3b95026f3c766901200e6e964", func := "keyhole/keyholelaw13.DomainOrder", spec := "domainOrder", apart := false, narrowed := true }
def DomainOrderUptoSaid : Prop := domainOrderUptoRow.holds Try.pinned (OpenSpec.upto domainOrderSpec)

/-- 'keyholelaw13.DomainKinds', WHERE WHAT IT READS IS OF BULK AT MOST 1048576: true; the input reads as it did. -/
def domainKindsUptoRow : OpenClaim := { program := "ytpnhnldneecpnaa", sum := "56f29a82aec0907e2765726cbed70249889b8ae3b95026f3c766901200e6e964", func := "keyhole/keyholelaw13.DomainKinds", spec := "domainKinds", apart := false, narrowed := true }
def DomainKindsUptoSaid : Prop := domainKindsUptoRow.holds Try.pinned (OpenSpec.upto domainKindsSpec)

/-- 'keyholelaw13.DomainNext', WHERE WHAT IT READS IS OF BULK AT MOST 1048576: true; the input reads as it did. -/
def domainNextUptoRow : OpenClaim := { program := "ytpnhnldneecpnaa", sum := "56f29a82aec0907e2765726cbed70249889b8ae3b95026f3c766901200e6e964", func := "keyhole/keyholelaw13.DomainNext", spec := "domainNext", apart := false, narrowed := true }
def DomainNextUptoSaid : Prop := domainNextUptoRow.holds Try.pinned (OpenSpec.upto domainNextSpec)

/-- 'keyholelaw13.DomainInputs', WHERE WHAT IT READS IS OF BULK AT MOST 1048576: true; the input reads as it did. -/
def domainInputsUptoRow : OpenClaim := { program := "ytpnhnldneecpnaa", sum := "56f29a82aec0907e2765726cbed70249889b8ae3b95026f3c766901200e6e964", func := "keyhole/keyholelaw13.DomainInputs", spec := "domainInputs", apart := false, narrowed := true }
def DomainInputsUptoSaid : Prop := domainInputsUptoRow.holds Try.pinned (OpenSpec.upto domainInputsSpec)

/-- 'keyholelaw13.DomainWithin', WHERE WHAT IT READS IS OF BULK AT MOST 1048576: true; the input reads as it did. -/
def domainWithinUptoRow : OpenClaim := { program := "ytpnhnldneecpnaa", sum := "56f29a82aec0907e2765726cbed70249889b8ae3b95026f3c766901200e6e964", func := "keyhole/keyholelaw13.DomainWithin", spec := "domainWithin", apart := false, narrowed := true }
def DomainWithinUptoSaid : Prop := domainWithinUptoRow.holds Try.pinned (OpenSpec.upto domainWithinSpec)

end Rows
end Go.Proofs.Ytpnhnldneecpnaa
