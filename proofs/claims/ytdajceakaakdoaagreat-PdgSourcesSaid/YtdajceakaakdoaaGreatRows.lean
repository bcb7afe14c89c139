/-
  NARROWER THAN 'FOR EVERY INPUT', by the rows' own cells (each row's printed sentence says how): PdgSources: loops · PdgBuilds: loops · PdgIndependent: loops · PdgTimes: loops · PdgInputs: loops · PdgReaches: loops.
  DERIVED. THE GIVEN ROWS OF THIS SEAT. 9 by the template 'for every input the law returns true; each argument reads behind the call as it read before'; 0 by the template 'total and deterministic' (their statements: YtdajceakaakdoaaGreatTotals.lean).
  GIVEN WITH THE SEED: the statements are not yours to turn. If you find one false, say at which input.
  Laid BY PROGRAM, IN A SANDBOX (cutbox-rows.mjs): the forced cells as the released guide's own fill.sh prints them over the translation 29eebd6bb0793bbf… (all of the seat's roots in one cut). By AI agents, Wed Nov 11 2026. No macro, syntax, notation, axiom, sorry.
-/
import Derived.Test.YtdajceakaakdoaaGreatChecked
import GoSem.Claim
import GoSem.ClaimJoined
import GoSem.ClaimMapViews
import Derived.JoinedTies
import Derived.KernelRfl
namespace Go.Proofs.YtdajceakaakdoaaGreat
/- THE CELL 'sum', in the pinned program and in every row, IS THE sha256 OF THE DUMP (.gsa) THAT YtdajceakaakdoaaGreatProg.lean LOADS. Nothing in Lean hashes anything: it is a label: what it is worth is what the hold of that sum in a sandbox is worth. -/
noncomputable def Tryz.pinned : Pinned := { name := "ytdajceakaakdoaagreat", sum := "29eebd6bb0793bbf8f03afffe590fc701ee7209c5f984bb2d653a4b684f90bea", checked := Tryz.checked }
namespace Rows
def none {H : Type} : Left H := { results := [], args := [] }

/-- 'keyholelaw23.PdgSources': WHATEVER THE INPUT: true; the input reads as it did. -/
def pdgSourcesSpec : ChangeSpec := { name := "pdgSources", fn := fun _ => fun
  | [d1, d2] => { results := [.lit (.bool true)], args := [d1, d2] }
  | _ => none }
def pdgSourcesRow : OpenClaim := { program := "ytdajceakaakdoaagreat", sum := "29eebd6bb0793bbf8f03afffe590fc701ee7209c5f984bb2d653a4b684f90bea", func := "keyhole/keyholelaw23.PdgSources", spec := "pdgSources", unfollowed := true, recurses := true, loops := true, plainKeys := false, apart := false }
def PdgSourcesSaid : Prop := pdgSourcesRow.holds Tryz.pinned (OpenSpec.ofChange pdgSourcesSpec)

/-- ITS FALSE NEIGHBOUR: 'it returns false'. Refute it at one input. -/
def pdgSourcesWrong : ChangeSpec := { name := "pdgSources", fn := fun _ => fun
  | [d1, d2] => { results := [.lit (.bool false)], args := [d1, d2] }
  | _ => none }
def PdgSourcesWrongFalsely : Prop := pdgSourcesRow.holds Tryz.pinned (OpenSpec.ofChange pdgSourcesWrong)

/-- 'keyholelaw23.PdgChecks': WHATEVER THE INPUT: true; the input reads as it did. -/
def pdgChecksSpec : ChangeSpec := { name := "pdgChecks", fn := fun _ => fun
  | [d] => { results := [.lit (.bool true)], args := [d] }
  | _ => none }
def pdgChecksRow : OpenClaim := { program := "ytdajceakaakdoaagreat", sum := "29eebd6bb0793bbf8f03afffe590fc701ee7209c5f984bb2d653a4b684f90bea", func := "keyhole/keyholelaw23.PdgChecks", spec := "pdgChecks", unfollowed := true, recurses := true, plainKeys := false, apart := false }
def PdgChecksSaid : Prop := pdgChecksRow.holds Tryz.pinned (OpenSpec.ofChange pdgChecksSpec)

/-- ITS FALSE NEIGHBOUR: 'it returns false'. Refute it at one input. -/
def pdgChecksWrong : ChangeSpec := { name := "pdgChecks", fn := fun _ => fun
  | [d] => { results := [.lit (.bool false)], args := [d] }
  | _ => none }
def PdgChecksWrongFalsely : Prop := pdgChecksRow.holds Tryz.pinned (OpenSpec.ofChange pdgChecksWrong)

/-- 'keyholelaw23.PdgBuilds': WHATEVER THE INPUT: true; the input reads as it did. -/
def pdgBuildsSpec : ChangeSpec := { name := "pdgBuilds", fn := fun _ => fun
  | [d] => { results := [.lit (.bool true)], args := [d] }
  | _ => none }
def pdgBuildsRow : OpenClaim := { program := "ytdajceakaakdoaagreat", sum := "29eebd6bb0793bbf8f03afffe590fc701ee7209c5f984bb2d653a4b684f90bea", func := "keyhole/keyholelaw23.PdgBuilds", spec := "pdgBuilds", unfollowed := true, recurses := true, loops := true, plainKeys := false, apart := false }
def PdgBuildsSaid : Prop := pdgBuildsRow.holds Tryz.pinned (OpenSpec.ofChange pdgBuildsSpec)

/-- ITS FALSE NEIGHBOUR: 'it returns false'. Refute it at one input. -/
def pdgBuildsWrong : ChangeSpec := { name := "pdgBuilds", fn := fun _ => fun
  | [d] => { results := [.lit (.bool false)], args := [d] }
  | _ => none }
def PdgBuildsWrongFalsely : Prop := pdgBuildsRow.holds Tryz.pinned (OpenSpec.ofChange pdgBuildsWrong)

/-- 'keyholelaw23.PdgIndependent': WHATEVER THE INPUT: true; the input reads as it did. -/
def pdgIndependentSpec : ChangeSpec := { name := "pdgIndependent", fn := fun _ => fun
  | [d1, d2, d3] => { results := [.lit (.bool true)], args := [d1, d2, d3] }
  | _ => none }
def pdgIndependentRow : OpenClaim := { program := "ytdajceakaakdoaagreat", sum := "29eebd6bb0793bbf8f03afffe590fc701ee7209c5f984bb2d653a4b684f90bea", func := "keyhole/keyholelaw23.PdgIndependent", spec := "pdgIndependent", unfollowed := true, recurses := true, loops := true, plainKeys := false, apart := false }
def PdgIndependentSaid : Prop := pdgIndependentRow.holds Tryz.pinned (OpenSpec.ofChange pdgIndependentSpec)

/-- ITS FALSE NEIGHBOUR: 'it returns false'. Refute it at one input. -/
def pdgIndependentWrong : ChangeSpec := { name := "pdgIndependent", fn := fun _ => fun
  | [d1, d2, d3] => { results := [.lit (.bool false)], args := [d1, d2, d3] }
  | _ => none }
def PdgIndependentWrongFalsely : Prop := pdgIndependentRow.holds Tryz.pinned (OpenSpec.ofChange pdgIndependentWrong)

/-- 'keyholelaw23.PdgTimes': WHATEVER THE INPUT: true; the input reads as it did. -/
def pdgTimesSpec : ChangeSpec := { name := "pdgTimes", fn := fun _ => fun
  | [d1, d2] => { results := [.lit (.bool true)], args := [d1, d2] }
  | _ => none }
def pdgTimesRow : OpenClaim := { program := "ytdajceakaakdoaagreat", sum := "29eebd6bb0793bbf8f03afffe590fc701ee7209c5f984bb2d653a4b684f90bea", func := "keyhole/keyholelaw23.PdgTimes", spec := "pdgTimes", unfollowed := true, recurses := true, loops := true, plainKeys := false, apart := false }
def PdgTimesSaid : Prop := pdgTimesRow.holds Tryz.pinned (OpenSpec.ofChange pdgTimesSpec)

/-- ITS FALSE NEIGHBOUR: 'it returns false'. Refute it at one input. -/
def pdgTimesWrong : ChangeSpec := { name := "pdgTimes", fn := fun _ => fun
  | [d1, d2] => { results := [.lit (.bool false)], args := [d1, d2] }
  | _ => none }
def PdgTimesWrongFalsely : Prop := pdgTimesRow.holds Tryz.pinned (OpenSpec.ofChange pdgTimesWrong)

/-- 'keyholelaw23.PdgWalks': WHATEVER THE INPUT: true; the input reads as it did. -/
def pdgWalksSpec : ChangeSpec := { name := "pdgWalks", fn := fun _ => fun
  | [d1, d2] => { results := [.lit (.bool true)], args := [d1, d2] }
  | _ => none }
def pdgWalksRow : OpenClaim := { program := "ytdajceakaakdoaagreat", sum := "29eebd6bb0793bbf8f03afffe590fc701ee7209c5f984bb2d653a4b684f90bea", func := "keyhole/keyholelaw23.PdgWalks", spec := "pdgWalks", unfollowed := true, recurses := true, plainKeys := false, apart := false }
def PdgWalksSaid : Prop := pdgWalksRow.holds Tryz.pinned (OpenSpec.ofChange pdgWalksSpec)

/-- ITS FALSE NEIGHBOUR: 'it returns false'. Refute it at one input. -/
def pdgWalksWrong : ChangeSpec := { name := "pdgWalks", fn := fun _ => fun
  | [d1, d2] => { results := [.lit (.bool false)], args := [d1, d2] }
  | _ => none }
def PdgWalksWrongFalsely : Prop := pdgWalksRow.holds Tryz.pinned (OpenSpec.ofChange pdgWalksWrong)

/-- 'keyholelaw23.PdgDual': WHATEVER THE INPUT: true; the input reads as it did. -/
def pdgDualSpec : ChangeSpec := { name := "pdgDual", fn := fun _ => fun
  | [d1, d2, d3] => { results := [.lit (.bool true)], args := [d1, d2, d3] }
  | _ => none }
def pdgDualRow : OpenClaim := { program := "ytdajceakaakdoaagreat", sum := "29eebd6bb0793bbf8f03afffe590fc701ee7209c5f984bb2d653a4b684f90bea", func := "keyhole/keyholelaw23.PdgDual", spec := "pdgDual", unfollowed := true, recurses := true, plainKeys := false, apart := false }
def PdgDualSaid : Prop := pdgDualRow.holds Tryz.pinned (OpenSpec.ofChange pdgDualSpec)

/-- ITS FALSE NEIGHBOUR: 'it returns false'. Refute it at one input. -/
def pdgDualWrong : ChangeSpec := { name := "pdgDual", fn := fun _ => fun
  | [d1, d2, d3] => { results := [.lit (.bool false)], args := [d1, d2, d3] }
  | _ => none }
def PdgDualWrongFalsely : Prop := pdgDualRow.holds Tryz.pinned (OpenSpec.ofChange pdgDualWrong)

/-- 'keyholelaw23.PdgInputs': WHATEVER THE INPUT: true; the input reads as it did. -/
def pdgInputsSpec : ChangeSpec := { name := "pdgInputs", fn := fun _ => fun
  | [d1, d2] => { results := [.lit (.bool true)], args := [d1, d2] }
  | _ => none }
def pdgInputsRow : OpenClaim := { program := "ytdajceakaakdoaagreat", sum := "29eebd6bb0793bbf8f03afffe590fc701ee7209c5f984bb2d653a4b684f90bea", func := "keyhole/keyholelaw23.PdgInputs", spec := "pdgInputs", unfollowed := true, recurses := true, loops := true, plainKeys := false, apart := false }
def PdgInputsSaid : Prop := pdgInputsRow.holds Tryz.pinned (OpenSpec.ofChange pdgInputsSpec)

/-- ITS FALSE NEIGHBOUR: 'it returns false'. Refute it at one input. -/
def pdgInputsWrong : ChangeSpec := { name := "pdgInputs", fn := fun _ => fun
  | [d1, d2] => { results := [.lit (.bool false)], args := [d1, d2] }
  | _ => none }
def PdgInputsWrongFalsely : Prop := pdgInputsRow.holds Tryz.pinned (OpenSpec.ofChange pdgInputsWrong)

/-- 'keyholelaw23.PdgReaches': WHATEVER THE INPUT: true; the input reads as it did. -/
def pdgReachesSpec : ChangeSpec := { name := "pdgReaches", fn := fun _ => fun
  | [d1, d2] => { results := [.lit (.bool true)], args := [d1, d2] }
  | _ => none }
def pdgReachesRow : OpenClaim := { program := "ytdajceakaakdoaagreat", sum := "29eebd6bb0793bbf8f03afffe590fc701ee7209c5f984bb2d653a4b684f90bea", func := "keyhole/keyholelaw23.PdgReaches", spec := "pdgReaches", unfollowed := true, recurses := true, loops := true, plainKeys := false, apart := false }
def PdgReachesSaid : Prop := pdgReachesRow.holds Tryz.pinned (OpenSpec.ofChange pdgReachesSpec)

/-- ITS FALSE NEIGHBOUR: 'it returns false'. Refute it at one input. -/
def pdgReachesWrong : ChangeSpec := { name := "pdgReaches", fn := fun _ => fun
  | [d1, d2] => { results := [.lit (.bool false)], args := [d1, d2] }
  | _ => none }
def PdgReachesWrongFalsely : Prop := pdgReachesRow.holds Tryz.pinned (OpenSpec.ofChange pdgReachesWrong)

/- THE SECOND FORM. 'bulk': how many values and letters a reading holds, each counted each time it is reached (what is shared counts as often as it is met; a slice's spare places count too). A statement '..UptoSaid' is the law's where the arguments, and the package variables that the reading takes, are together of bulk at most 1048576: NARROWER than '..Said'. Prove '..Said' where nothing that the law and all that it calls make is longer than what came in: it says more and counts as full. Else prove '..UptoSaid'. A law counts once. -/
mutual
def uptoBulk {H : Type} : DataW H → Nat
  | .lit (.string bytes) => bytes.length + 1
  | .lit _ => 1
  | .nil => 1
  | .ptr d => uptoBulk d + 1
  | .slice elems spare => uptoBulkAll elems + uptoBulkAll spare + 1
  | .agg parts => uptoBulkAll parts + 1
  | .iface _ d => uptoBulk d + 1
  | .map entries => uptoBulkEntries entries + 1
  | .held _ => 1
def uptoBulkAll {H : Type} : List (DataW H) → Nat
  | [] => 0
  | d :: r => uptoBulk d + uptoBulkAll r
def uptoBulkEntries {H : Type} : List (Lit × DataW H) → Nat
  | [] => 0
  | x :: r => uptoBulkEntry x + uptoBulkEntries r
def uptoBulkEntry {H : Type} : Lit × DataW H → Nat
  | (.string bytes, d) => bytes.length + uptoBulk d + 1
  | (_, d) => uptoBulk d + 1
 end
def uptoSmall : (H : Type) → List (DataW H) → Bool := fun _ ds => decide (uptoBulkAll ds ≤ 1048576)
def OpenSpec.upto (s : _root_.Go.ChangeSpec) : _root_.Go.OpenSpec := { _root_.Go.OpenSpec.ofChange s with cond := some uptoSmall }

/-- 'keyholelaw23.PdgSources', WHERE WHAT IT READS IS OF BULK AT MOST 1048576: true; the input reads as it did. -/
def pdgSourcesUptoRow : OpenClaim := { program := "ytdajceakaakdoaagreat", sum := "29eebd6bb0793bbf8f03afffe590fc701ee7209c5f984bb2d653a4b684f90bea", func := "keyhole/keyholelaw23.PdgSources", spec := "pdgSources", unfollowed := true, recurses := true, loops := true, plainKeys := false, apart := false, narrowed := true }
def PdgSourcesUptoSaid : Prop := pdgSourcesUptoRow.holds Tryz.pinned (OpenSpec.upto pdgSourcesSpec)

/-- 'keyholelaw23.PdgChecks', WHERE WHAT IT READS IS OF BULK AT MOST 1048576: true; the input reads as it did. -/
def pdgChecksUptoRow : OpenClaim := { program := "ytdajceakaakdoaagreat", sum := "29eebd6bb0793bbf8f03afffe590fc701ee7209c5f984bb2d653a4b684f90bea", func := "keyhole/keyholelaw23.PdgChecks", spec := "pdgChecks", unfollowed := true, recurses := true, plainKeys := false, apart := false, narrowed := true }
def PdgChecksUptoSaid : Prop := pdgChecksUptoRow.holds Tryz.pinned (OpenSpec.upto pdgChecksSpec)

/-- 'keyholelaw23.PdgBuilds', WHERE WHAT IT READS IS OF BULK AT MOST 1048576: true; the input reads as it did. -/
def pdgBuildsUptoRow : OpenClaim := { program := "ytdajceakaakdoaagreat", sum := "29eebd6bb0793bbf8f03afffe590fc701ee7209c5f984bb2d653a4b684f90bea", func := "keyhole/keyholelaw23.PdgBuilds", spec := "pdgBuilds", unfollowed := true, recurses := true, loops := true, plainKeys := false, apart := false, narrowed := true }
def PdgBuildsUptoSaid : Prop := pdgBuildsUptoRow.holds Tryz.pinned (OpenSpec.upto pdgBuildsSpec)

/-- 'keyholelaw23.PdgIndependent', WHERE WHAT IT READS IS OF BULK AT MOST 1048576: true; the input reads as it did. -/
def pdgIndependentUptoRow : OpenClaim := { program := "ytdajceakaakdoaagreat", sum := "29eebd6bb0793bbf8f03afffe590fc701ee7209c5f984bb2d653a4b684f90bea", func := "keyhole/keyholelaw23.PdgIndependent", spec := "pdgIndependent", unfollowed := true, recurses := true, loops := true, plainKeys := false, apart := false, narrowed := true }
def PdgIndependentUptoSaid : Prop := pdgIndependentUptoRow.holds Tryz.pinned (OpenSpec.upto pdgIndependentSpec)

/-- 'keyholelaw23.PdgTimes', WHERE WHAT IT READS IS OF BULK AT MOST 1048576: true; the input reads as it did. -/
def pdgTimesUptoRow : OpenClaim := { program := "ytdajceakaakdoaagreat", sum := "29eebd6bb0793bbf8f03afffe590fc701ee7209c5f984bb2d653a4b684f90bea", func := "keyhole/keyholelaw23.PdgTimes", spec := "pdgTimes", unfollowed := true, recurses := true, loops := true, plainKeys := false, apart := false, narrowed := true }
def PdgTimesUptoSaid : Prop := pdgTimesUptoRow.holds Tryz.pinned (OpenSpec.upto pdgTimesSpec)

/-- 'keyholelaw23.PdgWalks', WHERE WHAT IT READS IS OF BULK AT MOST 1048576: true; the input reads as it did. -/
def pdgWalksUptoRow : OpenClaim := { program := "ytdajceakaakdoaagreat", sum := "29eebd6bb0793bbf8f03afffe590fc701ee7209c5f984bb2d653a4b684f90bea", func := "keyhole/keyholelaw23.PdgWalks", spec := "pdgWalks", unfollowed := true, recurses := true, plainKeys := false, apart := false, narrowed := true }
def PdgWalksUptoSaid : Prop := pdgWalksUptoRow.holds Tryz.pinned (OpenSpec.upto pdgWalksSpec)

/-- 'keyholelaw23.PdgDual', WHERE WHAT IT READS IS OF BULK AT MOST 1048576: true; the input reads as it did. -/
def pdgDualUptoRow : OpenClaim := { program := "ytdajceakaakdoaagreat", sum := "29eebd6bb0793bbf8f03afffe590fc701ee7209c5f984bb2d653a4b684f90bea", func := "keyhole/keyholelaw23.PdgDual", spec := "pdgDual", unfollowed := true, recurses := true, plainKeys := false, apart := false, narrowed := true }
def PdgDualUptoSaid : Prop := pdgDualUptoRow.holds Tryz.pinned (OpenSpec.upto pdgDualSpec)

/-- 'keyholelaw23.PdgInputs', WHERE WHAT IT READS IS OF BULK AT MOST 1048576: true; the input reads as it did. -/
def pdgInputsUptoRow : OpenClaim := { program := "ytdajceakaakdoaagreat", sum := "29eebd6bb0793bbf8f03afffe590fc701ee7209c5f984bb2d653a4b684f90bea", func := "keyhole/keyholelaw23.PdgInputs", spec := "pdgInputs", unfollowed := true, recurses := true, loops := true, plainKeys := false, apart := false, narrowed := true }
def PdgInputsUptoSaid : Prop := pdgInputsUptoRow.holds Tryz.pinned (OpenSpec.upto pdgInputsSpec)

/-- 'keyholelaw23.PdgReaches', WHERE WHAT IT READS IS OF BULK AT MOST 1048576: true; the input reads as it did. -/
def pdgReachesUptoRow : OpenClaim := { program := "ytdajceakaakdoaagreat", sum := "29eebd6bb0793bbf8f03afffe590fc701ee7209c5f984bb2d653a4b684f90bea", func := "keyhole/keyholelaw23.PdgReaches", spec := "pdgReaches", unfollowed := true, recurses := true, loops := true, plainKeys := false, apart := false, narrowed := true }
def PdgReachesUptoSaid : Prop := pdgReachesUptoRow.holds Tryz.pinned (OpenSpec.upto pdgReachesSpec)

end Rows
end Go.Proofs.YtdajceakaakdoaaGreat
