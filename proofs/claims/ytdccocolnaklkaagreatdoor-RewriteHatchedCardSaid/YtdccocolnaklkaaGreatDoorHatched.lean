/- For every program and list of places: rewrite.Hatched, as 'RewriteHatched' asks it, answers as the law says, and the program with its hatches runs as the one without. It is true at every input and leaves its arguments as they were. The three tables of strconv are laid; nothing of the walk reads them beyond what strconv's own small numbers need. -/
import Derived.Test.YtdccocolnaklkaaGreatDoorK11
import Derived.Test.YtdccocolnaklkaaGreatDoorK18
import Derived.Test.YtdccocolnaklkaaGreatDoorRows
import Derived.Test.YtdccocolnaklkaaGreatDoorCards
import Derived.Test.YtdccocolnaklkaaGreatDoorTie
import Derived.ProofKit
import Derived.LaidMore
import Derived.SevenTiedAt
set_option linter.unusedSimpArgs false
set_option linter.unusedVariables false
set_option linter.unnecessarySimpa false
set_option maxRecDepth 100000
set_option maxHeartbeats 2000000
namespace Go.Proofs.YtdccocolnaklkaaGreatDoor
open Go Go.Hl Go.RowKit Go.ChangeShapes Go.Proofs.YtdccocolnaklkaaGreatDoor

theorem law_liftedX {H : Type} {enc : TypeId × Value → H} {C : Checked} {os : Os} {f : FuncId} {fn : Func} {s : ChangeSpec} {tb : TypeId} {X : World → Array Value → Prop} (hX : ∀ (w w' : World) (args : Array Value), w.heap = w'.heap → X w args → X w' args)
    (own : ownKnob C.prog.godebug = none) (started : os.Started) (noInit : C.prog.inits.idxOf? f = none) (hfn : C.prog.funcs[f]? = some fn)
    (witness : ∃ (w : World) (tape : Tape) (i : Input), w.os = os ∧ (w.forCall tape i).Shaped C.prog ∧ i.vars = [] ∧ Input.okWide C.prog (w.forCall tape i) .any w.heap.size f i ∧
      ((s.pre enc C.prog fn [] false (w.forCall tape i).memory i.args ∧ X (w.forCall tape i).memory i.args) ∧ sizedMet enc C.prog fn (OpenSpec.ofChange s) false (w.forCall tape i).memory i.args) ∧ ({} : Assume).holds C.prog (lone (Frame.enter C.prog f i.args .normal) [] (w.forCall tape i)))
    (hl : laidOutB C.prog = true) (hT : X6V C.prog) (hps : fn.params.toList.all (fun t => C.prog.readableRec t && decide (t < C.prog.types.size)) = true)
    (hvars : s.vars = []) (hres : fn.resultTypes = #[tb]) (htb : C.prog.underlying tb = some .bool)
    (hspec : ∀ ds : List (DataW H), ds.length = fn.params.toList.length → (s.fn H (ds ++ [])).results = [.lit (.bool true)] ∧ (s.fn H (ds ++ [])).args = ds ∧ (s.fn H (ds ++ [])).vars = [])
    (law : ∀ dss, X2q C.prog fn.params.toList dss → Con C.prog f true (X2b C.prog fn.params.toList dss) (Hl.lit (.bool true)) none 0) :
    ReturnsInHanded {} C os f .any (fun w args => (s.pre enc C.prog fn [] false w args ∧ X w args) ∧ sizedMet enc C.prog fn (OpenSpec.ofChange s) false w args) (s.post enc C.prog fn false true false false) := by
  refine returnsInHanded_of_change_and hX own started noInit hfn witness ?_
  intro W base args ds gs before hval hW _ hsz _ _
  have hW' := hW
  obtain ⟨p, q, hA, hV, rfl, hfz, hnd⟩ := hW
  rw [hvars] at hV
  obtain ⟨rfl, rfl⟩ : gs = [] ∧ q = [] := by
    cases gs with
    | nil => exact ⟨rfl, hV⟩
    | cons _ _ => exact hV.elim
  obtain ⟨e1, e2, dss, h3, h4, h5⟩ := X5O hT (fun t ht => by rw [List.all_eq_true] at hps; have := hps t ht; simp only [Bool.and_eq_true, decide_eq_true_eq] at this; exact this.2) hA (fun n hn => by have := List.all_eq_true.1 hsz n (X3x hn); simpa using this) fun j t v ht hv => hval j t v (by simpa using ht) (by simpa using hv)
  obtain ⟨_, hcon⟩ := law dss h3
  refine (hcon (inMem W) W args (fun _ h => h) (by rw [h4]; simp) fun j t u ht hu => h5 j t u ht (by simpa using hu)).mono ?_
  rintro e W' ⟨v, N, γ', rfl, hb, hN, hr, _⟩
  have hv : v = .bool true := X9.lit_eq rfl hr
  subst hv
  obtain ⟨s1, s2, s3⟩ := hspec ds e1
  refine ⟨_, rfl, ds, [], p ++ [], [], p, [], hW', ?_, ?_, ?_, hb.frame _, fun h => by cases h⟩
  · rw [s1, hres]
    exact ⟨[], [], ⟨1, by unfold DataW.trod; rw [htb]; rfl⟩, rfl, rfl⟩
  · rw [s2]
    rw [List.all_eq_true] at hps
    refine X1z hl hb (fun t ht => by have := hps t ht; simpa using this) (fun x hx => hA.lt x hx) hA
  · rw [s3, hvars]; rfl
theorem hatched_all : ∀ dss, X2q Tryz.prog Tryz.f4.params.toList dss → Con Tryz.prog 4 true (X2b Tryz.prog Tryz.f4.params.toList dss) (Hl.lit (.bool true)) none 0 := by
  intro dss h
  rw [Tryz.params4] at *
  match dss, h with
  | [ds0, ds1], ⟨⟨k0, h0⟩, ⟨k1, h1⟩, _⟩ =>
    obtain ⟨f, rfl⟩ := dec_F h0
    obtain ⟨a, rfl⟩ := dec_I h1
    have := X7O f a 0
    simp only [X2b, tvOf_agg aggF, Hl.lit]
    exact this
abbrev laid3 : List (String × DataW Unit) := [("math/bits.deBruijn32tab", Rows.laid_math_bits_deBruijn32tab), ("math/bits.deBruijn64tab", Rows.laid_math_bits_deBruijn64tab), ("internal/strconv.uint64pow10", Rows.laid_internal_strconv_uint64pow10)]
theorem door_met (os : Os) (args : Array Value) : laidMetH Tryz.prog laid3 ((World.doorLaid Tryz.prog 400 os).forCall (fun _ _ => 0) ⟨#[], args, []⟩).memory :=
  laidMetH_of_parts3 (fuel := 8) (laidMet_of_run' 8 (by kernel_rfl) (by kernel_rfl)) (by kernel_rfl) (by kernel_rfl)
set_option maxRecDepth 100000 in
theorem hatched_lifted (os : Os) (started : os.Started) (H : Type) (enc : TypeId × Value → H) :
    ReturnsInHanded {} Tryz.checked os 4 .any (fun w args => (Rows.rewriteHatchedSpec.pre enc Tryz.prog Tryz.f4 [] false w args ∧ laidMetH Tryz.prog laid3 w) ∧ sizedMet enc Tryz.prog Tryz.f4 (OpenSpec.ofChange Rows.rewriteHatchedSpec) false w args)
      (Rows.rewriteHatchedSpec.post enc Tryz.prog Tryz.f4 false true false false) :=
  law_liftedX (C := Tryz.checked) (X := fun w _ => laidMetH Tryz.prog laid3 w) (fun _ _ _ hh h => h.of_heap hh) own started (by kernel_rfl) Tryz.func4
    (ChangeSpec.witness_shaped (enc := enc) (C := Tryz.checked) (os := os) (X := fun w _ => laidMetH Tryz.prog laid3 w) false (World.doorLaid Tryz.prog 400 os) #[.agg #[.slice none 0 0, .slice none 0 0, .slice none 0 0], .slice none 0 0] 8 rfl (World.shaped_of_RefB (by kernel_rfl) (by kernel_rfl)) (by kernel_rfl) (by kernel_rfl) (by kernel_rfl) (door_met os _))
    laidOut tiled (by kernel_rfl) rfl (tb := 4) (by kernel_rfl) Tryz.underlying4
    (fun ds hl => by
      match ds, hl with
      | [d0, d1], _ => exact ⟨rfl, rfl, rfl⟩) hatched_all
theorem hatched_said : Rows.RewriteHatchedSaid :=
  OpenClaim.holds_of_wide 4 Tryz.f4 rfl rfl rfl rfl rfl rfl rfl ⟨rfl, rfl, rfl, rfl, rfl⟩ rfl rfl rfl rfl rfl (by kernel_rfl) Tryz.func4 (by kernel_rfl)
    (of_decide_eq_true (by kernel_rfl)) (by unfold Func.isWrapper; first | (rw [if_pos (by decide +kernel)]; kernel_rfl) | (rw [if_neg (by decide +kernel)]; exact ⟨rfl, rfl⟩))
    (fun os started H enc _ => hatched_lifted os started H enc)
theorem hatched_holds : Rows.RewriteHatchedCardSaid :=
  Claim7.holds_tied_plain_at .later [] [.data, .data, .data] true (true, "b92b9bb53670dcfffbcb1d8beb1de9506e9ccf3acc8c8b693e8ec807858d8546") false
    hatched_said (fun _ h => by cases h) (by kernel_rfl) (fun _ h => by cases h) rewriteHatched_row_tie rfl ⟨rfl, rfl⟩ (by kernel_rfl) rfl
    (fun f fn hf hfn => by
      obtain rfl : f = 4 := Option.some.inj ((show Tryz.prog.funcNamed "keyhole/keyholelaw46.RewriteHatched" = some 4 by kernel_rfl).symm.trans hf) |>.symm
      obtain rfl : fn = Tryz.f4 := (Option.some.inj (Tryz.func4.symm.trans hfn)).symm
      exact ⟨by kernel_rfl, fun j t ht => by
        rw [Tryz.params4] at ht
        have h3 : t = 26 ∨ t = 27 := by
          rcases j with _ | _ | j
          · left; simpa using ht.symm
          · right; simpa using ht.symm
          · simp at ht
        rcases h3 with rfl | rfl
        · exact (show Tryz.prog.wantsStandIn 26 = false by kernel_rfl)
        · exact (show Tryz.prog.wantsStandIn 27 = false by kernel_rfl)⟩)
    (by kernel_rfl)
#print axioms hatched_holds
end Go.Proofs.YtdccocolnaklkaaGreatDoor

