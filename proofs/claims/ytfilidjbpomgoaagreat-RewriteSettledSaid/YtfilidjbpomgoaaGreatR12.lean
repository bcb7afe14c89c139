/- Part 12: contracts of functions of the program and of the reference, and plain facts about what they compute; used by the proof of the claimed statement. Conditions: as each theorem states. -/
import Derived.Test.YtfilidjbpomgoaaGreatR11
import Derived.Test.YtfilidjbpomgoaaGreatR8
import Derived.Test.YtfilidjbpomgoaaGreatR4
set_option linter.unusedSimpArgs false
set_option linter.unusedVariables false
set_option linter.unnecessarySimpa false
set_option maxRecDepth 100000
set_option maxHeartbeats 2000000
namespace Go.Proofs.YtfilidjbpomgoaaGreat
open Go Go.Hl

attribute [simp] Ob.flat
theorem copied_con (f : Fl) (hv : f.vars.length ≤ 1000000) (hh : f.hats.length ≤ 1000000) (ht : ∀ h ∈ f.hats, h.term.nodes ≤ 1000000) (hb : nodesS f.body ≤ 1000000) (hbn : bndL f.body = true) (d : Nat) :
    Con Tryz.prog 28 false [aF f] (.v (aF f)) none d := by
  obtain ⟨vars, hats, body⟩ := f
  simp only at hv hh ht hb hbn
  have cv := cloneV_con vars hv
  have chh := cloneH_con hats hh
  have cb := steps_con body hb hbn
  refine con_of_HT Tryz.func28 rfl (by kernel_rfl) (Nat.le_of_ble_eq_true rfl) ?_
  simp only [Tryz.f28]
  simp only [aF, Fl.enc, List.map_cons, List.map_nil]
  refine HT_seq <| (HT_run (by simp [*]; rfl) ?_)
  refine HT_seq <| (HT_runc [⟨false, .v (lV vars), none⟩] (by simp [*]; first | exact ⟨rfl, Iff.rfl⟩ | exact ⟨rfl, trivial⟩ | rfl) ?_ ?_)
  · first | exact cv _ | exact trivial | simpa [*] using cv _
  refine HT_seq <| (HT_runc [⟨false, .v (.one (.own 10)), some (.row 68 6 (encHs hats))⟩] (by simp [*]; first | exact ⟨rfl, Iff.rfl⟩ | exact ⟨rfl, trivial⟩ | rfl) ?_ ?_)
  · first | exact chh 10 (by decide) | exact trivial | simpa [*] using chh 10 (by decide)
  refine HT_seq <| HT_seq <| (HT_run (by simp [*]; rfl) ?_)
  refine HT_block <| (HT_loopU [1, 2, 14] (fun (x : Nat) => [(15, .v (li x))]) (fun (x : Nat) => [(1, .box [.c (.sl 5 (encVs vars)), .own 10, .c (.sl 10 (encSs body))]), (2, .box [.c (.lit nilS), .c (.lit nilS), .c (.lit nilS)]), (10, .row 68 6 (encHs hats))]) (fun (x : Nat) => x ≤ hats.length) (fun (x : Nat) => hats.length - x) (0 : Nat) (Nat.zero_le _) ?_ ?_)
  · exact le_mk (fun n => n) [] rfl (by simp [*, upS, keepS]) (by simp [*, upS]) (by simp [upS])
  rintro k hk
  simp only [upS, keepS, insS]
  try simp only [keepS, List.contains_cons, List.contains_nil, Bool.or_false, Bool.or_true, Bool.true_or, Bool.false_or, Nat.reduceBEq, BEq.rfl, beq_self_eq_true, if_true, if_false, Bool.false_eq_true, ite_true, ite_false, ins, Nat.reduceLT]
  refine HT_seq <| (HT_run (by simp [*]; rfl) ?_)
  refine HT_seq <| (HT_cond rfl (fun h6 => HT_skip ?_) (fun h6 => ?_))
  · try simp only [Bool.or_eq_true, Bool.and_eq_true, Bool.or_eq_false_iff, Bool.and_eq_false_iff, Bool.not_eq_true', Bool.not_eq_false', decide_eq_true_eq, decide_eq_false_iff_not] at h6
    have hlt : k < hats.length := by omega
    obtain ⟨h, he, hd⟩ := at_lt hlt
    have hw1 := wrap1 hlt (by omega)
    have hk1 : k + 1 ≤ hats.length := hlt
    have hmem : h ∈ hats := List.mem_of_getElem? he
    have ct := term_con h.term (ht h hmem)
    have hse := set_self (l := encHs hats) (k := k) (x := h.enc) (by simp [he])
    obtain ⟨hn, hlo, hhi, ⟨ho, htn, hks⟩⟩ := h
    simp only [aT, Tm.enc, List.map_cons, List.map_nil] at ct
    simp only [Ht.enc, Tm.enc, List.cons_append, List.nil_append] at hse
    clear hlt h6 hmem hd
    refine HT_seq <| HT_block <| HT_seq <| (HT_run (by simp [*]; rfl) ?_)
    refine (HT_drunc [⟨false, .v (aT (.mk ho htn hks)), none⟩] (by kernel_rfl) (by kernel_rfl) (by rfl) (by simp [*]; first | exact ⟨rfl, Iff.rfl⟩ | exact ⟨rfl, trivial⟩ | rfl) ?_ ?_)
    · first | exact ct _ | exact trivial | simpa [*] using ct _
    refine (HT_run (by simp [*]; rfl) ?_)
    exact ⟨k + 1, hk1, by omega, le_mk (fun n => n) [] rfl (by simp [upS, keepS, *]) (by simp [*, upS]) (by simp [upS])⟩
  · try simp only [Bool.or_eq_true, Bool.and_eq_true, Bool.or_eq_false_iff, Bool.and_eq_false_iff, Bool.not_eq_true', Bool.not_eq_false', decide_eq_true_eq, decide_eq_false_iff_not] at h6
    refine (HT_exit ?_)
    refine HT_seq <| (HT_runc [⟨false, .v (lS body), none⟩] (by simp [*]; first | exact ⟨rfl, Iff.rfl⟩ | exact ⟨rfl, trivial⟩ | rfl) ?_ ?_)
    · first | exact cb _ | exact trivial | simpa [*] using cb _
    refine HT_seq <| (HT_run (by simp [*]; rfl) ?_)
    exact HT_ret ⟨.inr rfl, _, le_frz 10 rfl, ⟨⟨_, by simp; rfl, by simp [resR]⟩, by simp, fun h => by cases h⟩⟩
end Go.Proofs.YtfilidjbpomgoaaGreat

namespace Go.Proofs.YtfilidjbpomgoaaGreat
open Go Go.Hl

theorem time_con (l : List St) (hn : nodesS l ≤ 1000000000) (d : Nat) : Con Tryz.prog 93 true [lS l] (.v (li (spL l (0, 0)).1)) none d := by
  have cs := spanP_con l hn
  obtain ⟨⟨A, B⟩, hp⟩ : ∃ p, spL l (0, 0) = p := ⟨_, rfl⟩
  rw [hp] at cs ⊢
  refine con_of_HT Tryz.func93 rfl (by kernel_rfl) (Nat.le_of_ble_eq_true rfl) ?_
  simp only [Tryz.f93]
  refine HT_seq <| (HT_run (by simp [*]; rfl) ?_)
  refine HT_seq <| (HT_runc [⟨true, .tup [li A, li B], none⟩] (by simp [*]; first | exact ⟨rfl, Iff.rfl⟩ | exact ⟨rfl, trivial⟩ | rfl) ?_ ?_)
  · first | exact cs _ | exact trivial | simpa [*] using cs _
  refine HT_seq <| (HT_run (by simp [*]; rfl) ?_)
  exact (HT_retE (fun h => ⟨.inr rfl, h⟩) _ (by simp [*]; rfl) (by first | rfl | (simp [*]; done) | (simp only [resR]; (repeat' split) <;> first | rfl | (exfalso; omega) | simp_all)) (by simp))

def waitL (n : Int) : List St := if n = 0 then [] else [.mk 2 n 0 0 (.mk 0 0 []) [] [] []]

theorem wait_con (n : Int) (d : Nat) : Con Tryz.prog 94 false [li n] (.v (lS (waitL n))) none d := by
  have hroom : room 1 144 := room_of (by decide) (by decide)
  obtain ⟨res, hres⟩ : ∃ r, waitL n = r := ⟨_, rfl⟩
  rw [hres]
  unfold waitL at hres
  refine con_of_HT Tryz.func94 rfl (by kernel_rfl) (Nat.le_of_ble_eq_true rfl) ?_
  simp only [Tryz.f94]
  refine HT_seq <| (HT_run (by simp [*]; rfl) ?_)
  refine HT_seq <| HT_seq <| (HT_run (by simp [*]; rfl) ?_)
  refine (HT_cond rfl (fun h2 => ?_) (fun h2 => HT_skip ?_))
  · try simp only [Bool.or_eq_true, Bool.and_eq_true, Bool.or_eq_false_iff, Bool.and_eq_false_iff, Bool.not_eq_true', Bool.not_eq_false', decide_eq_true_eq, decide_eq_false_iff_not] at h2
    rw [if_pos h2] at hres
    subst hres
    refine HT_seq <| (HT_run (by simp [*]; rfl) ?_)
    exact HT_ret ⟨.inr rfl, _, le_one 2 10 rfl, ⟨⟨_, by simp; rfl, by simp [resR]⟩, by simp, fun h => by cases h⟩⟩
  · try simp only [Bool.or_eq_true, Bool.and_eq_true, Bool.or_eq_false_iff, Bool.and_eq_false_iff, Bool.not_eq_true', Bool.not_eq_false', decide_eq_true_eq, decide_eq_false_iff_not] at h2
    rw [if_neg h2] at hres
    subst hres
    refine HT_seq <| (HT_runF 2 [] [] (by simp [*]; rfl) trivial (le_agg 6 [.c (iC 2), .c (iC n), .c (iC 0), .c (iC 0), .c (iC 0), .c (iC 0), .c (.sl 3 []), .c (.sl 10 []), .c (.sl 10 []), .c (.sl 1 [])] rfl (by (repeat' (first | exact LWk.nil | apply LWk.cons | exact CWk.refl _ | exact CWk.nil _)))) (by simp [*]; rfl) trivial ?_)
    exact HT_ret ⟨.inr rfl, _, le_frz 7 rfl, ⟨⟨_, by simp; rfl, by simp [resR]⟩, by simp, fun h => by cases h⟩⟩

def posI (n : Int) : Int := if 0 < n then n else 0
def balS : St → St
  | .mk d c v n t a b bs =>
    if d = 3 then .mk d c v n t (a ++ waitL (posI ((spL b (0, 0)).1 - (spL a (0, 0)).1))) (b ++ waitL (posI ((spL a (0, 0)).1 - (spL b (0, 0)).1))) bs
    else if d = 4 ∧ t.op ≠ 0 then .mk d c v n (.mk 0 1 []) [.mk 3 0 0 0 t a (waitL (spL a (0, 0)).1) []] b bs
    else .mk d c v n t a b bs
theorem waitL_len (n : Int) : (waitL n).length ≤ 1 := by
  unfold waitL
  split <;> simp
theorem encS_app (a b : List St) : encSs (a ++ b) = encSs a ++ encSs b := by simp [encSs_map]

theorem balanced_con (sd sc sv sn so stn : Int) (sks : List Tm) (sa sb : List St) (sbs : List Int) (hna : nodesS sa ≤ 1000000) (hnb : nodesS sb ≤ 1000000) :
    ConG Tryz.prog 62 [(1000001, .row 56 10 (encSs sa)), (1000002, .row 56 10 (encSs sb))]
      [.agg [.c (iC sd), .c (iC sc), .c (iC sv), .c (iC sn), .c (iC so), .c (iC stn), .c (.sl 3 (encTs sks)), .own 1000001, .own 1000002, .c (.sl 1 (encIs sbs))]]
      (.v (aS (balS (.mk sd sc sv sn (.mk so stn sks) sa sb sbs)))) := by
  have hla := len_nodesS sa
  have hlb := len_nodesS sb
  have ta := time_con sa (by omega)
  have tb := time_con sb (by omega)
  have ia := spL_in sa (0, 0) inT0
  have ib := spL_in sb (0, 0) inT0
  obtain ⟨res, hres⟩ : ∃ r, balS (.mk sd sc sv sn (.mk so stn sks) sa sb sbs) = r := ⟨_, rfl⟩
  rw [hres]
  simp only [balS, Tm.op] at hres
  obtain ⟨A, hA⟩ : ∃ x, (spL sa (0, 0)).1 = x := ⟨_, rfl⟩
  obtain ⟨B, hB⟩ : ∃ x, (spL sb (0, 0)).1 = x := ⟨_, rfl⟩
  unfold inT at ia ib
  simp only [hA, hB] at ta tb hres ia ib
  have hw1 : IntKind.i64.wrap (B - A) = B - A := wrap_in (by omega) (by omega)
  have hw2 : IntKind.i64.wrap (A - B) = A - B := wrap_in (by omega) (by omega)
  clear ia ib hA hB
  refine con_g_of_HT Tryz.func62 rfl (by kernel_rfl) (Nat.le_of_ble_eq_true rfl) ?_
  simp only [Tryz.f62]
  refine HT_seq <| (HT_run (by simp [*]; rfl) ?_)
  refine HT_seq <| HT_block <| HT_seq <| (HT_run (by simp [*]; rfl) ?_)
  refine (HT_cond rfl (fun h2 => ?_) (fun h2 => ?_))
  · try simp only [Bool.or_eq_true, Bool.and_eq_true, Bool.or_eq_false_iff, Bool.and_eq_false_iff, Bool.not_eq_true', Bool.not_eq_false', decide_eq_true_eq, decide_eq_false_iff_not] at h2
    rw [if_pos h2] at hres
    have c1 := wait_con (posI (B - A))
    have c2 := wait_con (posI (A - B))
    have hl1 := waitL_len (posI (B - A))
    have hl2 := waitL_len (posI (A - B))
    simp only [posI] at c1 c2 hl1 hl2 hres
    obtain ⟨W1, hW1⟩ : ∃ x, waitL (if 0 < B - A then B - A else 0) = x := ⟨_, rfl⟩
    obtain ⟨W2, hW2⟩ : ∃ x, waitL (if 0 < A - B then A - B else 0) = x := ⟨_, rfl⟩
    rw [hW1] at c1 hl1 hres
    rw [hW2] at c2 hl2 hres
    subst hres
    have hr1 : room (sa.length + W1.length) 144 := room_of (by omega) (by omega)
    have hr2 : room (sb.length + W2.length) 144 := room_of (by omega) (by omega)
    clear hW1 hW2 hl1 hl2
    refine HT_seq <| (HT_drunc [⟨true, .v (li A), none⟩, ⟨true, .v (li B), none⟩] (by kernel_rfl) (by kernel_rfl) (by rfl) (by simp [*]; first | exact ⟨rfl, Iff.rfl⟩ | exact ⟨rfl, trivial⟩ | rfl) ?_ ?_)
    · first | exact ⟨ta _, tb _⟩ | exact trivial | (repeat' first | exact trivial | exact ta _ | exact tb _ | apply And.intro)
    refine HT_seq <| (HT_drunc [⟨false, .v (lS W1), none⟩] (by kernel_rfl) (by kernel_rfl) (by rfl) (by simp [*]; first | exact ⟨rfl, Iff.rfl⟩ | exact ⟨rfl, trivial⟩ | rfl) ?_ ?_)
    · first | exact c1 _ | exact trivial | simpa [*] using c1 _
    refine (HT_drunc [⟨false, .v (lS W2), none⟩] (by kernel_rfl) (by kernel_rfl) (by rfl) (by simp [*]; first | exact ⟨rfl, Iff.rfl⟩ | exact ⟨rfl, trivial⟩ | rfl) ?_ ?_)
    · first | exact c2 _ | exact trivial | simpa [*] using c2 _
    refine HT_seq <| (HT_run (by simp [*]; rfl) ?_)
    refine HT_le (le_frz 23 rfl) ?_
    refine HT_le (le_frz 32 rfl) ?_
    exact HT_ret ⟨.inr rfl, _, le_refl _, _, by simp; rfl, by simp [*, resR, encS_app]⟩
  · try simp only [Bool.or_eq_true, Bool.and_eq_true, Bool.or_eq_false_iff, Bool.and_eq_false_iff, Bool.not_eq_true', Bool.not_eq_false', decide_eq_true_eq, decide_eq_false_iff_not] at h2
    rw [if_neg h2] at hres
    refine HT_le (le_frz 1000001 rfl) ?_
    refine HT_le (le_frz 1000002 rfl) ?_
    rcases Classical.em (sd = 4) with h8 | h8
    · refine HT_seq <| (HT_run (by simp [*]; rfl) ?_)
      subst h8
      refine (HT_cond rfl (fun h9 => ?_) (fun h9 => HT_skip ?_))
      · try simp only [Bool.or_eq_true, Bool.and_eq_true, Bool.or_eq_false_iff, Bool.and_eq_false_iff, Bool.not_eq_true', Bool.not_eq_false', decide_eq_true_eq, decide_eq_false_iff_not] at h9
        have hso : so ≠ 0 := by simpa using h9
        rw [if_pos ⟨rfl, hso⟩] at hres
        subst hres
        have c1 := wait_con A
        have hr1 : room 1 144 := room_of (by decide) (by decide)
        refine HT_seq <| (HT_drunc [⟨true, .v (li A), none⟩, ⟨false, .v (lS (waitL A)), none⟩] (by kernel_rfl) (by kernel_rfl) (by rfl) (by simp [*]; first | exact ⟨rfl, Iff.rfl⟩ | exact ⟨rfl, trivial⟩ | rfl) ?_ ?_)
        · first | exact ⟨ta _, c1 _⟩ | exact trivial | (repeat' first | exact trivial | exact ta _ | exact c1 _ | apply And.intro)
        refine HT_le (le_box 5 [.c (iC 3), .c (iC 0), .c (iC 0), .c (iC 0), .c (iC so), .c (iC stn), .c (.sl 3 (encTs sks)), .c (.sl 10 (encSs sa)), .c (.sl 10 (encSs (waitL A))), .c (.sl 1 [])] rfl (by (repeat' (first | exact LWk.nil | apply LWk.cons | exact CWk.refl _ | exact CWk.nil _)))) ?_
        refine (HT_drunH [(5, 5), (56, 1), (57, 1)] (by kernel_rfl) (by kernel_rfl) (by rfl) (by simp [evsH, hokB, hintOf, *]; rfl) ?_)
        refine HT_le (le_frz 55 rfl) ?_
        refine HT_le (le_box 1 [.c (iC 4), .c (iC sc), .c (iC sv), .c (iC sn), .c (iC 0), .c (iC 1), .c (.sl 3 []), .c (.sl 10 (encSs [.mk 3 0 0 0 (.mk so stn sks) sa (waitL A) []])), .c (.sl 10 (encSs sb)), .c (.sl 1 (encIs sbs))] rfl (by (repeat' (first | exact LWk.nil | apply LWk.cons | exact CWk.refl _ | exact CWk.nil _)))) ?_
        refine HT_seq <| (HT_run (by simp [*]; rfl) ?_)
        exact HT_ret ⟨.inr rfl, _, le_refl _, _, by simp; rfl, by simp [resR]⟩
      · try simp only [Bool.or_eq_true, Bool.and_eq_true, Bool.or_eq_false_iff, Bool.and_eq_false_iff, Bool.not_eq_true', Bool.not_eq_false', decide_eq_true_eq, decide_eq_false_iff_not] at h9
        have hso : so = 0 := by simpa using h9
        rw [if_neg (fun h => h.2 hso)] at hres
        subst hres
        refine HT_seq <| (HT_run (by simp [*]; rfl) ?_)
        exact HT_ret ⟨.inr rfl, _, le_refl _, _, by simp; rfl, by simp [*, resR]⟩
    · refine HT_seq <| (HT_run (by simp [*]; rfl) ?_)
      refine (HT_cond rfl (fun h9 => ?_) (fun h9 => HT_skip ?_))
      · exact absurd h9 (by simp)
      · try simp only [Bool.or_eq_true, Bool.and_eq_true, Bool.or_eq_false_iff, Bool.and_eq_false_iff, Bool.not_eq_true', Bool.not_eq_false', decide_eq_true_eq, decide_eq_false_iff_not] at h9
        rw [if_neg (fun h => h8 h.1)] at hres
        subst hres
        refine HT_seq <| (HT_run (by simp [*]; rfl) ?_)
        exact HT_ret ⟨.inr rfl, _, le_refl _, _, by simp; rfl, by simp [resR]⟩
end Go.Proofs.YtfilidjbpomgoaaGreat

namespace Go.Proofs.YtfilidjbpomgoaaGreat
open Go Go.Hl

theorem con_arg {P : Program} {f : FuncId} {fresh : Bool} {r : RV} {ob : Option Ob} {d n : Nat} {args : List TV} {xs ys : List CV} (h : Con P f fresh (args.set n (.agg ys)) r ob d) (hx : args[n]? = some (.agg xs)) (hw : LWk xs ys) : Con P f fresh args r ob d := by
  refine ⟨h.1, fun F w vs hF hsz hargs => h.2 F w vs hF (by simpa using hsz) fun j t u ht hu => ?_⟩
  rw [List.getElem?_set] at ht
  split at ht
  · rename_i e
    subst e
    split at ht
    · cases ht
      obtain ⟨ws, rfl, hc⟩ := hargs n _ u hx hu
      exact ⟨ws, rfl, hw.rel hc⟩
    · cases ht
  · exact hargs j t u ht hu
theorem stL_len (i : Inp) : ∀ (l : List Vr) (a b c : Nat) (vals : List Int) (fits : Bool), (stL i l a b c vals fits).2 = 0 → (stL i l a b c vals fits).1.length = vals.length + l.length
  | [], a, b, c, vals, fits, h => by
    simp only [stL] at h ⊢
    split
    · split
      · simp
      · rename_i h1 h2; rw [if_pos h1, if_neg h2] at h; cases h
    · rename_i h1; rw [if_neg h1] at h; cases h
  | v :: l, a, b, c, vals, fits, h => by
    simp only [stL] at h ⊢
    split
    · rename_i h1
      rw [if_pos h1] at h
      rw [stL_len i l _ _ _ _ _ h]
      simp
      omega
    · rename_i h1; rw [if_neg h1] at h; cases h
def st0 : Sta := ⟨[], [], 0⟩
def playF (f : Fl) (i : Inp) : Sta × Int :=
  if codeC f = 0 then
    (if (stL i f.vars 0 0 0 [] true).2 = 0 then (stepsF f.vars (hvals (stL i f.vars 0 0 0 [] true).1 f.hats) f.body ⟨(stL i f.vars 0 0 0 [] true).1, [], 0⟩, 0)
    else (st0, (stL i f.vars 0 0 0 [] true).2))
  else (st0, codeC f)
theorem play_con (f : Fl) (i : Inp) (hv : f.vars.length ≤ 1000000) (hh : f.hats.length ≤ 1000000) (hn : nodesS f.body + nodesH f.hats ≤ 1000000) (hb : bndL f.body = true)
    (hwf : codeC f = 0 → wfL f.vars f.hats.length f.body = true ∧ oUL f.body ≤ 2000000 ∧ ∀ h ∈ f.hats, formB f.vars true h.term = true) (d : Nat) :
    Con Tryz.prog 44 false [aF f, aI i] (.tup [aSt (playF f i).1, li (playF f i).2]) none d := by
  have cc := checkR_con f hv hh (by omega) hb
  have cst := start_con f.vars i hv
  have hsl := stL_len i f.vars 0 0 0 [] true
  have crun := fun hvl h1 h2 => stepsRun_con f hvl hv h1 f.body (by omega) h2
  have chv := fun vs h1 h2 => hvals_con f vs h1 hh h2
  obtain ⟨⟨SV, SC⟩, hS⟩ : ∃ x, stL i f.vars 0 0 0 [] true = x := ⟨_, rfl⟩
  obtain ⟨res, hres⟩ : ∃ r, playF f i = r := ⟨_, rfl⟩
  rw [hres]
  unfold playF at hres
  obtain ⟨C, hC⟩ : ∃ x, codeC f = x := ⟨_, rfl⟩
  rw [hC] at cc hres hwf
  rw [hS] at cst hsl hres
  simp only at cst hsl hres
  obtain ⟨vars, hats, body⟩ := f
  obtain ⟨is, ip, ir⟩ := i
  simp only at hv hh hn hb hwf cst hsl crun chv hres
  clear hC hS
  refine con_of_HT Tryz.func44 rfl (by kernel_rfl) (Nat.le_of_ble_eq_true rfl) ?_
  simp only [Tryz.f44]
  simp only [aF, Fl.enc, aI, List.map_cons, List.map_nil] at cc cst ⊢
  refine HT_seq <| (HT_run (by simp [*]; rfl) ?_)
  refine HT_seq <| (HT_runc [⟨true, .v (li C), none⟩] (by simp [*]; first | exact ⟨rfl, Iff.rfl⟩ | exact ⟨rfl, trivial⟩ | rfl) ?_ ?_)
  · first | exact cc _ | exact trivial | simpa [*] using cc _
  refine HT_seq <| HT_seq <| (HT_run (by simp [*]; rfl) ?_)
  refine (HT_cond rfl (fun h3 => ?_) (fun h3 => HT_skip ?_))
  · try simp only [Bool.or_eq_true, Bool.and_eq_true, Bool.or_eq_false_iff, Bool.and_eq_false_iff, Bool.not_eq_true', Bool.not_eq_false', decide_eq_true_eq, decide_eq_false_iff_not] at h3
    rw [if_neg h3] at hres
    subst hres
    refine HT_seq <| (HT_run (by simp [*]; rfl) ?_)
    refine HT_le (le_box 4 [.c (.sl 1 []), .c (.sl 1 []), .c (iC 0)] rfl (by (repeat' (first | exact LWk.nil | apply LWk.cons | exact CWk.refl _ | exact CWk.nil _)))) ?_
    exact HT_ret ⟨.inr rfl, _, le_refl _, ⟨⟨_, by simp; rfl, by simp [resR, st0]⟩, by simp, fun h => by cases h⟩⟩
  · try simp only [Bool.or_eq_true, Bool.and_eq_true, Bool.or_eq_false_iff, Bool.and_eq_false_iff, Bool.not_eq_true', Bool.not_eq_false', decide_eq_true_eq, decide_eq_false_iff_not] at h3
    have hc0 : C = 0 := by simpa using h3
    rw [if_pos hc0] at hres
    obtain ⟨hw, ho, hf⟩ := hwf hc0
    clear hwf cc h3
    refine HT_seq <| (HT_runc [⟨false, .tup [lI SV, li SC], none⟩] (by simp [*]; first | exact ⟨rfl, Iff.rfl⟩ | exact ⟨rfl, trivial⟩ | rfl) ?_ ?_)
    · first | exact cst _ | exact trivial | simpa [*] using cst _
    refine HT_seq <| HT_seq <| (HT_run (by simp [*]; rfl) ?_)
    refine (HT_cond rfl (fun h8 => ?_) (fun h8 => HT_skip ?_))
    · try simp only [Bool.or_eq_true, Bool.and_eq_true, Bool.or_eq_false_iff, Bool.and_eq_false_iff, Bool.not_eq_true', Bool.not_eq_false', decide_eq_true_eq, decide_eq_false_iff_not] at h8
      rw [if_neg h8] at hres
      subst hres
      refine HT_seq <| (HT_run (by simp [*]; rfl) ?_)
      refine HT_le (le_box 4 [.c (.sl 1 []), .c (.sl 1 []), .c (iC 0)] rfl (by (repeat' (first | exact LWk.nil | apply LWk.cons | exact CWk.refl _ | exact CWk.nil _)))) ?_
      exact HT_ret ⟨.inr rfl, _, le_refl _, ⟨⟨_, by simp; rfl, by simp [resR, st0]⟩, by simp, fun h => by cases h⟩⟩
    · try simp only [Bool.or_eq_true, Bool.and_eq_true, Bool.or_eq_false_iff, Bool.and_eq_false_iff, Bool.not_eq_true', Bool.not_eq_false', decide_eq_true_eq, decide_eq_false_iff_not] at h8
      have hs0 : SC = 0 := by simpa using h8
      rw [if_pos hs0] at hres
      have hsl := hsl hs0
      simp only [List.length_nil, Nat.zero_add] at hsl
      have ch := chv SV hsl hf
      have hhl : (hvals SV hats).length = hats.length := by simp [hvals]
      obtain ⟨HV, hHV⟩ : ∃ x, hvals SV hats = x := ⟨_, rfl⟩
      rw [hHV] at ch hres hhl
      have cr := crun HV hhl hw ⟨SV, [], 0⟩ hsl (by simpa using ho)
      obtain ⟨⟨rv, ro, rt⟩, hR⟩ : ∃ x, stepsF vars HV body ⟨SV, [], 0⟩ = x := ⟨_, rfl⟩
      rw [hR] at cr hres
      subst hres
      simp only [aF, Fl.enc, aSt, List.map_cons, List.map_nil] at cr ch
      have cr' := fun d => con_arg (n := 3) (args := [.agg [.c (.sl 5 (encVs vars)), .c (.sl 6 (encHs hats)), .c (.sl 10 (encSs body))], lI HV, lS body, .agg [.c (.sl 1 (encIs SV)), .c (.lit nilS), .c (iC 0)]]) (cr d) rfl (by (repeat' (first | exact LWk.nil | apply LWk.cons | exact CWk.refl _ | exact CWk.nil _)))
      clear cr crun chv cst hsl hw ho hf h8 hhl hHV hR
      refine HT_seq <| (HT_drunc [⟨false, .v (lI HV), none⟩, ⟨false, .v (.agg [.c (.sl 1 (encIs rv)), .c (.sl 1 (encIs ro)), .c (iC rt)]), none⟩] (by kernel_rfl) (by kernel_rfl) (by rfl) (by simp [*]; first | exact ⟨rfl, Iff.rfl⟩ | exact ⟨rfl, trivial⟩ | rfl) ?_ ?_)
      · first | exact ⟨ch _, cr' _⟩ | exact trivial | (repeat' first | exact trivial | exact ch _ | exact cr' _ | apply And.intro)
      exact HT_ret ⟨.inr rfl, _, le_refl _, ⟨⟨_, by simp; rfl, by simp [resR]⟩, by simp, fun h => by cases h⟩⟩
structure Obs where
  outs : List Int
  time : Int
abbrev aO (o : Obs) : TV := .agg [.c (.sl 1 (encIs o.outs)), .c (iC o.time)]
def runF (f : Fl) (i : Inp) : Obs × Int := if (playF f i).2 = 0 then (⟨(playF f i).1.outs, (playF f i).1.time⟩, 0) else (⟨[], 0⟩, (playF f i).2)
theorem run_con (f : Fl) (i : Inp) (hv : f.vars.length ≤ 1000000) (hh : f.hats.length ≤ 1000000) (hn : nodesS f.body + nodesH f.hats ≤ 1000000) (hb : bndL f.body = true)
    (hwf : codeC f = 0 → wfL f.vars f.hats.length f.body = true ∧ oUL f.body ≤ 2000000 ∧ ∀ h ∈ f.hats, formB f.vars true h.term = true) (d : Nat) :
    Con Tryz.prog 16 false [aF f, aI i] (.tup [aO (runF f i).1, li (runF f i).2]) none d := by
  have cp := play_con f i hv hh hn hb hwf
  obtain ⟨res, hres⟩ : ∃ r, runF f i = r := ⟨_, rfl⟩
  rw [hres]
  unfold runF at hres
  obtain ⟨⟨⟨pv, po, pt⟩, pc⟩, hP⟩ : ∃ x, playF f i = x := ⟨_, rfl⟩
  rw [hP] at cp hres
  simp only at cp hres
  obtain ⟨vars, hats, body⟩ := f
  obtain ⟨is, ip, ir⟩ := i
  clear hP hwf
  refine con_of_HT Tryz.func16 rfl (by kernel_rfl) (Nat.le_of_ble_eq_true rfl) ?_
  simp only [Tryz.f16]
  simp only [aF, Fl.enc, aI, aSt, List.map_cons, List.map_nil] at cp ⊢
  refine HT_seq <| (HT_run (by simp [*]; rfl) ?_)
  refine HT_seq <| (HT_runc [⟨false, .tup [.agg [.c (.sl 1 (encIs pv)), .c (.sl 1 (encIs po)), .c (iC pt)], li pc], none⟩] (by simp [*]; first | exact ⟨rfl, Iff.rfl⟩ | exact ⟨rfl, trivial⟩ | rfl) ?_ ?_)
  · first | exact cp _ | exact trivial | simpa [*] using cp _
  refine HT_seq <| HT_seq <| (HT_run (by simp [*]; rfl) ?_)
  refine (HT_cond rfl (fun h3 => ?_) (fun h3 => HT_skip ?_))
  · try simp only [Bool.or_eq_true, Bool.and_eq_true, Bool.or_eq_false_iff, Bool.and_eq_false_iff, Bool.not_eq_true', Bool.not_eq_false', decide_eq_true_eq, decide_eq_false_iff_not] at h3
    rw [if_neg h3] at hres
    subst hres
    refine HT_seq <| (HT_run (by simp [*]; rfl) ?_)
    refine HT_le (le_box 4 [.c (.sl 1 []), .c (iC 0)] rfl (by (repeat' (first | exact LWk.nil | apply LWk.cons | exact CWk.refl _ | exact CWk.nil _)))) ?_
    exact HT_ret ⟨.inr rfl, _, le_refl _, ⟨⟨_, by simp; rfl, by simp [resR]⟩, by simp, fun h => by cases h⟩⟩
  · try simp only [Bool.or_eq_true, Bool.and_eq_true, Bool.or_eq_false_iff, Bool.and_eq_false_iff, Bool.not_eq_true', Bool.not_eq_false', decide_eq_true_eq, decide_eq_false_iff_not] at h3
    rw [if_pos (by simpa using h3)] at hres
    subst hres
    refine HT_seq <| (HT_run (by simp [*]; rfl) ?_)
    exact HT_ret ⟨.inr rfl, _, le_refl _, ⟨⟨_, by simp; rfl, by simp [resR]⟩, by simp, fun h => by cases h⟩⟩
end Go.Proofs.YtfilidjbpomgoaaGreat

namespace Go.Proofs.YtfilidjbpomgoaaGreat
open Go Go.Hl

/-! ## a valid program can be run -/
theorem termC_form {vars : List Vr} {inp : Bool} {t : Tm} (h : termC vars inp t = 0) : formB vars inp t = true := by
  unfold termC at h
  split at h
  · assumption
  · cases h
theorem hcs_form {vars : List Vr} : ∀ (l seen : List Ht), hcs vars seen l = 0 → ∀ h ∈ l, formB vars true h.term = true
  | [], _, _, h, hm => by cases hm
  | x :: l, seen, h0, h, hm => by
    simp only [hcs] at h0
    split at h0
    · rename_i hx
      rcases List.mem_cons.1 hm with rfl | h1
      · unfold hcode at hx
        split at hx
        · cases hx
        · split at hx
          · cases hx
          · split at hx
            · cases hx
            · exact termC_form hx
      · exact hcs_form l _ h0 h h1
    · rename_i hx
      exact absurd h0 hx
theorem ssC_split {vars : List Vr} {nh : Nat} {d c v n : Int} {t : Tm} {a b : List St} {bs : List Int} {l : List St} {top : Bool} (h : ssC vars nh (.mk d c v n t a b bs :: l) top = 0) :
    shB vars nh d v n t a.length b.length bs (top && l.isEmpty) = true ∧ numB d c n bs = true ∧ termC vars false t = 0 ∧ ssC vars nh a false = 0 ∧ ssC vars nh b false = 0 ∧ ssC vars nh l top = 0 := by
  simp only [ssC] at h
  split at h
  · rename_i h0
    split at h
    · rename_i ha
      split at h
      · rename_i hb
        unfold stC at h0
        split at h0
        · cases h0
        · rename_i hs
          split at h0
          · cases h0
          · rename_i hn
            exact ⟨by simpa using hs, by simpa using hn, h0, ha, hb, h⟩
      · rename_i hb; exact absurd h hb
    · rename_i ha; exact absurd h ha
  · rename_i h0; exact absurd h h0
theorem shB_local {vars : List Vr} {nh : Nat} {d v n : Int} {t : Tm} {la lb_ : Nat} {bs : List Int} {last : Bool} (h : shB vars nh d v n t la lb_ bs last = true) (hd : d = 0 ∨ d = 5) : localB vars v = true ∧ (d = 5 → 0 ≤ n ∧ n < nh) := by
  unfold shB at h
  rcases hd with rfl | rfl
  · simp only [if_true, Bool.and_eq_true] at h
    exact ⟨h.1.1.2, fun h => by cases h⟩
  · simp only [show ¬ (5 : Int) = 0 by decide, show ¬ (5 : Int) = 1 by decide, show ¬ (5 : Int) = 2 by decide, show ¬ (5 : Int) = 3 by decide, show ¬ (5 : Int) = 4 by decide, if_true, if_false, Bool.and_eq_true, decide_eq_true_eq] at h
    exact ⟨h.1.1.1.1.2, fun _ => ⟨h.1.1.1.2, h.1.1.2⟩⟩
theorem numB_in {d c n : Int} {bs : List Int} (h : numB d c n bs = true) : 0 ≤ c ∧ (d = 4 → 0 ≤ n ∧ n ≤ 4096) := by
  unfold numB at h
  simp only [Bool.and_eq_true, Bool.not_eq_true', Bool.or_eq_false_iff, Bool.and_eq_false_iff, decide_eq_false_iff_not] at h
  refine ⟨by omega, fun h4 => ?_⟩
  rcases h.1.2 with h1 | h1
  · exact absurd h4 h1
  · omega
theorem ssC_wf {vars : List Vr} {nh : Nat} : ∀ (l : List St) (top : Bool), ssC vars nh l top = 0 → bndL l = true → wfL vars nh l = true
  | [], _, _, _ => by simp [wfL]
  | .mk d c v n t a b bs :: l, top, h, hb => by
    obtain ⟨hs, hn, ht, ha, hb', hl⟩ := ssC_split h
    simp only [bndL, bndS, Bool.and_eq_true, decide_eq_true_eq] at hb
    have ia := ssC_wf a false ha hb.1.2.1
    have ib := ssC_wf b false hb' hb.1.2.2
    have il := ssC_wf l top hl hb.2
    have hn4 := (numB_in hn).2
    simp only [wfL, wfS, ia, ib, il, termC_form ht, Bool.and_true, Bool.true_and, Bool.and_eq_true, Bool.or_eq_true, decide_eq_true_eq]
    refine ⟨?_, ?_, ?_, hb.1.1⟩
    · by_cases hd : d = 0 ∨ d = 5
      · exact .inr (shB_local hs hd).1
      · exact .inl ⟨fun h => hd (.inl h), fun h => hd (.inr h)⟩
    · by_cases hd : d = 5
      · exact .inr ((shB_local hs (.inr hd)).2 hd)
      · exact .inl hd
    · by_cases hd : d = 4
      · exact .inr (hn4 hd).2
      · exact .inl hd
/-- the outputs of valid steps, cut at a number -/
theorem oU_cut : ∀ (l : List St) (p : B3), okL l = true → 0 ≤ p.o → mn (bdL CR l p).o 9 = mn (p.o + (oUL l : Int)) 9
  | [], p, _, _ => by simp [bdL, oUL]
  | .mk d c v n t a b bs :: l, p, h, hp => by
    simp only [okL, okS, Bool.and_eq_true, Bool.or_eq_true, decide_eq_true_eq] at h
    have ha := oU_cut a ⟨0, 0, 0⟩ h.1.2.2.1 (Int.le_refl 0)
    have hb := oU_cut b ⟨0, 0, 0⟩ h.1.2.2.2 (Int.le_refl 0)
    have na := in3_nn (bdL_in nnCR a _ h.1.2.2.1 (in3_0 nnCR))
    have nb := in3_nn (bdL_in nnCR b _ h.1.2.2.2 (in3_0 nnCR))
    simp only [bdL, bdS, oUL, oUS]
    generalize bdL CR a ⟨0, 0, 0⟩ = A at *
    generalize bdL CR b ⟨0, 0, 0⟩ = B at *
    simp only [Int.zero_add] at ha hb
    have key : 0 ≤ (bd1 d c n A B).o ∧ mn (bd1 d c n A B).o 9 = mn (((if d = 4 then n.toNat * oUL a else if d = 3 then max (oUL a) (oUL b) else if d = 1 then 1 else 0 : Nat)) : Int) 9 := by
      unfold nn3 at na nb
      unfold bd1
      by_cases h4 : d = 4
      · have hn : 0 ≤ n := by omega
        rw [if_pos h4, if_pos h4]
        refine ⟨Int.mul_nonneg hn na.2.1, ?_⟩
        have e := mul_cut (C := 9) hn na.2.1 (Int.natCast_nonneg (oUL a)) (Int.le_refl 0) (Int.le_refl 0) ha
        simp only [Int.zero_add] at e
        rw [e, Int.natCast_mul, Int.toNat_of_nonneg hn]
      · rw [if_neg h4, if_neg h4]
        by_cases h3 : d = 3
        · rw [if_pos h3, if_pos h3]
          simp only [mx, mn] at ha hb ⊢
          have e : ((max (oUL a) (oUL b) : Nat) : Int) = max (oUL a : Int) (oUL b : Int) := by omega
          rw [e]
          refine ⟨by split <;> omega, ?_⟩
          (repeat' split at ha) <;> (repeat' split at hb) <;> (repeat' split) <;> omega
        · rw [if_neg h3, if_neg h3]
          split <;> exact ⟨by simp only; omega, rfl⟩
    obtain ⟨k0, k1⟩ := key
    generalize (bd1 d c n A B) = X at *
    generalize (if d = 4 then n.toNat * oUL a else if d = 3 then max (oUL a) (oUL b) else if d = 1 then 1 else 0 : Nat) = K at *
    have e : 0 ≤ (add3 CR p X).o ∧ mn (add3 CR p X).o 9 = mn (p.o + K) 9 := by
      simp only [add3, CR]
      simp only [mn] at k1 ⊢
      refine ⟨by split <;> omega, ?_⟩
      (repeat' split at k1) <;> (repeat' split) <;> omega
    have il := oU_cut l (add3 CR p X) h.2 e.1
    rw [il]
    have e2 := e.2
    generalize (add3 CR p X).o = Y at *
    simp only [mn] at e2 ⊢
    rw [Int.natCast_add]
    (repeat' split at e2) <;> (repeat' split) <;> omega
theorem code_split {f : Fl} (h : codeC f = 0) : sizesB f = true ∧ varsC f.vars = 0 ∧ hcs f.vars [] f.hats = 0 ∧ ssC f.vars f.hats.length f.body true = 0 ∧ overL f.body = false := by
  unfold codeC at h
  split at h
  · cases h
  · rename_i hs
    split at h
    · rename_i hv
      split at h
      · rename_i hh
        split at h
        · rename_i hb
          split at h
          · cases h
          · rename_i ho
            exact ⟨by simpa using hs, hv, hh, hb, by simpa using ho⟩
        · rename_i hb; exact absurd h hb
      · rename_i hh; exact absurd h hh
    · rename_i hv; exact absurd h hv
theorem over_split {l : List St} (h : overL l = false) : (bdL CR l ⟨0, 0, 0⟩).s ≤ 4096 ∧ (bdL CR l ⟨0, 0, 0⟩).o ≤ 8 ∧ (bdL CR l ⟨0, 0, 0⟩).t ≤ 67108864 := by
  unfold overL at h
  simp only [Bool.or_eq_false_iff, decide_eq_false_iff_not, Int.not_lt] at h
  exact ⟨h.1, h.2.1, h.2.2⟩
theorem code_wf {f : Fl} (hb : bndL f.body = true) (h : codeC f = 0) : wfL f.vars f.hats.length f.body = true ∧ oUL f.body ≤ 2000000 ∧ ∀ h ∈ f.hats, formB f.vars true h.term = true := by
  obtain ⟨_, _, hh, hs, ho⟩ := code_split h
  have h8 := (over_split ho).2.1
  have hc := oU_cut f.body ⟨0, 0, 0⟩ (ssC_ok _ _ hs) (Int.le_refl 0)
  refine ⟨ssC_wf _ _ hs hb, ?_, hcs_form _ _ hh⟩
  simp only [Int.zero_add, mn] at hc
  (repeat' split at hc) <;> omega
theorem runG_con (f : Fl) (i : Inp) (hv : f.vars.length ≤ 1000000) (hh : f.hats.length ≤ 1000000) (hn : nodesS f.body + nodesH f.hats ≤ 1000000) (hb : bndL f.body = true) (d : Nat) :
    Con Tryz.prog 16 false [aF f, aI i] (.tup [aO (runF f i).1, li (runF f i).2]) none d :=
  run_con f i hv hh hn hb (code_wf hb) d
end Go.Proofs.YtfilidjbpomgoaaGreat

namespace Go.Proofs.YtfilidjbpomgoaaGreat
open Go Go.Hl

/-! ## the vectors of inputs -/
def ofK (vars : List Vr) (kind : Int) : List Vr := vars.filter fun v => decide (v.kind = kind)
def pdL : List Vr → Int
  | [] => 1
  | v :: l => sz v * pdL l
def uL : List Vr → Int → List Int
  | [], _ => []
  | v :: l, r => (v.low + r / pdL l % sz v) :: uL l r
theorem pdL_pos : ∀ l : List Vr, goodV' l → 1 ≤ pdL l
  | [], _ => by simp [pdL]
  | v :: l, h => by
    have h1 := pdL_pos l fun w hw => h w (List.mem_cons_of_mem _ hw)
    have h2 := (sz_in h (List.mem_cons_self : v ∈ v :: l)).1
    simp only [pdL]
    have := Int.mul_le_mul_of_nonneg_right h2 (show 0 ≤ pdL l by omega)
    omega
theorem prV_pd : ∀ (l : List Vr) (n : Int), goodV' l → 1 ≤ n → prV l n ≤ 4096 → prV l n = n * pdL l
  | [], n, _, _, _ => by simp [prV, pdL]
  | v :: l, n, h, hn, h1 => by
    simp only [prV] at h1 ⊢
    have h2 := (sz_in h (List.mem_cons_self : v ∈ v :: l)).1
    split at h1
    · omega
    · rename_i hc
      rw [if_neg hc, prV_pd l _ (fun w hw => h w (List.mem_cons_of_mem _ hw)) (by
        have := Int.mul_le_mul_of_nonneg_right hn (show 0 ≤ sz v by omega)
        omega) h1, pdL, Int.mul_assoc]
theorem ofK_good {vars : List Vr} (h : goodV' vars) (kind : Int) : goodV' (ofK vars kind) := fun v hv => h v (List.mem_filter.1 hv).1
theorem ofK_len (vars : List Vr) (kind : Int) : (ofK vars kind).length ≤ vars.length := List.length_filter_le _ _
theorem spc_pd {vars : List Vr} (h : goodV' vars) {kind : Int} (hs : spc vars kind ≤ 4096) : spc vars kind = pdL (ofK vars kind) := by
  have := prV_pd (ofK vars kind) 1 (ofK_good h kind) (Int.le_refl 1) hs
  rw [Int.one_mul] at this
  exact this
theorem uL_len : ∀ (l : List Vr) (r : Int), (uL l r).length = l.length
  | [], r => rfl
  | v :: l, r => by simp [uL, uL_len l r]

theorem of13_con (vars : List Vr) (kind : Int) (hl : vars.length ≤ 1000000) (d : Nat) : Con Tryz.prog 77 false [lV vars, li kind] (.v (lV (ofK vars kind))) none d := by
  obtain ⟨S, hS⟩ : ∃ S, ofK vars kind = S := ⟨_, rfl⟩
  rw [hS]
  unfold ofK at hS
  refine con_of_HT Tryz.func77 rfl (by kernel_rfl) (Nat.le_of_ble_eq_true rfl) ?_
  simp only [Tryz.f77]
  refine HT_seq <| (HT_run (by simp [*]; rfl) ?_)
  refine HT_seq <| (HT_run (by simp [*]; rfl) ?_)
  refine HT_seq <| HT_seq <| (HT_run (by simp [*]; rfl) ?_)
  refine HT_block <| (HT_loopU [0, 1] (fun (x : Nat × List Vr) => [(5, .v (.one (.own 1005))), (6, .v (li x.1))]) (fun (x : Nat × List Vr) => [(1005, .row 65 5 (encVs x.2))]) (fun (x : Nat × List Vr) => x.1 ≤ vars.length ∧ x.2 = (vars.take x.1).filter fun v => decide (v.kind = kind)) (fun (x : Nat × List Vr) => vars.length - x.1) (0, []) ⟨Nat.zero_le _, by simp⟩ ?_ ?_)
  · exact le_mk (fun n => if n = 1005 then 7 else n) [] rfl (by simp [*, upS, keepS]) (by simp [*, upS]) (by simp [upS])
  rintro ⟨k, acc⟩ ⟨hk, hJ⟩
  simp only [upS, keepS, insS]
  try simp only [keepS, List.contains_cons, List.contains_nil, Bool.or_false, Bool.or_true, Bool.true_or, Bool.false_or, Nat.reduceBEq, BEq.rfl, beq_self_eq_true, if_true, if_false, Bool.false_eq_true, ite_true, ite_false, ins, Nat.reduceLT]
  simp only at hk hJ
  replace hJ := hJ.symm
  refine HT_seq <| HT_seq <| (HT_run (by simp [*]; rfl) ?_)
  refine (HT_cond rfl (fun h5 => HT_skip ?_) (fun h5 => ?_))
  · try simp only [Bool.or_eq_true, Bool.and_eq_true, Bool.or_eq_false_iff, Bool.and_eq_false_iff, Bool.not_eq_true', Bool.not_eq_false', decide_eq_true_eq, decide_eq_false_iff_not] at h5
    have hlt : k < vars.length := by omega
    obtain ⟨v, he, hd⟩ := at_lt hlt
    have hw1 := wrap1 hlt (by omega)
    have hk1 : k + 1 ≤ vars.length := hlt
    have ht := take_snoc he
    generalize hT : (vars.take k).filter (fun v => decide (v.kind = kind)) = T at hJ
    have hal : acc.length ≤ k := by
      rw [← hJ, ← hT]
      exact Nat.le_trans (List.length_filter_le _ _) (by rw [List.length_take]; omega)
    have hroom : room (acc.length + 1) 48 := room_of (by omega) (by omega)
    clear hlt h5 hS
    refine HT_seq <| HT_block <| HT_seq <| (HT_run (by simp [*]; rfl) ?_)
    refine (HT_cond rfl (fun h7 => ?_) (fun h7 => HT_skip ?_))
    · try simp only [Bool.or_eq_true, Bool.and_eq_true, Bool.or_eq_false_iff, Bool.and_eq_false_iff, Bool.not_eq_true', Bool.not_eq_false', decide_eq_true_eq, decide_eq_false_iff_not] at h7
      have hf : (vars.take (k + 1)).filter (fun v => decide (v.kind = kind)) = acc ++ [v] := by rw [ht, List.filter_append, hT, hJ, List.filter_cons_of_pos (by simpa using h7)]; simp
      refine (HT_run (by simp [*]; rfl) ?_)
      refine (HT_run (by simp [*]; rfl) ?_)
      exact ⟨(k + 1, acc ++ [v]), ⟨hk1, hf.symm⟩, by simp only; omega, le_mk (fun n => if n = 1005 then 27 else n) [] rfl (by simp [upS, keepS, *]) (by simp [*, upS]) (by simp [upS])⟩
    · try simp only [Bool.or_eq_true, Bool.and_eq_true, Bool.or_eq_false_iff, Bool.and_eq_false_iff, Bool.not_eq_true', Bool.not_eq_false', decide_eq_true_eq, decide_eq_false_iff_not] at h7
      have hf : (vars.take (k + 1)).filter (fun v => decide (v.kind = kind)) = acc := by rw [ht, List.filter_append, hT, hJ, List.filter_cons_of_neg (by simpa using h7)]; simp
      refine (HT_run (by simp [*]; rfl) ?_)
      exact ⟨(k + 1, acc), ⟨hk1, hf.symm⟩, by simp only; omega, le_mk (fun n => n) [] rfl (by simp [upS, keepS, *]) (by simp [*, upS]) (by simp [upS])⟩
  · try simp only [Bool.or_eq_true, Bool.and_eq_true, Bool.or_eq_false_iff, Bool.and_eq_false_iff, Bool.not_eq_true', Bool.not_eq_false', decide_eq_true_eq, decide_eq_false_iff_not] at h5
    have hkl : k = vars.length := by omega
    rw [hkl, List.take_length, hS] at hJ
    subst hJ
    clear hS
    refine (HT_exit ?_)
    refine HT_seq <| (HT_run (by simp [*]; rfl) ?_)
    exact HT_ret ⟨.inr rfl, _, le_frz 1005 rfl, ⟨⟨_, by simp; rfl, by simp [resR]⟩, by simp, fun h => by cases h⟩⟩
theorem space13_con (vars : List Vr) (kind : Int) (hkd : 1 ≤ kind ∧ kind ≤ 3) (hv : goodV' vars) (hl : vars.length ≤ 1000000) (hs : spc vars kind ≤ 4096) (d : Nat) :
    Con Tryz.prog 42 true [lV vars, li kind] (.tup [li (spc vars kind), li 0]) none d := by
  have co := of13_con vars kind hl
  have hg := ofK_good hv kind
  have hn := ofK_len vars kind
  unfold spc at *
  change prV (ofK vars kind) 1 ≤ 4096 at hs
  change Con _ _ _ _ (.tup [li (prV (ofK vars kind) 1), li 0]) _ _
  obtain ⟨res, hres⟩ : ∃ r, prV (ofK vars kind) 1 = r := ⟨_, rfl⟩
  rw [hres] at hs ⊢
  obtain ⟨S, hS⟩ : ∃ S, ofK vars kind = S := ⟨_, rfl⟩
  rw [hS] at co hg hn hres
  clear hS hv
  refine con_of_HT Tryz.func42 rfl (by kernel_rfl) (Nat.le_of_ble_eq_true rfl) ?_
  simp only [Tryz.f42]
  refine HT_seq <| (HT_run (by simp [*]; rfl) ?_)
  refine HT_seq <| HT_seq <| (HT_run (by simp [*]; rfl) ?_)
  refine (HT_cond rfl (fun h2 => ?_) (fun h2 => HT_skip ?_))
  · exfalso
    simp at h2
    omega
  · try simp only [Bool.or_eq_true, Bool.and_eq_true, Bool.or_eq_false_iff, Bool.and_eq_false_iff, Bool.not_eq_true', Bool.not_eq_false', decide_eq_true_eq, decide_eq_false_iff_not] at h2
    refine HT_seq <| (HT_runc [⟨false, .v (lV S), none⟩] (by simp [*]; first | exact ⟨rfl, Iff.rfl⟩ | exact ⟨rfl, trivial⟩ | rfl) ?_ ?_)
    · first | exact co _ | exact trivial | simpa [*] using co _
    refine HT_seq <| HT_seq <| (HT_run (by simp [*]; rfl) ?_)
    refine HT_block <| (HT_loopU [6] (fun (x : Nat) => [(7, .v (li x))]) (fun (x : Nat) => []) (fun (x : Nat) => x ≤ S.length) (fun (x : Nat) => S.length - x) (0 : Nat) (Nat.zero_le _) ?_ ?_)
    · exact le_mk (fun n => n) [] rfl (by simp [*, upS, keepS]) (by simp [*, upS]) (by simp [upS])
    rintro k hk
    simp only [upS, keepS, insS]
    try simp only [keepS, List.contains_cons, List.contains_nil, Bool.or_false, Bool.or_true, Bool.true_or, Bool.false_or, Nat.reduceBEq, BEq.rfl, beq_self_eq_true, if_true, if_false, Bool.false_eq_true, ite_true, ite_false, ins, Nat.reduceLT]
    clear co
    refine HT_seq <| HT_seq <| (HT_run (by simp [*]; rfl) ?_)
    refine (HT_cond rfl (fun h9 => HT_skip ?_) (fun h9 => ?_))
    · try simp only [Bool.or_eq_true, Bool.and_eq_true, Bool.or_eq_false_iff, Bool.and_eq_false_iff, Bool.not_eq_true', Bool.not_eq_false', decide_eq_true_eq, decide_eq_false_iff_not] at h9
      have hlt : k < S.length := by omega
      obtain ⟨v, he, hd⟩ := at_lt hlt
      have hw1 := wrap1 hlt (by omega)
      have hk1 : k + 1 ≤ S.length := hlt
      have hb := hg v (List.mem_of_getElem? he)
      clear hlt h9 hg hres
      refine HT_seq <| HT_block <| HT_seq <| (HT_drun (by kernel_rfl) (by kernel_rfl) (by rfl) (by simp [*]; rfl) ?_)
      refine (HT_cond rfl (fun h11 => ?_) (fun h11 => HT_skip ?_))
      · exfalso
        simp at h11
        omega
      · try simp only [Bool.or_eq_true, Bool.and_eq_true, Bool.or_eq_false_iff, Bool.and_eq_false_iff, Bool.not_eq_true', Bool.not_eq_false', decide_eq_true_eq, decide_eq_false_iff_not] at h11
        refine (HT_run (by simp [*]; rfl) ?_)
        exact ⟨k + 1, hk1, by omega, le_mk (fun n => n) [] rfl (by simp [upS, keepS, *]) (by simp [*, upS]) (by simp [upS])⟩
    · try simp only [Bool.or_eq_true, Bool.and_eq_true, Bool.or_eq_false_iff, Bool.and_eq_false_iff, Bool.not_eq_true', Bool.not_eq_false', decide_eq_true_eq, decide_eq_false_iff_not] at h9
      clear h9 hk
      refine (HT_exit ?_)
      refine HT_seq <| (HT_run (by simp [*]; rfl) ?_)
      refine HT_seq <| HT_seq <| (HT_run (by simp [*]; rfl) ?_)
      refine HT_block <| (HT_loopU [6] (fun (x : Nat × Int) => [(8, .v (li x.2)), (9, .v (li x.1))]) (fun (x : Nat × Int) => []) (fun (x : Nat × Int) => x.1 ≤ S.length ∧ prV (S.drop x.1) x.2 = res ∧ 1 ≤ x.2 ∧ x.2 ≤ 4096) (fun (x : Nat × Int) => S.length - x.1) (0, 1) ⟨Nat.zero_le _, hres, by decide, by decide⟩ ?_ ?_)
      · exact le_mk (fun n => n) [] rfl (by simp [*, upS, keepS]) (by simp [*, upS]) (by simp [upS])
      rintro ⟨k, n⟩ ⟨hk, hJ, hn1, hn2⟩
      simp only [upS, keepS, insS]
      try simp only [keepS, List.contains_cons, List.contains_nil, Bool.or_false, Bool.or_true, Bool.true_or, Bool.false_or, Nat.reduceBEq, BEq.rfl, beq_self_eq_true, if_true, if_false, Bool.false_eq_true, ite_true, ite_false, ins, Nat.reduceLT]
      simp only at hk hJ hn1 hn2
      clear hres
      refine HT_seq <| HT_seq <| (HT_run (by simp [*]; rfl) ?_)
      refine (HT_cond rfl (fun h20 => HT_skip ?_) (fun h20 => ?_))
      · try simp only [Bool.or_eq_true, Bool.and_eq_true, Bool.or_eq_false_iff, Bool.and_eq_false_iff, Bool.not_eq_true', Bool.not_eq_false', decide_eq_true_eq, decide_eq_false_iff_not] at h20
        have hlt : k < S.length := by omega
        obtain ⟨v, he, hd⟩ := at_lt hlt
        have hw1 := wrap1 hlt (by omega)
        have hk1 : k + 1 ≤ S.length := hlt
        have hmem : v ∈ S := List.mem_of_getElem? he
        have hsz := sz_in hg hmem
        have hm := mul_in ⟨hn1, hn2⟩ hsz
        have hb := hg v hmem
        have hw2 : IntKind.i64.wrap (v.high - v.low) = v.high - v.low := wrap_in (by omega) (by omega)
        have hw3 : IntKind.i64.wrap (v.high - v.low + 1) = sz v := by rw [wrap_in (by omega) (by omega)]; rfl
        have hw4 : IntKind.i64.wrap (n * sz v) = n * sz v := wrap_in (by omega) (by omega)
        rw [hd] at hJ
        simp only [prV] at hJ
        clear hlt h20 hg
        refine HT_seq <| HT_block <| HT_seq <| (HT_drun (by kernel_rfl) (by kernel_rfl) (by rfl) (by simp [*]; rfl) ?_)
        refine HT_seq <| (HT_run (by simp [*]; rfl) ?_)
        refine (HT_cond rfl (fun h23 => ?_) (fun h23 => HT_skip ?_))
        · exfalso
          rw [if_pos (by simpa using h23)] at hJ
          omega
        · try simp only [Bool.or_eq_true, Bool.and_eq_true, Bool.or_eq_false_iff, Bool.and_eq_false_iff, Bool.not_eq_true', Bool.not_eq_false', decide_eq_true_eq, decide_eq_false_iff_not] at h23
          rw [if_neg (by simpa using h23)] at hJ
          refine (HT_run (by simp [*]; rfl) ?_)
          exact ⟨(k + 1, n * sz v), ⟨hk1, hJ, hm.1, by simp only; omega⟩, by simp only; omega, le_mk (fun n => n) [] rfl (by simp [upS, keepS, *]) (by simp [*, upS]) (by simp [upS])⟩
      · try simp only [Bool.or_eq_true, Bool.and_eq_true, Bool.or_eq_false_iff, Bool.and_eq_false_iff, Bool.not_eq_true', Bool.not_eq_false', decide_eq_true_eq, decide_eq_false_iff_not] at h20
        have hkl : k = S.length := by omega
        rw [hkl, List.drop_length] at hJ
        simp only [prV] at hJ
        subst hJ
        refine (HT_exit ?_)
        refine HT_seq <| (HT_run (by simp [*]; rfl) ?_)
        exact (HT_retE (fun h => ⟨.inr rfl, h⟩) _ (by simp [*]; rfl) (by first | rfl | (simp [*]; done) | (simp only [resR]; (repeat' split) <;> first | rfl | (exfalso; omega) | simp_all)) (by simp))
theorem unrank13_con (vars : List Vr) (kind : Int) (hkd : 1 ≤ kind ∧ kind ≤ 3) (hv : goodV' vars) (hl : vars.length ≤ 1000000) (hs : spc vars kind ≤ 4096) (r : Int) (h0 : 0 ≤ r) (h1 : r < spc vars kind) (d : Nat) :
    Con Tryz.prog 78 false [lV vars, li kind, li r] (.tup [lI (uL (ofK vars kind) r), li 0]) none d := by
  have co := of13_con vars kind hl
  have cs := space13_con vars kind hkd hv hl hs
  have hg := ofK_good hv kind
  have hn := ofK_len vars kind
  have hp := spc_pd hv hs
  rw [hp] at cs h1 hs
  clear hp
  obtain ⟨S, hS⟩ : ∃ S, ofK vars kind = S := ⟨_, rfl⟩
  rw [hS] at co hg hn cs h1 hs ⊢
  clear hS hv
  have hp1 := pdL_pos S hg
  obtain ⟨n0, hn0⟩ : ∃ n, pdL S = n := ⟨_, rfl⟩
  rw [hn0] at cs h1 hs hp1
  obtain ⟨res, hres⟩ : ∃ l, uL S r = l := ⟨_, rfl⟩
  rw [hres]
  refine con_of_HT Tryz.func78 rfl (by kernel_rfl) (Nat.le_of_ble_eq_true rfl) ?_
  simp only [Tryz.f78]
  refine HT_seq <| (HT_run (by simp [*]; rfl) ?_)
  refine HT_seq <| (HT_runc [⟨true, .tup [li n0, li 0], none⟩] (by simp [*]; first | exact ⟨rfl, Iff.rfl⟩ | exact ⟨rfl, trivial⟩ | rfl) ?_ ?_)
  · first | exact cs _ | exact trivial | simpa [*] using cs _
  refine HT_seq <| HT_seq <| (HT_run (by simp [*]; rfl) ?_)
  refine (HT_cond rfl (fun h3 => ?_) (fun h3 => HT_skip ?_))
  · exact absurd h3 (by simp)
  · try simp only [Bool.or_eq_true, Bool.and_eq_true, Bool.or_eq_false_iff, Bool.and_eq_false_iff, Bool.not_eq_true', Bool.not_eq_false', decide_eq_true_eq, decide_eq_false_iff_not] at h3
    refine HT_seq <| HT_seq <| (HT_run (by simp [*]; rfl) ?_)
    refine (HT_cond rfl (fun h7 => ?_) (fun h7 => HT_skip ?_))
    · exfalso
      simp at h7
      omega
    · try simp only [Bool.or_eq_true, Bool.and_eq_true, Bool.or_eq_false_iff, Bool.and_eq_false_iff, Bool.not_eq_true', Bool.not_eq_false', decide_eq_true_eq, decide_eq_false_iff_not] at h7
      refine HT_seq <| (HT_runc [⟨false, .v (lV S), none⟩] (by simp [*]; first | exact ⟨rfl, Iff.rfl⟩ | exact ⟨rfl, trivial⟩ | rfl) ?_ ?_)
      · first | exact co _ | exact trivial | simpa [*] using co _
      refine HT_seq <| (HT_run (by simp [*]; rfl) ?_)
      refine HT_seq <| HT_seq <| (HT_run (by simp [*]; rfl) ?_)
      refine HT_block <| (HT_loopU [2, 10] (fun (x : Nat × Int × List Int) => [(8, .v (li x.2.1)), (11, .v (.one (.own 1011))), (12, .v (li x.1))]) (fun (x : Nat × Int × List Int) => [(1011, .row 3 1 (encIs x.2.2))]) (fun (x : Nat × Int × List Int) => x.1 ≤ S.length ∧ pdL (S.drop x.1) = x.2.1 ∧ x.2.2 ++ uL (S.drop x.1) r = res ∧ x.2.2.length = x.1 ∧ x.2.1 ≤ 4096) (fun (x : Nat × Int × List Int) => S.length - x.1) (0, n0, []) ⟨Nat.zero_le _, hn0, hres, rfl, hs⟩ ?_ ?_)
      · exact le_mk (fun n => if n = 1011 then 33 else n) [] rfl (by simp [*, upS, keepS]) (by simp [*, upS]) (by simp [upS])
      rintro ⟨k, n, acc⟩ ⟨hk, hJ, hA, hal, hn4⟩
      simp only [upS, keepS, insS]
      try simp only [keepS, List.contains_cons, List.contains_nil, Bool.or_false, Bool.or_true, Bool.true_or, Bool.false_or, Nat.reduceBEq, BEq.rfl, beq_self_eq_true, if_true, if_false, Bool.false_eq_true, ite_true, ite_false, ins, Nat.reduceLT]
      simp only at hk hJ hA hal hn4
      clear hres hn0 cs co
      refine HT_seq <| HT_seq <| (HT_run (by simp [*]; rfl) ?_)
      refine (HT_cond rfl (fun h15 => HT_skip ?_) (fun h15 => ?_))
      · try simp only [Bool.or_eq_true, Bool.and_eq_true, Bool.or_eq_false_iff, Bool.and_eq_false_iff, Bool.not_eq_true', Bool.not_eq_false', decide_eq_true_eq, decide_eq_false_iff_not] at h15
        have hlt : k < S.length := by omega
        obtain ⟨v, he, hd⟩ := at_lt hlt
        have hw1 := wrap1 hlt (by omega)
        have hk1 : k + 1 ≤ S.length := hlt
        have hmem : v ∈ S := List.mem_of_getElem? he
        have hsz := sz_in hg hmem
        have hb := hg v hmem
        have hpp := pdL_pos (S.drop (k + 1)) fun u hu => hg u (List.mem_of_mem_drop hu)
        rw [hd] at hJ hA
        simp only [pdL, uL] at hJ hA
        obtain ⟨p, hpe⟩ : ∃ p, pdL (S.drop (k + 1)) = p := ⟨_, rfl⟩
        rw [hpe] at hJ hA hpp
        have hpd : (sz v * p).tdiv (sz v) = p := Int.mul_tdiv_cancel_left _ (by omega)
        have hple : p ≤ sz v * p := by
          have := Int.mul_le_mul_of_nonneg_right hsz.1 (show 0 ≤ p by omega)
          omega
        have hw2 : IntKind.i64.wrap (v.high - v.low) = v.high - v.low := wrap_in (by omega) (by omega)
        have hw3 : IntKind.i64.wrap (v.high - v.low + 1) = sz v := by rw [wrap_in (by omega) (by omega)]; rfl
        have t2 : r.tdiv p = r / p := Int.tdiv_eq_ediv_of_nonneg (by omega)
        obtain ⟨q, hq⟩ : ∃ q, r / p = q := ⟨_, rfl⟩
        rw [hq] at t2 hA
        have hq0 : 0 ≤ q := by rw [← hq]; exact Int.ediv_nonneg (by omega) (by omega)
        have hq1 : q ≤ r := by rw [← hq]; exact Int.ediv_le_self _ (by omega)
        have hm0 : 0 ≤ q % sz v := Int.emod_nonneg _ (by omega)
        have hm1 : q % sz v < sz v := Int.emod_lt_of_pos _ (by omega)
        have t1 : q.tmod (sz v) = q % sz v := Int.tmod_eq_emod_of_nonneg hq0
        have w0 : IntKind.i64.wrap p = p := wrap_in (by omega) (by omega)
        have w1 : IntKind.i64.wrap (v.low + q % sz v) = v.low + q % sz v := wrap_in (by omega) (by omega)
        have w2 : IntKind.i64.wrap q = q := wrap_in (by omega) (by omega)
        have s0 : ¬ sz v = 0 := by omega
        have p0 : ¬ p = 0 := by omega
        have hroom : room (k + 1) 8 := room_of (by omega) (by omega)
        have hp4 : p ≤ 4096 := by omega
        rw [← hJ]
        clear hlt h15 hg hq hd hpp hmem hJ
        refine HT_seq <| HT_block <| HT_seq <| (HT_drun (by kernel_rfl) (by kernel_rfl) (by rfl) (by simp [*]; rfl) ?_)
        refine HT_seq <| (HT_run (by simp [*]; rfl) ?_)
        refine (HT_drun (by kernel_rfl) (by kernel_rfl) (by rfl) (by simp [*]; rfl) ?_)
        refine (HT_run (by simp [*]; rfl) ?_)
        exact ⟨(k + 1, p, acc ++ [v.low + q % sz v]), ⟨hk1, hpe, by simpa using hA, by simp [hal], by simp only; omega⟩, by simp only; omega, le_mk (fun n => if n = 1011 then 68 else n) [] rfl (by simp [upS, keepS, *]) (by simp [*, upS]) (by simp [upS])⟩
      · try simp only [Bool.or_eq_true, Bool.and_eq_true, Bool.or_eq_false_iff, Bool.and_eq_false_iff, Bool.not_eq_true', Bool.not_eq_false', decide_eq_true_eq, decide_eq_false_iff_not] at h15
        have hkl : k = S.length := by omega
        rw [hkl, List.drop_length] at hA
        simp only [uL, List.append_nil] at hA
        subst hA
        refine (HT_exit ?_)
        refine HT_seq <| (HT_run (by simp [*]; rfl) ?_)
        exact HT_ret ⟨.inr rfl, _, le_frz 1011 rfl, ⟨⟨_, by simp; rfl, by simp [resR]⟩, by simp, fun h => by cases h⟩⟩
def inpK (vars : List Vr) (a b c : Int) : Inp := ⟨uL (ofK vars 1) a, uL (ofK vars 2) b, uL (ofK vars 3) c⟩
theorem inp13_con (vars : List Vr) (hv : goodV' vars) (hl : vars.length ≤ 1000000) (hs : ∀ k, 1 ≤ k → k ≤ 3 → spc vars k ≤ 4096) (a b c : Int) (ha : 0 ≤ a ∧ a < spc vars 1) (hb : 0 ≤ b ∧ b < spc vars 2) (hc : 0 ≤ c ∧ c < spc vars 3) (d : Nat) :
    Con Tryz.prog 43 false [lV vars, li a, li b, li c] (.tup [aI (inpK vars a b c), li 0]) none d := by
  have c1 := unrank13_con vars 1 (by decide) hv hl (hs 1 (by decide) (by decide)) a ha.1 ha.2
  have c2 := unrank13_con vars 2 (by decide) hv hl (hs 2 (by decide) (by decide)) b hb.1 hb.2
  have c3 := unrank13_con vars 3 (by decide) hv hl (hs 3 (by decide) (by decide)) c hc.1 hc.2
  unfold inpK
  obtain ⟨A, hA⟩ : ∃ l, uL (ofK vars 1) a = l := ⟨_, rfl⟩
  obtain ⟨B, hB⟩ : ∃ l, uL (ofK vars 2) b = l := ⟨_, rfl⟩
  obtain ⟨C, hC⟩ : ∃ l, uL (ofK vars 3) c = l := ⟨_, rfl⟩
  rw [hA] at c1 ⊢
  rw [hB] at c2 ⊢
  rw [hC] at c3 ⊢
  clear hA hB hC hv hs
  refine con_of_HT Tryz.func43 rfl (by kernel_rfl) (Nat.le_of_ble_eq_true rfl) ?_
  simp only [Tryz.f43]
  refine HT_seq <| (HT_run (by simp [*]; rfl) ?_)
  refine HT_seq <| (HT_runc [⟨false, .tup [lI A, li 0], none⟩] (by simp [*]; first | exact ⟨rfl, Iff.rfl⟩ | exact ⟨rfl, trivial⟩ | rfl) ?_ ?_)
  · first | exact c1 _ | exact trivial | simpa [*] using c1 _
  refine HT_seq <| HT_seq <| (HT_run (by simp [*]; rfl) ?_)
  refine (HT_cond rfl (fun h3 => ?_) (fun h3 => HT_skip ?_))
  · exact absurd h3 (by simp)
  · try simp only [Bool.or_eq_true, Bool.and_eq_true, Bool.or_eq_false_iff, Bool.and_eq_false_iff, Bool.not_eq_true', Bool.not_eq_false', decide_eq_true_eq, decide_eq_false_iff_not] at h3
    refine HT_seq <| (HT_runc [⟨false, .tup [lI B, li 0], none⟩] (by simp [*]; first | exact ⟨rfl, Iff.rfl⟩ | exact ⟨rfl, trivial⟩ | rfl) ?_ ?_)
    · first | exact c2 _ | exact trivial | simpa [*] using c2 _
    refine HT_seq <| HT_seq <| (HT_run (by simp [*]; rfl) ?_)
    refine (HT_cond rfl (fun h8 => ?_) (fun h8 => HT_skip ?_))
    · exact absurd h8 (by simp)
    · try simp only [Bool.or_eq_true, Bool.and_eq_true, Bool.or_eq_false_iff, Bool.and_eq_false_iff, Bool.not_eq_true', Bool.not_eq_false', decide_eq_true_eq, decide_eq_false_iff_not] at h8
      refine HT_seq <| (HT_runc [⟨false, .tup [lI C, li 0], none⟩] (by simp [*]; first | exact ⟨rfl, Iff.rfl⟩ | exact ⟨rfl, trivial⟩ | rfl) ?_ ?_)
      · first | exact c3 _ | exact trivial | simpa [*] using c3 _
      refine HT_seq <| HT_seq <| (HT_run (by simp [*]; rfl) ?_)
      refine (HT_cond rfl (fun h13 => ?_) (fun h13 => HT_skip ?_))
      · exact absurd h13 (by simp)
      · try simp only [Bool.or_eq_true, Bool.and_eq_true, Bool.or_eq_false_iff, Bool.and_eq_false_iff, Bool.not_eq_true', Bool.not_eq_false', decide_eq_true_eq, decide_eq_false_iff_not] at h13
        refine HT_seq <| (HT_run (by simp [*]; rfl) ?_)
        exact HT_ret ⟨.inr rfl, _, le_refl _, ⟨⟨_, by simp; rfl, by simp [resR]⟩, by simp, fun h => by cases h⟩⟩
end Go.Proofs.YtfilidjbpomgoaaGreat
