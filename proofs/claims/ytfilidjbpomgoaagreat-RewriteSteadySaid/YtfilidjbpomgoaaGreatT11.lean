/- T11: contracts of functions of the program and of the reference, and plain facts about what they compute; used by the proof of the claimed statement. Conditions: as each theorem states. -/
import Derived.Test.YtfilidjbpomgoaaGreatT7
import Derived.Test.YtfilidjbpomgoaaGreatT10
set_option linter.unusedSimpArgs false
set_option linter.unusedVariables false
set_option maxRecDepth 100000
set_option maxHeartbeats 2000000
namespace Go.Proofs.YtfilidjbpomgoaaGreat
open Go Go.Hl

theorem waitL_bnd (n : Int) : bndL (waitL n) = true := by
  unfold waitL
  split <;> simp [bndL, bndS]
theorem bndL_app : ∀ a b : List St, bndL (a ++ b) = (bndL a && bndL b)
  | [], b => by simp [bndL]
  | s :: a, b => by simp [bndL, bndL_app a b, Bool.and_assoc]
theorem balS_bnd (s : St) (h : bndS s = true) : bndS (balS s) = true := by
  obtain ⟨d, c, v, n, t, a, b, bs⟩ := s
  simp only [bndS, Bool.and_eq_true, decide_eq_true_eq] at h
  unfold balS
  simp only
  split
  · simp [bndS, bndL_app, waitL_bnd, h.1, h.2.1, h.2.2]
  · split
    · simp [bndS, bndL, waitL_bnd, h.1, h.2.1, h.2.2]
    · simp [bndS, h.1, h.2.1, h.2.2]
theorem evL_bnd : ∀ l : List St, bndL l = true → bndL (evL l) = true
  | [], _ => by simp [evL, bndL]
  | .mk d c v n t a b bs :: l, h => by
    simp only [bndL, bndS, Bool.and_eq_true, decide_eq_true_eq] at h
    have ha := evL_bnd a h.1.2.1
    have hb := evL_bnd b h.1.2.2
    have hl := evL_bnd l h.2
    simp only [evL, bndL, hl, Bool.and_true]
    exact balS_bnd _ (by simp [bndS, ha, hb, h.1.1])

def fl0 : Fl := ⟨[], [], []⟩
def chkF (f : Fl) : Fl × Int := if codeC f = 0 then (f, 0) else (fl0, 4)
def evF (f : Fl) : Fl × Int := if codeC f = 0 then chkF ⟨f.vars, f.hats, evL f.body⟩ else (fl0, codeC f)

theorem checked_con (f : Fl) (hv : f.vars.length ≤ 1000000) (hh : f.hats.length ≤ 1000000) (hn : nodesS f.body + nodesH f.hats ≤ 900000000) (hb : bndL f.body = true) (d : Nat) :
    Con Tryz.prog 30 false [aF f] (.tup [aF (chkF f).1, li (chkF f).2]) none d := by
  have cc := checkP_con f hv hh hn hb
  obtain ⟨vars, hats, body⟩ := f
  obtain ⟨res, hres⟩ : ∃ r, chkF ⟨vars, hats, body⟩ = r := ⟨_, rfl⟩
  rw [hres]
  unfold chkF at hres
  obtain ⟨C, hC⟩ : ∃ x, codeC ⟨vars, hats, body⟩ = x := ⟨_, rfl⟩
  rw [hC] at cc hres
  clear hC
  refine con_of_HT Tryz.func30 rfl (by kernel_rfl) (Nat.le_of_ble_eq_true rfl) ?_
  simp only [Tryz.f30]
  simp only [aF, Fl.enc, List.map_cons, List.map_nil] at cc ⊢
  refine HT_seq <| (HT_run (by simp [*]; rfl) ?_)
  refine HT_seq <| HT_seq <| (HT_runc [⟨true, .v (li C), none⟩] (by simp [*]; first | exact ⟨rfl, Iff.rfl⟩ | exact ⟨rfl, trivial⟩ | rfl) ?_ ?_)
  · first | exact cc _ | exact trivial | simpa [*] using cc _
  refine (HT_cond rfl (fun h2 => ?_) (fun h2 => HT_skip ?_))
  · try simp only [Bool.or_eq_true, Bool.and_eq_true, Bool.or_eq_false_iff, Bool.and_eq_false_iff, Bool.not_eq_true', Bool.not_eq_false', decide_eq_true_eq, decide_eq_false_iff_not] at h2
    rw [if_neg h2] at hres
    subst hres
    refine HT_seq <| (HT_run (by simp [*]; rfl) ?_)
    refine HT_le (le_box 2 [.c (.sl 5 []), .c (.sl 6 []), .c (.sl 10 [])] rfl (by (repeat' (first | exact LWk.nil | apply LWk.cons | exact CWk.refl _ | exact CWk.nil _)))) ?_
    exact HT_ret ⟨.inr rfl, _, le_refl _, ⟨⟨_, by simp; rfl, by simp [resR, fl0]⟩, by simp, fun h => by cases h⟩⟩
  · try simp only [Bool.or_eq_true, Bool.and_eq_true, Bool.or_eq_false_iff, Bool.and_eq_false_iff, Bool.not_eq_true', Bool.not_eq_false', decide_eq_true_eq, decide_eq_false_iff_not] at h2
    rw [if_pos (by simpa using h2)] at hres
    subst hres
    refine HT_seq <| (HT_run (by simp [*]; rfl) ?_)
    exact HT_ret ⟨.inr rfl, _, le_refl _, ⟨⟨_, by simp; rfl, by simp [resR]⟩, by simp, fun h => by cases h⟩⟩

theorem evenP_con (f : Fl) (hv : f.vars.length ≤ 1000000) (hh : f.hats.length ≤ 1000000) (hn : nodesS f.body + nodesH f.hats ≤ 100000) (hb : bndL f.body = true) (d : Nat) :
    Con Tryz.prog 8 false [aF f] (.tup [aF (evF f).1, li (evF f).2]) none d := by
  have cc := checkP_con f hv hh (by omega) hb
  have cp := copied_con f hv hh (fun h hm => by have := nodesH_mem hm; omega) (by omega) hb
  have ce := even_con f.body (by omega)
  have hen := evL_nodes f.body
  have ck := checked_con ⟨f.vars, f.hats, evL f.body⟩ hv hh (by simp only; omega) (evL_bnd _ hb)
  obtain ⟨res, hres⟩ : ∃ r, evF f = r := ⟨_, rfl⟩
  rw [hres]
  unfold evF at hres
  obtain ⟨C, hC⟩ : ∃ x, codeC f = x := ⟨_, rfl⟩
  obtain ⟨K, hK⟩ : ∃ x, chkF ⟨f.vars, f.hats, evL f.body⟩ = x := ⟨_, rfl⟩
  rw [hC] at cc hres
  rw [hK] at ck hres
  clear hC hK hen
  obtain ⟨vars, hats, body⟩ := f
  obtain ⟨⟨kv, kh, kb⟩, kc⟩ := K
  simp only at hv hh hn hb cc cp ce ck hres
  refine con_of_HT Tryz.func8 rfl (by kernel_rfl) (Nat.le_of_ble_eq_true rfl) ?_
  simp only [Tryz.f8]
  simp only [aF, Fl.enc, List.map_cons, List.map_nil] at cc cp ck ⊢
  refine HT_seq <| (HT_run (by simp [*]; rfl) ?_)
  refine HT_seq <| HT_seq <| (HT_runc [⟨true, .v (li C), none⟩] (by simp [*]; first | exact ⟨rfl, Iff.rfl⟩ | exact ⟨rfl, trivial⟩ | rfl) ?_ ?_)
  · first | exact cc _ | exact trivial | simpa [*] using cc _
  refine HT_seq <| (HT_run (by simp [*]; rfl) ?_)
  refine (HT_cond rfl (fun h3 => ?_) (fun h3 => HT_skip ?_))
  · try simp only [Bool.or_eq_true, Bool.and_eq_true, Bool.or_eq_false_iff, Bool.and_eq_false_iff, Bool.not_eq_true', Bool.not_eq_false', decide_eq_true_eq, decide_eq_false_iff_not] at h3
    rw [if_neg h3] at hres
    subst hres
    refine HT_seq <| (HT_run (by simp [*]; rfl) ?_)
    refine HT_le (le_box 2 [.c (.sl 5 []), .c (.sl 6 []), .c (.sl 10 [])] rfl (by (repeat' (first | exact LWk.nil | apply LWk.cons | exact CWk.refl _ | exact CWk.nil _)))) ?_
    exact HT_ret ⟨.inr rfl, _, le_refl _, ⟨⟨_, by simp; rfl, by simp [resR, fl0]⟩, by simp, fun h => by cases h⟩⟩
  · try simp only [Bool.or_eq_true, Bool.and_eq_true, Bool.or_eq_false_iff, Bool.and_eq_false_iff, Bool.not_eq_true', Bool.not_eq_false', decide_eq_true_eq, decide_eq_false_iff_not] at h3
    rw [if_pos (by simpa using h3)] at hres
    subst hres
    refine HT_seq <| (HT_runc [⟨false, .v (.agg [.c (.sl 5 (encVs vars)), .c (.sl 6 (encHs hats)), .c (.sl 10 (encSs body))]), none⟩] (by simp [*]; first | exact ⟨rfl, Iff.rfl⟩ | exact ⟨rfl, trivial⟩ | rfl) ?_ ?_)
    · first | exact cp _ | exact trivial | simpa [*] using cp _
    refine HT_seq <| (HT_runc [⟨false, .v (.one (.own 15)), some (.row 56 10 (encSs (evL body)))⟩] (by simp [*]; first | exact ⟨rfl, Iff.rfl⟩ | exact ⟨rfl, trivial⟩ | rfl) ?_ ?_)
    · first | exact ce 15 (by decide) | exact trivial | simpa [*] using ce 15 (by decide)
    refine HT_le (le_frz 15 rfl) ?_
    refine HT_seq <| (HT_runc [⟨false, .tup [.agg [.c (.sl 5 (encVs kv)), .c (.sl 6 (encHs kh)), .c (.sl 10 (encSs kb))], li kc], none⟩] (by simp [*]; first | exact ⟨rfl, Iff.rfl⟩ | exact ⟨rfl, trivial⟩ | rfl) ?_ ?_)
    · first | exact ck _ | exact trivial | simpa [*] using ck _
    exact HT_ret ⟨.inr rfl, _, le_refl _, ⟨⟨_, by simp; rfl, by simp [resR]⟩, by simp, fun h => by cases h⟩⟩
end Go.Proofs.YtfilidjbpomgoaaGreat

namespace Go.Proofs.YtfilidjbpomgoaaGreat
open Go Go.Hl

theorem sizes_con (f : Fl) (hv : f.vars.length ≤ 1000000) (hh : f.hats.length ≤ 1000000) (hn : nodesS f.body + nodesH f.hats ≤ 900000000) (d : Nat) :
    Con Tryz.prog 31 true [aF f] (.v (lb (sizesB f))) none d := by
  obtain ⟨res, hres⟩ : ∃ r, sizesB f = r := ⟨_, rfl⟩
  rw [hres]
  have cn := nodes_con f.body (by omega)
  have csd := sdepth_con f.body (by omega)
  have ctd := tdeep_con f.body (by omega)
  unfold sizesB at hres
  obtain ⟨vars, hats, body⟩ := f
  simp only at hv hh hn hres cn csd ctd
  refine con_of_HT Tryz.func31 rfl (by kernel_rfl) (Nat.le_of_ble_eq_true rfl) ?_
  simp only [Tryz.f31]
  simp only [aF, Fl.enc, List.map_cons, List.map_nil]
  refine HT_seq <| (HT_run (by simp [*]; rfl) ?_)
  refine HT_seq <| HT_seq <| (HT_run (by simp [*]; rfl) ?_)
  refine (HT_cond rfl (fun h2 => ?_) (fun h2 => HT_skip ?_))
  · try simp only [Bool.or_eq_true, Bool.and_eq_true, Bool.or_eq_false_iff, Bool.and_eq_false_iff, Bool.not_eq_true', Bool.not_eq_false', decide_eq_true_eq, decide_eq_false_iff_not] at h2
    have hz : (decide (vars.length ≤ 64) && decide (hats.length ≤ 8)) = false := by
      simp only [Bool.and_eq_false_iff, decide_eq_false_iff_not]
      omega
    rw [hz] at hres
    simp only [Bool.false_and] at hres
    subst hres
    refine HT_seq <| (HT_run (by simp [*]; rfl) ?_)
    exact (HT_retE (fun h => ⟨.inr rfl, h⟩) _ (by simp [*]; rfl) (by first | rfl | (simp [*]; done) | (simp only [resR]; (repeat' split) <;> first | rfl | (exfalso; omega) | simp_all)) (by simp))
  · try simp only [Bool.or_eq_true, Bool.and_eq_true, Bool.or_eq_false_iff, Bool.and_eq_false_iff, Bool.not_eq_true', Bool.not_eq_false', decide_eq_true_eq, decide_eq_false_iff_not] at h2
    have hz : (decide (vars.length ≤ 64) && decide (hats.length ≤ 8)) = true := by
      simp only [Bool.and_eq_true, decide_eq_true_eq]
      omega
    rw [hz] at hres
    simp only [Bool.true_and] at hres
    refine HT_seq <| (HT_runc [⟨true, .v (li (nodesS body)), none⟩] (by simp [*]; first | exact ⟨rfl, Iff.rfl⟩ | exact ⟨rfl, trivial⟩ | rfl) ?_ ?_)
    · first | exact cn _ | exact trivial | simpa [*] using cn _
    refine HT_seq <| HT_seq <| (HT_run (by simp [*]; rfl) ?_)
    refine HT_block <| (HT_loopU [1] (fun (x : Nat × Nat) => [(3, .v (li x.2)), (4, .v (li x.1))]) (fun (x : Nat × Nat) => [(1, .box [.c (.sl 5 (encVs vars)), .c (.sl 6 (encHs hats)), .c (.sl 10 (encSs body))])]) (fun (x : Nat × Nat) => x.1 ≤ hats.length ∧ x.2 + nodesH (hats.drop x.1) = nodesS body + nodesH hats ∧ deepH (hats.drop x.1) = deepH hats) (fun (x : Nat × Nat) => hats.length - x.1) (0, nodesS body) ⟨Nat.zero_le _, by simp, by simp⟩ ?_ ?_)
    · exact le_mk (fun n => n) [] rfl (by simp [*, upS, keepS]) (by simp [*, upS]) (by simp [upS])
    rintro ⟨k, n⟩ ⟨hk, hJ, hJ2⟩
    simp only [upS, keepS, insS]
    try simp only [keepS, List.contains_cons, List.contains_nil, Bool.or_false, Bool.or_true, Bool.true_or, Bool.false_or, Nat.reduceBEq, BEq.rfl, beq_self_eq_true, if_true, if_false, Bool.false_eq_true, ite_true, ite_false, ins, Nat.reduceLT]
    simp only at hk hJ hJ2
    refine HT_seq <| HT_seq <| (HT_run (by simp [*]; rfl) ?_)
    refine (HT_cond rfl (fun h9 => HT_skip ?_) (fun h9 => ?_))
    · try simp only [Bool.or_eq_true, Bool.and_eq_true, Bool.or_eq_false_iff, Bool.and_eq_false_iff, Bool.not_eq_true', Bool.not_eq_false', decide_eq_true_eq, decide_eq_false_iff_not] at h9
      have hlt : k < hats.length := by omega
      obtain ⟨h, he, hd⟩ := at_lt hlt
      have hw1 := wrap1 hlt (by omega)
      have hk1 : k + 1 ≤ hats.length := hlt
      rw [hd] at hJ hJ2
      simp only [nodesH] at hJ
      have hJ2 : (decide (tdT h.term ≤ 12) && deepH (hats.drop (k + 1))) = deepH hats := hJ2
      have ctn := tnodes_con h.term (by omega)
      have ctd2 := tdepth_con h.term (by omega)
      have hw2 : IntKind.i64.wrap ((n : Int) + h.term.nodes) = ((n + h.term.nodes : Nat) : Int) := by rw [wrap_in (by omega) (by omega)]; simp
      obtain ⟨nm, lo, hi, ⟨o, tn, ks⟩⟩ := h
      simp only at hJ hJ2 ctn ctd2 hw2
      simp only [aT, Tm.enc, List.map_cons, List.map_nil] at ctn ctd2
      obtain ⟨N, hN⟩ : ∃ x, (Tm.mk o tn ks).nodes = x := ⟨_, rfl⟩
      obtain ⟨D, hD⟩ : ∃ x, tdT (Tm.mk o tn ks) = x := ⟨_, rfl⟩
      rw [hN] at ctn hJ hw2
      rw [hD] at ctd2 hJ2
      clear hlt h9 hd hN hD
      refine HT_seq <| HT_block <| HT_seq <| (HT_runc [⟨true, .v (li N), none⟩] (by simp [*]; first | exact ⟨rfl, Iff.rfl⟩ | exact ⟨rfl, trivial⟩ | rfl) ?_ ?_)
      · first | exact ctn _ | exact trivial | simpa [*] using ctn _
      refine HT_seq <| (HT_runc [⟨true, .v (li D), none⟩] (by simp [*]; first | exact ⟨rfl, Iff.rfl⟩ | exact ⟨rfl, trivial⟩ | rfl) ?_ ?_)
      · first | exact ctd2 _ | exact trivial | simpa [*] using ctd2 _
      refine (HT_cond rfl (fun h12 => ?_) (fun h12 => HT_skip ?_))
      · try simp only [Bool.or_eq_true, Bool.and_eq_true, Bool.or_eq_false_iff, Bool.and_eq_false_iff, Bool.not_eq_true', Bool.not_eq_false', decide_eq_true_eq, decide_eq_false_iff_not] at h12
        have hz2 : deepH hats = false := by rw [← hJ2]; simp only [Bool.and_eq_false_iff, decide_eq_false_iff_not]; omega
        rw [hz2, Bool.and_false] at hres
        subst hres
        refine HT_seq <| (HT_run (by simp [*]; rfl) ?_)
        exact (HT_retE (fun h => ⟨.inr rfl, h⟩) _ (by simp [*]; rfl) (by first | rfl | (simp [*]; done) | (simp only [resR]; (repeat' split) <;> first | rfl | (exfalso; omega) | simp_all)) (by simp))
      · try simp only [Bool.or_eq_true, Bool.and_eq_true, Bool.or_eq_false_iff, Bool.and_eq_false_iff, Bool.not_eq_true', Bool.not_eq_false', decide_eq_true_eq, decide_eq_false_iff_not] at h12
        rw [decide_eq_true (by omega), Bool.true_and] at hJ2
        refine (HT_run (by simp [*]; rfl) ?_)
        exact ⟨(k + 1, n + N), ⟨hk1, by simp only; omega, hJ2⟩, by simp only; omega, le_mk (fun n => n) [] rfl (by simp [upS, keepS, *]) (by simp [*, upS]) (by simp [upS])⟩
    · try simp only [Bool.or_eq_true, Bool.and_eq_true, Bool.or_eq_false_iff, Bool.and_eq_false_iff, Bool.not_eq_true', Bool.not_eq_false', decide_eq_true_eq, decide_eq_false_iff_not] at h9
      have hkl : k = hats.length := by omega
      subst hkl
      rw [List.drop_length] at hJ hJ2
      simp only [nodesH, Nat.add_zero] at hJ
      have hJ2 : deepH hats = true := hJ2.symm
      rw [hJ2, Bool.and_true, ← hJ] at hres
      obtain ⟨S, hS⟩ : ∃ x, sdL body = x := ⟨_, rfl⟩
      obtain ⟨T, hT⟩ : ∃ x, tdeep body = x := ⟨_, rfl⟩
      rw [hS] at csd hres
      rw [hT] at ctd hres
      have e1 : decide (n ≤ 1024) = decide ((n : Int) ≤ 1024) := by rw [Bool.eq_iff_iff, decide_eq_true_eq, decide_eq_true_eq]; omega
      have e2 : decide (S ≤ 12) = decide ((S : Int) ≤ 12) := by rw [Bool.eq_iff_iff, decide_eq_true_eq, decide_eq_true_eq]; omega
      rw [e1, e2] at hres
      clear e1 e2 hS hT hJ2 h9 hJ
      refine (HT_exit ?_)
      refine HT_seq <| (HT_runc [⟨true, .v (li S), none⟩, ⟨true, .v (lb T), none⟩] (by simp [*]; first | exact ⟨rfl, Iff.rfl⟩ | exact ⟨rfl, trivial⟩ | rfl) ?_ ?_)
      · first | exact ⟨csd _, ctd _⟩ | exact trivial | (repeat' first | exact trivial | exact csd _ | exact ctd _ | apply And.intro)
      exact (HT_retE (fun h => ⟨.inr rfl, h⟩) _ (by simp [*]; rfl) (by subst hres; simp [resR]) (by simp))
end Go.Proofs.YtfilidjbpomgoaaGreat

namespace Go.Proofs.YtfilidjbpomgoaaGreat
open Go Go.Hl

theorem checkR_con (f : Fl) (hv : f.vars.length ≤ 1000000) (hh : f.hats.length ≤ 1000000) (hn : nodesS f.body + nodesH f.hats ≤ 900000000) (hb : bndL f.body = true) (d : Nat) :
    Con Tryz.prog 9 true [aF f] (.v (li (codeC f))) none d := by
  obtain ⟨res, hres⟩ : ∃ r, codeC f = r := ⟨_, rfl⟩
  rw [hres]
  have csz := sizes_con f hv hh hn
  have cvars := varsR_con f.vars hv
  have ct := fun (hg : goodV f.vars) (h : Ht) (hm : h ∈ f.hats) => termR_con f.vars true hg (by omega) h.term (by have := nodesH_mem hm; omega)
  have cst := fun hg => stepsR_con f hg hv f.body (by omega) hb
  have cup := fun ho => boundsR_con f.body (by omega) ho
  have hgood : varsC f.vars = 0 → goodV f.vars := varsC_good
  have hok : ssC f.vars f.hats.length f.body true = 0 → okL f.body = true := ssC_ok _ _
  unfold codeC overL at hres
  obtain ⟨SZ, hSZ⟩ : ∃ x, sizesB f = x := ⟨_, rfl⟩
  rw [hSZ] at csz hres
  obtain ⟨vars, hats, body⟩ := f
  simp only at hv hh hn hb hres csz cvars ct cst cup hgood hok
  obtain ⟨VC, hVC⟩ : ∃ x, varsC vars = x := ⟨_, rfl⟩
  obtain ⟨HC, hHC⟩ : ∃ x, hcs vars [] hats = x := ⟨_, rfl⟩
  obtain ⟨SC, hSC⟩ : ∃ x, ssC vars hats.length body true = x := ⟨_, rfl⟩
  rw [hVC] at cvars hres hgood
  rw [hHC] at hres
  rw [hSC] at hres hok
  have cst := fun hg => cst hg true
  rw [hSC] at cst
  clear hVC hSC hSZ
  refine con_of_HT Tryz.func9 rfl (by kernel_rfl) (Nat.le_of_ble_eq_true rfl) ?_
  simp only [Tryz.f9]
  simp only [aF, Fl.enc, List.map_cons, List.map_nil] at csz cst ⊢
  refine HT_seq <| (HT_run (by simp [*]; rfl) ?_)
  refine HT_seq <| HT_seq <| (HT_runc [⟨true, .v (lb SZ), none⟩] (by simp [*]; first | exact ⟨rfl, Iff.rfl⟩ | exact ⟨rfl, trivial⟩ | rfl) ?_ ?_)
  · first | exact csz _ | exact trivial | simpa [*] using csz _
  refine (HT_cond rfl (fun h2 => ?_) (fun h2 => HT_skip ?_))
  · try simp only [Bool.or_eq_true, Bool.and_eq_true, Bool.or_eq_false_iff, Bool.and_eq_false_iff, Bool.not_eq_true', Bool.not_eq_false', decide_eq_true_eq, decide_eq_false_iff_not] at h2
    have hz : SZ = false := by simpa using h2
    rw [if_pos hz] at hres
    subst hres
    refine HT_seq <| (HT_run (by simp [*]; rfl) ?_)
    exact (HT_retE (fun h => ⟨.inr rfl, h⟩) _ (by simp [*]; rfl) (by first | rfl | (simp [*]; done) | (simp only [resR]; (repeat' split) <;> first | rfl | (exfalso; omega) | simp_all)) (by simp))
  · try simp only [Bool.or_eq_true, Bool.and_eq_true, Bool.or_eq_false_iff, Bool.and_eq_false_iff, Bool.not_eq_true', Bool.not_eq_false', decide_eq_true_eq, decide_eq_false_iff_not] at h2
    have hz : SZ = true := by simpa using h2
    rw [if_neg (by rw [hz]; decide)] at hres
    clear csz h2
    subst hz
    refine HT_seq <| (HT_runc [⟨true, .v (li VC), none⟩] (by simp [*]; first | exact ⟨rfl, Iff.rfl⟩ | exact ⟨rfl, trivial⟩ | rfl) ?_ ?_)
    · first | exact cvars _ | exact trivial | simpa [*] using cvars _
    refine HT_seq <| HT_seq <| (HT_run (by simp [*]; rfl) ?_)
    refine (HT_cond rfl (fun h7 => ?_) (fun h7 => HT_skip ?_))
    · try simp only [Bool.or_eq_true, Bool.and_eq_true, Bool.or_eq_false_iff, Bool.and_eq_false_iff, Bool.not_eq_true', Bool.not_eq_false', decide_eq_true_eq, decide_eq_false_iff_not] at h7
      rw [if_neg h7] at hres
      subst hres
      refine HT_seq <| (HT_run (by simp [*]; rfl) ?_)
      exact (HT_retE (fun h => ⟨.inr rfl, h⟩) _ (by simp [*]; rfl) (by first | rfl | (simp [*]; done) | (simp only [resR]; (repeat' split) <;> first | rfl | (exfalso; omega) | simp_all)) (by simp))
    · try simp only [Bool.or_eq_true, Bool.and_eq_true, Bool.or_eq_false_iff, Bool.and_eq_false_iff, Bool.not_eq_true', Bool.not_eq_false', decide_eq_true_eq, decide_eq_false_iff_not] at h7
      have hv0 : VC = 0 := by simpa using h7
      have hg := hgood hv0
      have ct := ct hg
      have cst := cst hg
      rw [if_pos hv0] at hres
      clear cvars hgood h7
      subst hv0
      refine HT_seq <| HT_seq <| (HT_run (by simp [*]; rfl) ?_)
      refine HT_block <| (HT_loopU [1] (fun (x : Nat) => [(4, .v (li x))]) (fun (x : Nat) => [(1, .box [.c (.sl 5 (encVs vars)), .c (.sl 6 (encHs hats)), .c (.sl 10 (encSs body))])]) (fun (x : Nat) => x ≤ hats.length ∧ hcs vars (hats.take x) (hats.drop x) = HC) (fun (x : Nat) => hats.length - x) (0 : Nat) ⟨Nat.zero_le _, hHC⟩ ?_ ?_)
      · exact le_mk (fun n => n) [] rfl (by simp [*, upS, keepS]) (by simp [*, upS]) (by simp [upS])
      rintro k ⟨hk, hJ⟩
      simp only [upS, keepS, insS]
      try simp only [keepS, List.contains_cons, List.contains_nil, Bool.or_false, Bool.or_true, Bool.true_or, Bool.false_or, Nat.reduceBEq, BEq.rfl, beq_self_eq_true, if_true, if_false, Bool.false_eq_true, ite_true, ite_false, ins, Nat.reduceLT]
      clear hHC
      refine HT_seq <| HT_seq <| (HT_run (by simp [*]; rfl) ?_)
      refine (HT_cond rfl (fun h13 => HT_skip ?_) (fun h13 => ?_))
      · try simp only [Bool.or_eq_true, Bool.and_eq_true, Bool.or_eq_false_iff, Bool.and_eq_false_iff, Bool.not_eq_true', Bool.not_eq_false', decide_eq_true_eq, decide_eq_false_iff_not] at h13
        have hlt : k < hats.length := by omega
        obtain ⟨h, he, hd⟩ := at_lt hlt
        have hw1 := wrap1 hlt (by omega)
        have hk1 : k + 1 ≤ hats.length := hlt
        have hkl : (hats.take k).length = k := by rw [List.length_take]; omega
        rw [hd] at hJ
        simp only [hcs] at hJ
        rw [← take_snoc he] at hJ
        have ct := ct h (List.mem_of_getElem? he)
        obtain ⟨nm, lo, hi, ⟨o, tn, ks⟩⟩ := h
        obtain ⟨C, hC⟩ : ∃ x, hcode vars (hats.take k) ⟨nm, lo, hi, .mk o tn ks⟩ = x := ⟨_, rfl⟩
        rw [hC] at hJ
        simp only [hcode] at hC
        simp only [aT, Tm.enc, List.map_cons, List.map_nil] at ct
        obtain ⟨TC, hTC⟩ : ∃ x, termC vars true (.mk o tn ks) = x := ⟨_, rfl⟩
        rw [hTC] at ct hC
        clear hlt h13 hd cup hok cst hTC
        refine HT_seq <| HT_block <| HT_seq <| (HT_run (by simp [*]; rfl) ?_)
        refine HT_seq <| HT_seq <| (HT_runc [⟨true, .v (lb (nameB nm)), none⟩] (by simp [*]; first | exact ⟨rfl, Iff.rfl⟩ | exact ⟨rfl, trivial⟩ | rfl) ?_ ?_)
        · first | exact nameR_con _ _ | exact trivial | simpa [*] using nameR_con _ _
        refine (HT_cond rfl (fun h16 => ?_) (fun h16 => HT_skip ?_))
        · try simp only [Bool.or_eq_true, Bool.and_eq_true, Bool.or_eq_false_iff, Bool.and_eq_false_iff, Bool.not_eq_true', Bool.not_eq_false', decide_eq_true_eq, decide_eq_false_iff_not] at h16
          rw [if_pos h16] at hC
          subst hC
          rw [if_neg (by decide)] at hJ
          subst hJ
          rw [if_neg (by decide)] at hres
          subst hres
          refine HT_seq <| (HT_run (by simp [*]; rfl) ?_)
          exact (HT_retE (fun h => ⟨.inr rfl, h⟩) _ (by simp [*]; rfl) (by first | rfl | (simp [*]; done) | (simp only [resR]; (repeat' split) <;> first | rfl | (exfalso; omega) | simp_all)) (by simp))
        · try simp only [Bool.or_eq_true, Bool.and_eq_true, Bool.or_eq_false_iff, Bool.and_eq_false_iff, Bool.not_eq_true', Bool.not_eq_false', decide_eq_true_eq, decide_eq_false_iff_not] at h16
          rw [if_neg (by simp [h16])] at hC
          clear h16
          refine HT_seq <| HT_seq <| (HT_run (by simp [*]; rfl) ?_)
          refine HT_block <| (HT_loopU [1, 4, 5] (fun (x : Nat) => [(6, .v (li x))]) (fun (x : Nat) => [(1, .box [.c (.sl 5 (encVs vars)), .c (.sl 6 (encHs hats)), .c (.sl 10 (encSs body))]), (5, .box [.c (sC nm), .c (iC lo), .c (iC hi), .c (iC o), .c (iC tn), .c (.sl 3 (encTs ks))])]) (fun (x : Nat) => x ≤ k ∧ ∀ j : Nat, j < x → ∀ w, hats[j]? = some w → w.name ≠ nm) (fun (x : Nat) => k - x) (0 : Nat) ⟨Nat.zero_le _, fun j hj => absurd hj (Nat.not_lt_zero j)⟩ ?_ ?_)
          · exact le_mk (fun n => n) [] rfl (by simp [*, upS, keepS]) (by simp [*, upS]) (by simp [upS])
          rintro j ⟨hj, hno⟩
          simp only [upS, keepS, insS]
          try simp only [keepS, List.contains_cons, List.contains_nil, Bool.or_false, Bool.or_true, Bool.true_or, Bool.false_or, Nat.reduceBEq, BEq.rfl, beq_self_eq_true, if_true, if_false, Bool.false_eq_true, ite_true, ite_false, ins, Nat.reduceLT]
          refine HT_seq <| HT_seq <| (HT_run (by simp [*]; rfl) ?_)
          refine (HT_cond rfl (fun h22 => HT_skip ?_) (fun h22 => ?_))
          · try simp only [Bool.or_eq_true, Bool.and_eq_true, Bool.or_eq_false_iff, Bool.and_eq_false_iff, Bool.not_eq_true', Bool.not_eq_false', decide_eq_true_eq, decide_eq_false_iff_not] at h22
            have hjk : j < k := by omega
            obtain ⟨w, hw⟩ : ∃ w, hats[j]? = some w := ⟨hats[j], by simp [show j < hats.length by omega]⟩
            have hwj := wrap1 hjk (by omega)
            have hj1 : j + 1 ≤ k := hjk
            have hmemw : w ∈ hats.take k := by
              have : (hats.take k)[j]? = some w := by rw [List.getElem?_take_of_lt hjk]; exact hw
              exact List.mem_of_getElem? this
            obtain ⟨n2, l2, i2, ⟨o2, t2, k2⟩⟩ := w
            clear hjk h22
            refine HT_seq <| HT_block <| HT_seq <| (HT_drun (by kernel_rfl) (by kernel_rfl) (by rfl) (by simp [*]; rfl) ?_)
            refine (HT_cond rfl (fun h24 => ?_) (fun h24 => HT_skip ?_))
            · try simp only [Bool.or_eq_true, Bool.and_eq_true, Bool.or_eq_false_iff, Bool.and_eq_false_iff, Bool.not_eq_true', Bool.not_eq_false', decide_eq_true_eq, decide_eq_false_iff_not] at h24
              have hany : ((hats.take k).any fun w => decide (w.name = nm)) = true := by
                rw [List.any_eq_true]
                exact ⟨_, hmemw, by simpa using h24⟩
              rw [if_pos hany] at hC
              subst hC
              rw [if_neg (by decide)] at hJ
              subst hJ
              rw [if_neg (by decide)] at hres
              subst hres
              refine HT_seq <| (HT_run (by simp [*]; rfl) ?_)
              exact (HT_retE (fun h => ⟨.inr rfl, h⟩) _ (by simp [*]; rfl) (by first | rfl | (simp [*]; done) | (simp only [resR]; (repeat' split) <;> first | rfl | (exfalso; omega) | simp_all)) (by simp))
            · try simp only [Bool.or_eq_true, Bool.and_eq_true, Bool.or_eq_false_iff, Bool.and_eq_false_iff, Bool.not_eq_true', Bool.not_eq_false', decide_eq_true_eq, decide_eq_false_iff_not] at h24
              refine (HT_run (by simp [*]; rfl) ?_)
              exact ⟨j + 1, ⟨hj1, fun i hi u hu => by
                rcases Nat.lt_or_eq_of_le (Nat.le_of_lt_succ hi) with h | h
                · exact hno i h u hu
                · subst h
                  rw [hw] at hu
                  cases hu
                  simpa using h24⟩, by omega, le_mk (fun n => n) [] rfl (by simp [upS, keepS, *]) (by simp [*, upS]) (by simp [upS])⟩
          · try simp only [Bool.or_eq_true, Bool.and_eq_true, Bool.or_eq_false_iff, Bool.and_eq_false_iff, Bool.not_eq_true', Bool.not_eq_false', decide_eq_true_eq, decide_eq_false_iff_not] at h22
            have hjk : j = k := by omega
            subst hjk
            have hany : ((hats.take j).any fun w => decide (w.name = nm)) = false := by
              rw [List.any_eq_false]
              intro w hw
              obtain ⟨i, hi⟩ := List.mem_iff_getElem?.1 hw
              have hij : i < j := by have := (List.getElem?_eq_some_iff.1 hi).1; omega
              rw [List.getElem?_take_of_lt hij] at hi
              simpa using hno i hij w hi
            rw [if_neg (by simp [hany])] at hC
            clear hno hkl hany
            refine (HT_exit ?_)
            refine HT_seq <| HT_seq <| (HT_runc [⟨true, .v (lb (boundedB lo hi)), none⟩] (by simp [*]; first | exact ⟨rfl, Iff.rfl⟩ | exact ⟨rfl, trivial⟩ | rfl) ?_ ?_)
            · first | exact boundedR_con _ _ _ | exact trivial | simpa [*] using boundedR_con _ _ _
            refine (HT_cond rfl (fun h30 => ?_) (fun h30 => HT_skip ?_))
            · try simp only [Bool.or_eq_true, Bool.and_eq_true, Bool.or_eq_false_iff, Bool.and_eq_false_iff, Bool.not_eq_true', Bool.not_eq_false', decide_eq_true_eq, decide_eq_false_iff_not] at h30
              rw [if_pos h30] at hC
              subst hC
              rw [if_neg (by decide)] at hJ
              subst hJ
              rw [if_neg (by decide)] at hres
              subst hres
              refine HT_seq <| (HT_run (by simp [*]; rfl) ?_)
              exact (HT_retE (fun h => ⟨.inr rfl, h⟩) _ (by simp [*]; rfl) (by first | rfl | (simp [*]; done) | (simp only [resR]; (repeat' split) <;> first | rfl | (exfalso; omega) | simp_all)) (by simp))
            · try simp only [Bool.or_eq_true, Bool.and_eq_true, Bool.or_eq_false_iff, Bool.and_eq_false_iff, Bool.not_eq_true', Bool.not_eq_false', decide_eq_true_eq, decide_eq_false_iff_not] at h30
              rw [if_neg (by simp [h30])] at hC
              subst hC
              clear h30
              refine HT_seq <| (HT_runc [⟨true, .v (li TC), none⟩] (by simp [*]; first | exact ⟨rfl, Iff.rfl⟩ | exact ⟨rfl, trivial⟩ | rfl) ?_ ?_)
              · first | exact ct _ | exact trivial | simpa [*] using ct _
              refine HT_seq <| (HT_run (by simp [*]; rfl) ?_)
              refine (HT_cond rfl (fun h35 => ?_) (fun h35 => HT_skip ?_))
              · try simp only [Bool.or_eq_true, Bool.and_eq_true, Bool.or_eq_false_iff, Bool.and_eq_false_iff, Bool.not_eq_true', Bool.not_eq_false', decide_eq_true_eq, decide_eq_false_iff_not] at h35
                rw [if_neg h35] at hJ
                subst hJ
                rw [if_neg h35] at hres
                subst hres
                refine HT_seq <| (HT_run (by simp [*]; rfl) ?_)
                exact (HT_retE (fun h => ⟨.inr rfl, h⟩) _ (by simp [*]; rfl) (by first | rfl | (simp [*]; done) | (simp only [resR]; (repeat' split) <;> first | rfl | (exfalso; omega) | simp_all)) (by simp))
              · try simp only [Bool.or_eq_true, Bool.and_eq_true, Bool.or_eq_false_iff, Bool.and_eq_false_iff, Bool.not_eq_true', Bool.not_eq_false', decide_eq_true_eq, decide_eq_false_iff_not] at h35
                rw [if_pos (by simpa using h35)] at hJ
                refine (HT_run (by simp [*]; rfl) ?_)
                exact ⟨j + 1, ⟨hk1, hJ⟩, by omega, le_mk (fun n => n) [] rfl (by simp [upS, keepS, *]) (by simp [*, upS]) (by simp [upS])⟩
      · try simp only [Bool.or_eq_true, Bool.and_eq_true, Bool.or_eq_false_iff, Bool.and_eq_false_iff, Bool.not_eq_true', Bool.not_eq_false', decide_eq_true_eq, decide_eq_false_iff_not] at h13
        have hkl : k = hats.length := by omega
        rw [hkl, List.drop_length] at hJ
        simp only [hcs] at hJ
        rw [if_pos hJ.symm] at hres
        clear hJ hkl hk h13 ct
        refine (HT_exit ?_)
        refine HT_seq <| (HT_runc [⟨true, .v (li SC), none⟩] (by simp [*]; first | exact ⟨rfl, Iff.rfl⟩ | exact ⟨rfl, trivial⟩ | rfl) ?_ ?_)
        · first | exact cst _ | exact trivial | simpa [*] using cst _
        refine HT_seq <| HT_seq <| (HT_run (by simp [*]; rfl) ?_)
        refine (HT_cond rfl (fun h42 => ?_) (fun h42 => HT_skip ?_))
        · try simp only [Bool.or_eq_true, Bool.and_eq_true, Bool.or_eq_false_iff, Bool.and_eq_false_iff, Bool.not_eq_true', Bool.not_eq_false', decide_eq_true_eq, decide_eq_false_iff_not] at h42
          rw [if_neg h42] at hres
          subst hres
          refine HT_seq <| (HT_run (by simp [*]; rfl) ?_)
          exact (HT_retE (fun h => ⟨.inr rfl, h⟩) _ (by simp [*]; rfl) (by first | rfl | (simp [*]; done) | (simp only [resR]; (repeat' split) <;> first | rfl | (exfalso; omega) | simp_all)) (by simp))
        · try simp only [Bool.or_eq_true, Bool.and_eq_true, Bool.or_eq_false_iff, Bool.and_eq_false_iff, Bool.not_eq_true', Bool.not_eq_false', decide_eq_true_eq, decide_eq_false_iff_not] at h42
          have hs0 : SC = 0 := by simpa using h42
          rw [if_pos hs0] at hres
          have hok := hok hs0
          have cup := cup hok
          obtain ⟨Y, hY⟩ : ∃ x, bdL CR body ⟨0, 0, 0⟩ = x := ⟨_, rfl⟩
          rw [hY] at hres cup
          obtain ⟨y1, y2, y3⟩ := Y
          simp only [Bool.or_eq_true, decide_eq_true_eq] at hres
          simp only at cup
          clear hY cst h42 hok
          refine HT_seq <| (HT_runc [⟨true, .tup [li y1, li y2, li y3], none⟩] (by simp [*]; first | exact ⟨rfl, Iff.rfl⟩ | exact ⟨rfl, trivial⟩ | rfl) ?_ ?_)
          · first | exact cup _ | exact trivial | simpa [*] using cup _
          refine HT_seq <| HT_seq <| (HT_run (by simp [*]; rfl) ?_)
          refine (HT_cond rfl (fun h47 => ?_) (fun h47 => HT_skip ?_))
          · try simp only [Bool.or_eq_true, Bool.and_eq_true, Bool.or_eq_false_iff, Bool.and_eq_false_iff, Bool.not_eq_true', Bool.not_eq_false', decide_eq_true_eq, decide_eq_false_iff_not] at h47
            rw [if_pos (by omega)] at hres
            subst hres
            refine HT_seq <| (HT_run (by simp [*]; rfl) ?_)
            exact (HT_retE (fun h => ⟨.inr rfl, h⟩) _ (by simp [*]; rfl) (by first | rfl | (simp [*]; done) | (simp only [resR]; (repeat' split) <;> first | rfl | (exfalso; omega) | simp_all)) (by simp))
          · try simp only [Bool.or_eq_true, Bool.and_eq_true, Bool.or_eq_false_iff, Bool.and_eq_false_iff, Bool.not_eq_true', Bool.not_eq_false', decide_eq_true_eq, decide_eq_false_iff_not] at h47
            rw [if_neg (by omega)] at hres
            subst hres
            refine HT_seq <| (HT_run (by simp [*]; rfl) ?_)
            exact (HT_retE (fun h => ⟨.inr rfl, h⟩) _ (by simp [*]; rfl) (by first | rfl | (simp [*]; done) | (simp only [resR]; (repeat' split) <;> first | rfl | (exfalso; omega) | simp_all)) (by simp))
end Go.Proofs.YtfilidjbpomgoaaGreat

namespace Go.Proofs.YtfilidjbpomgoaaGreat
open Go Go.Hl

mutual
def tL : Tm → Int → Int
  | .mk _ _ ks, left => tLs ks (left - 1)
def tLs : List Tm → Int → Int
  | [], left => left
  | t :: l, left => if 0 ≤ left then tLs l (tL t left) else left
end
def lo1 (x : Int) : Int := if x < 0 then x else -1
mutual
theorem tL_in : ∀ (t : Tm) (left : Int), lo1 (left - 1) ≤ tL t left ∧ tL t left ≤ left - 1
  | .mk _ _ ks, left => by
    simp only [tL]
    exact tLs_in ks (left - 1)
theorem tLs_in : ∀ (l : List Tm) (left : Int), lo1 left ≤ tLs l left ∧ tLs l left ≤ left
  | [], left => by
    simp only [tLs, lo1]
    split <;> omega
  | t :: l, left => by
    simp only [tLs]
    split
    · have h1 := tL_in t left
      have h2 := tLs_in l (tL t left)
      unfold lo1 at *
      refine ⟨?_, by omega⟩
      split
      · omega
      · refine Int.le_trans ?_ h2.1
        split <;> (try split at h1) <;> omega
    · unfold lo1
      split <;> omega
end
theorem tLs_neg (l : List Tm) (left : Int) (h : left < 0) : tLs l left = left := by
  cases l with
  | nil => rfl
  | cons t l => simp only [tLs]; rw [if_neg (by omega)]
mutual
theorem tL_pos : ∀ (t : Tm) (left : Int), 0 ≤ tL t left → tL t left = left - t.nodes
  | .mk _ _ ks, left => by
    simp only [tL, Tm.nodes]
    intro h
    have := tLs_pos ks (left - 1) h
    omega
theorem tLs_pos : ∀ (l : List Tm) (left : Int), 0 ≤ tLs l left → tLs l left = left - nodesT l
  | [], left => by simp [tLs, nodesT]
  | t :: l, left => by
    simp only [tLs, nodesT]
    split
    · intro h
      have h1 := tLs_pos l (tL t left) h
      have h2 := tLs_in l (tL t left)
      have h3 := tL_pos t left (by omega)
      omega
    · intro h; omega
end
def sL : List St → Int → Int
  | [], left => left
  | .mk _ _ _ _ t a b bs :: l, left =>
    if 0 ≤ left then (if tL t (left - 1) < bs.length then -1 else sL l (sL b (sL a (tL t (left - 1) - bs.length)))) else left
theorem sL_neg (l : List St) (left : Int) (h : left < 0) : sL l left = left := by
  cases l with
  | nil => simp [sL]
  | cons s l => obtain ⟨d, c, v, n, t, a, b, bs⟩ := s; simp only [sL]; rw [if_neg (by omega)]
theorem sL_in : ∀ (l : List St) (left : Int), lo1 left ≤ sL l left ∧ sL l left ≤ left
  | [], left => by
    simp only [sL, lo1]
    split <;> omega
  | .mk _ _ _ _ t a b bs :: l, left => by
    simp only [sL]
    by_cases h0 : 0 ≤ left
    · rw [if_pos h0]
      have e : lo1 left = -1 := by unfold lo1; rw [if_neg (by omega)]
      rw [e]
      split
      · omega
      · have h1 := tL_in t (left - 1)
        have ha := sL_in a (tL t (left - 1) - bs.length)
        have hb := sL_in b (sL a (tL t (left - 1) - bs.length))
        have hl := sL_in l (sL b (sL a (tL t (left - 1) - bs.length)))
        refine ⟨?_, by omega⟩
        generalize sL l (sL b (sL a (tL t (left - 1) - bs.length))) = z at *
        generalize sL b (sL a (tL t (left - 1) - bs.length)) = y at *
        generalize sL a (tL t (left - 1) - bs.length) = x at *
        generalize tL t (left - 1) = w at *
        unfold lo1 at ha hb hl
        (repeat' split at ha) <;> (repeat' split at hb) <;> (repeat' split at hl) <;> omega
    · rw [if_neg h0]
      unfold lo1
      split <;> omega
theorem sL_pos : ∀ (l : List St) (left : Int), left ≤ 1000000 → 0 ≤ sL l left → sL l left ≤ left - nodesS l ∧ bndL l = true
  | [], left, _, _ => by simp [sL, nodesS, bndL]
  | .mk _ _ _ _ t a b bs :: l, left, hle, h => by
    simp only [sL] at h ⊢
    by_cases h0 : 0 ≤ left
    · rw [if_pos h0] at h ⊢
      split at h
      · omega
      · rename_i hbs
        rw [if_neg hbs]
        have i0 := tL_in t (left - 1)
        have ia := sL_in a (tL t (left - 1) - bs.length)
        have ib := sL_in b (sL a (tL t (left - 1) - bs.length))
        have il := sL_in l (sL b (sL a (tL t (left - 1) - bs.length)))
        have p3 := sL_pos l (sL b (sL a (tL t (left - 1) - bs.length))) (by omega) h
        have p2 := sL_pos b (sL a (tL t (left - 1) - bs.length)) (by omega) (by omega)
        have p1 := sL_pos a (tL t (left - 1) - bs.length) (by omega) (by omega)
        have p0 := tL_pos t (left - 1) (by omega)
        simp only [nodesS, St.nodes, bndL, bndS, p1.2, p2.2, p3.2, Bool.and_true, decide_eq_true_eq]
        omega
    · rw [if_neg h0] at h
      omega
def hL : List Ht → Int → Int
  | [], m => m
  | h :: l, m => hL l (tL h.term m)
theorem hL_le : ∀ (l : List Ht) (m : Int), hL l m ≤ m
  | [], m => by simp [hL]
  | h :: l, m => by
    have h1 := hL_le l (tL h.term m)
    have h2 := tL_in h.term m
    simp only [hL]
    omega
theorem hL_pos : ∀ (l : List Ht) (m : Int), 0 ≤ hL l m → hL l m = m - nodesH l
  | [], m, _ => by simp [hL, nodesH]
  | h :: l, m, h0 => by
    simp only [hL, nodesH] at h0 ⊢
    have h1 := hL_pos l _ h0
    have h2 := hL_le l (tL h.term m)
    have h3 := tL_pos h.term m (by omega)
    omega
def fewB (f : Fl) (vars nodes : Int) : Bool := if vars < f.vars.length ∨ vars < f.hats.length then false else decide (0 ≤ hL f.hats (sL f.body nodes))
theorem fewB_in {f : Fl} {vars nodes : Int} (hn : nodes ≤ 1000000) (h : fewB f vars nodes = true) : f.vars.length ≤ vars ∧ f.hats.length ≤ vars ∧ nodesS f.body + nodesH f.hats ≤ nodes ∧ bndL f.body = true := by
  unfold fewB at h
  split at h
  · cases h
  · rename_i h1
    simp only [decide_eq_true_eq] at h
    have e1 := hL_pos _ _ h
    have e2 := hL_le f.hats (sL f.body nodes)
    have e3 := sL_pos f.body nodes hn (by omega)
    exact ⟨by omega, by omega, by omega, e3.2⟩

theorem tleft_con (t : Tm) : ∀ left : Int, -1000000 ≤ left → left ≤ 1000000 → ∀ d : Nat, Con Tryz.prog 26 true [aT t, li left] (.v (li (tL t left))) none d := by
  induction t using Tm.ind with
  | h o n ks ih =>
  intro left h1 h2 d
  obtain ⟨res, hres⟩ : ∃ r, tL (.mk o n ks) left = r := ⟨_, rfl⟩
  rw [hres]
  simp only [tL] at hres
  have hw0 : IntKind.i64.wrap (left - 1) = left - 1 := wrap_in (by omega) (by omega)
  refine con_of_HT Tryz.func26 rfl (by kernel_rfl) (Nat.le_of_ble_eq_true rfl) ?_
  simp only [Tryz.f26]
  simp only [aT, Tm.enc]
  refine HT_seq <| (HT_run (by simp [*]; rfl) ?_)
  refine HT_seq <| (HT_run (by simp [*]; rfl) ?_)
  refine HT_seq <| HT_seq <| (HT_run (by simp [*]; rfl) ?_)
  refine HT_block <| (HT_loopU [2] (fun (x : Nat × Int) => [(1, .v (li x.2)), (5, .v (li x.1))]) (fun (x : Nat × Int) => [(2, .box [.c (iC o), .c (iC n), .c (.sl 3 (encTs ks))])]) (fun (x : Nat × Int) => x.1 ≤ ks.length ∧ tLs (ks.drop x.1) x.2 = res ∧ -1000001 ≤ x.2 ∧ x.2 + x.1 ≤ 1000000) (fun (x : Nat × Int) => ks.length - x.1) (0, left - 1) ⟨Nat.zero_le _, by simpa using hres, by simp only; omega, by simp only; omega⟩ ?_ ?_)
  · exact le_mk (fun n => n) [] rfl (by simp [*, upS, keepS]) (by simp [*, upS]) (by simp [upS])
  rintro ⟨k, m⟩ ⟨hk, hJ, hm, hm2⟩
  simp only [upS, keepS, insS]
  try simp only [keepS, List.contains_cons, List.contains_nil, Bool.or_false, Bool.or_true, Bool.true_or, Bool.false_or, Nat.reduceBEq, BEq.rfl, beq_self_eq_true, if_true, if_false, Bool.false_eq_true, ite_true, ite_false, ins, Nat.reduceLT]
  simp only at hk hJ hm hm2
  refine HT_seq <| HT_seq <| (HT_run (by simp [*]; rfl) ?_)
  refine (HT_cond rfl (fun h5 => HT_skip ?_) (fun h5 => ?_))
  · try simp only [Bool.or_eq_true, Bool.and_eq_true, Bool.or_eq_false_iff, Bool.and_eq_false_iff, Bool.not_eq_true', Bool.not_eq_false', decide_eq_true_eq, decide_eq_false_iff_not] at h5
    have hlt : k < ks.length := by omega
    have hm0 : 0 ≤ m := by omega
    obtain ⟨⟨eo, en, ek⟩, he, hd⟩ := at_lt hlt
    have he' := get_encT he
    simp only [Tm.enc] at he'
    have hw1 : IntKind.i64.wrap ((k : Int) + 1) = (k : Int) + 1 := wrap_in (by omega) (by omega)
    rw [hd] at hJ
    simp only [tLs] at hJ
    rw [if_pos hm0] at hJ
    have hk1 : k + 1 ≤ ks.length := hlt
    have c := ih _ (List.mem_of_getElem? he) m (by omega) (by omega)
    have hti := tL_in (.mk eo en ek) m
    have hlo : -1 ≤ lo1 (m - 1) := by unfold lo1; split <;> omega
    obtain ⟨M, hM⟩ : ∃ x, tL (.mk eo en ek) m = x := ⟨_, rfl⟩
    rw [hM] at c hJ hti
    clear hlt h5 hM ih hd
    refine HT_seq <| HT_block <| (HT_runc [⟨true, .v (li M), none⟩] (by simp [*]; first | exact ⟨rfl, Iff.rfl⟩ | exact ⟨rfl, trivial⟩ | rfl) ?_ ?_)
    · first | exact c _ | exact trivial | simpa [*] using c _
    refine (HT_run (by simp [*]; rfl) ?_)
    exact ⟨(k + 1, M), ⟨hk1, hJ, by simp only; omega, by simp only; omega⟩, by simp only; omega, le_mk (fun n => n) [] rfl (by simp [upS, keepS, *]) (by simp [*, upS]) (by simp [upS])⟩
  · try simp only [Bool.or_eq_true, Bool.and_eq_true, Bool.or_eq_false_iff, Bool.and_eq_false_iff, Bool.not_eq_true', Bool.not_eq_false', decide_eq_true_eq, decide_eq_false_iff_not] at h5
    have hz : tLs (ks.drop k) m = m := by
      by_cases hm0 : m < 0
      · exact tLs_neg _ _ hm0
      · have hkl : k = ks.length := by omega
        rw [hkl, List.drop_length]
        rfl
    rw [hz] at hJ
    subst hJ
    refine (HT_exit ?_)
    refine HT_seq <| (HT_run (by simp [*]; rfl) ?_)
    exact (HT_retE (fun h => ⟨.inr rfl, h⟩) _ (by simp [*]; rfl) (by first | rfl | (simp [*]; done) | (simp only [resR]; (repeat' split) <;> first | rfl | (exfalso; omega) | simp_all)) (by simp))
theorem sleft_con (l : List St) : ∀ left : Int, -1000000 ≤ left → left ≤ 1000000 → ∀ d : Nat, Con Tryz.prog 25 true [lS l, li left] (.v (li (sL l left))) none d := by
  revert l
  apply St.lists
  intro l ih left h1 h2 d
  obtain ⟨res, hres⟩ : ∃ r, sL l left = r := ⟨_, rfl⟩
  rw [hres]
  refine con_of_HT Tryz.func25 rfl (by kernel_rfl) (Nat.le_of_ble_eq_true rfl) ?_
  simp only [Tryz.f25]
  refine HT_seq <| (HT_run (by simp [*]; rfl) ?_)
  refine HT_seq <| HT_seq <| (HT_run (by simp [*]; rfl) ?_)
  refine HT_block <| (HT_loopU [0] (fun (x : Nat × Int) => [(1, .v (li x.2)), (5, .v (li x.1))]) (fun (x : Nat × Int) => []) (fun (x : Nat × Int) => x.1 ≤ l.length ∧ sL (l.drop x.1) x.2 = res ∧ -1000001 ≤ x.2 ∧ x.2 + x.1 ≤ 1000000) (fun (x : Nat × Int) => l.length - x.1) (0, left) ⟨Nat.zero_le _, hres, by simp only; omega, by simp only; omega⟩ ?_ ?_)
  · exact le_mk (fun n => n) [] rfl (by simp [*, upS, keepS]) (by simp [*, upS]) (by simp [upS])
  rintro ⟨k, m⟩ ⟨hk, hJ, hm, hm2⟩
  simp only [upS, keepS, insS]
  try simp only [keepS, List.contains_cons, List.contains_nil, Bool.or_false, Bool.or_true, Bool.true_or, Bool.false_or, Nat.reduceBEq, BEq.rfl, beq_self_eq_true, if_true, if_false, Bool.false_eq_true, ite_true, ite_false, ins, Nat.reduceLT]
  simp only at hk hJ hm hm2
  clear hres
  refine HT_seq <| HT_seq <| (HT_run (by simp [*]; rfl) ?_)
  refine (HT_cond rfl (fun h4 => HT_skip ?_) (fun h4 => ?_))
  · try simp only [Bool.or_eq_true, Bool.and_eq_true, Bool.or_eq_false_iff, Bool.and_eq_false_iff, Bool.not_eq_true', Bool.not_eq_false', decide_eq_true_eq, decide_eq_false_iff_not] at h4
    have hlt : k < l.length := by omega
    have hm0 : 0 ≤ m := by omega
    obtain ⟨s, he, hd⟩ := at_lt hlt
    have hmem : s ∈ l := List.mem_of_getElem? he
    have iha := (ih s hmem).1
    have ihb := (ih s hmem).2
    have hw1 : IntKind.i64.wrap ((k : Int) + 1) = (k : Int) + 1 := wrap_in (by omega) (by omega)
    have hk1 : k + 1 ≤ l.length := hlt
    have he' := get_encS he
    obtain ⟨sd, sc, sv, sn, ⟨so, stn, sks⟩, sa, sb, sbs⟩ := s
    simp only [St.then_, St.else_] at iha ihb
    simp only [St.enc, Tm.enc, List.cons_append, List.nil_append] at he'
    rw [hd] at hJ
    simp only [sL] at hJ
    rw [if_pos hm0] at hJ
    have hw2 : IntKind.i64.wrap (m - 1) = m - 1 := wrap_in (by omega) (by omega)
    have c := tleft_con (.mk so stn sks) (m - 1) (by omega) (by omega)
    have hti := tL_in (.mk so stn sks) (m - 1)
    have hlo : -2 ≤ lo1 (m - 1 - 1) := by unfold lo1; split <;> omega
    obtain ⟨M, hM⟩ : ∃ x, tL (.mk so stn sks) (m - 1) = x := ⟨_, rfl⟩
    rw [hM] at c hJ hti
    simp only [aT, Tm.enc, List.map_cons, List.map_nil] at c
    clear hlt h4 hM ih hd hmem
    refine HT_seq <| HT_block <| HT_seq <| (HT_runc [⟨true, .v (li M), none⟩] (by simp [*]; first | exact ⟨rfl, Iff.rfl⟩ | exact ⟨rfl, trivial⟩ | rfl) ?_ ?_)
    · first | exact c _ | exact trivial | simpa [*] using c _
    refine HT_seq <| HT_seq <| (HT_run (by simp [*]; rfl) ?_)
    refine (HT_cond rfl (fun h7 => ?_) (fun h7 => HT_skip ?_))
    · try simp only [Bool.or_eq_true, Bool.and_eq_true, Bool.or_eq_false_iff, Bool.and_eq_false_iff, Bool.not_eq_true', Bool.not_eq_false', decide_eq_true_eq, decide_eq_false_iff_not] at h7
      rw [if_pos h7] at hJ
      subst hJ
      refine HT_seq <| (HT_run (by simp [*]; rfl) ?_)
      exact (HT_retE (fun h => ⟨.inr rfl, h⟩) _ (by simp [*]; rfl) (by first | rfl | (simp [*]; done) | (simp only [resR]; (repeat' split) <;> first | rfl | (exfalso; omega) | simp_all)) (by simp))
    · try simp only [Bool.or_eq_true, Bool.and_eq_true, Bool.or_eq_false_iff, Bool.and_eq_false_iff, Bool.not_eq_true', Bool.not_eq_false', decide_eq_true_eq, decide_eq_false_iff_not] at h7
      rw [if_neg (by omega)] at hJ
      have hw3 : IntKind.i64.wrap (M - (sbs.length : Int)) = M - (sbs.length : Int) := wrap_in (by omega) (by omega)
      have c1 := iha (M - sbs.length) (by omega) (by omega)
      have s1 := sL_in sa (M - sbs.length)
      have hl1 : -1 ≤ lo1 (M - sbs.length) := by unfold lo1; split <;> omega
      obtain ⟨M1, hM1⟩ : ∃ x, sL sa (M - sbs.length) = x := ⟨_, rfl⟩
      rw [hM1] at c1 s1 hJ
      have c2 := ihb M1 (by omega) (by omega)
      have s2 := sL_in sb M1
      have hl2 : -1 ≤ lo1 M1 := by unfold lo1; split <;> omega
      obtain ⟨M2, hM2⟩ : ∃ x, sL sb M1 = x := ⟨_, rfl⟩
      rw [hM2] at c2 s2 hJ
      clear iha ihb hM1 hM2 h7 c
      refine (HT_drunc [⟨true, .v (li M1), none⟩, ⟨true, .v (li M2), none⟩] (by kernel_rfl) (by kernel_rfl) (by rfl) (by simp [*]; first | exact ⟨rfl, Iff.rfl⟩ | exact ⟨rfl, trivial⟩ | rfl) ?_ ?_)
      · first | exact ⟨c1 _, c2 _⟩ | exact trivial | (repeat' first | exact trivial | exact c1 _ | exact c2 _ | apply And.intro)
      refine (HT_run (by simp [*]; rfl) ?_)
      exact ⟨(k + 1, M2), ⟨hk1, hJ, by simp only; omega, by simp only; omega⟩, by simp only; omega, le_mk (fun n => n) [] rfl (by simp [upS, keepS, *]) (by simp [*, upS]) (by simp [upS])⟩
  · try simp only [Bool.or_eq_true, Bool.and_eq_true, Bool.or_eq_false_iff, Bool.and_eq_false_iff, Bool.not_eq_true', Bool.not_eq_false', decide_eq_true_eq, decide_eq_false_iff_not] at h4
    have hz : sL (l.drop k) m = m := by
      by_cases hm0 : m < 0
      · exact sL_neg _ _ hm0
      · have hkl : k = l.length := by omega
        rw [hkl, List.drop_length]
        simp [sL]
    rw [hz] at hJ
    subst hJ
    refine (HT_exit ?_)
    refine HT_seq <| (HT_run (by simp [*]; rfl) ?_)
    exact (HT_retE (fun h => ⟨.inr rfl, h⟩) _ (by simp [*]; rfl) (by first | rfl | (simp [*]; done) | (simp only [resR]; (repeat' split) <;> first | rfl | (exfalso; omega) | simp_all)) (by simp))
theorem few_con (f : Fl) (vars nodes : Int) (hv : 0 ≤ vars ∧ vars ≤ 1000) (hn : 0 ≤ nodes ∧ nodes ≤ 1000) (d : Nat) : Con Tryz.prog 7 true [aF f, li vars, li nodes] (.v (lb (fewB f vars nodes))) none d := by
  obtain ⟨vs, hats, body⟩ := f
  obtain ⟨res, hres⟩ : ∃ r, fewB ⟨vs, hats, body⟩ vars nodes = r := ⟨_, rfl⟩
  rw [hres]
  unfold fewB at hres
  simp only at hres
  have cs := sleft_con body nodes (by omega) (by omega)
  have hsi := sL_in body nodes
  have hlo : -2 ≤ lo1 nodes := by unfold lo1; split <;> omega
  obtain ⟨S, hS⟩ : ∃ x, sL body nodes = x := ⟨_, rfl⟩
  rw [hS] at hres cs hsi
  clear hS
  refine con_of_HT Tryz.func7 rfl (by kernel_rfl) (Nat.le_of_ble_eq_true rfl) ?_
  simp only [Tryz.f7]
  simp only [aF, Fl.enc, List.map_cons, List.map_nil]
  refine HT_seq <| (HT_run (by simp [*]; rfl) ?_)
  refine HT_seq <| HT_seq <| (HT_run (by simp [*]; rfl) ?_)
  refine (HT_cond rfl (fun h2 => ?_) (fun h2 => HT_skip ?_))
  · try simp only [Bool.or_eq_true, Bool.and_eq_true, Bool.or_eq_false_iff, Bool.and_eq_false_iff, Bool.not_eq_true', Bool.not_eq_false', decide_eq_true_eq, decide_eq_false_iff_not] at h2
    rw [if_pos (by omega)] at hres
    subst hres
    refine HT_seq <| (HT_run (by simp [*]; rfl) ?_)
    exact (HT_retE (fun h => ⟨.inr rfl, h⟩) _ (by simp [*]; rfl) (by first | rfl | (simp [*]; done) | (simp only [resR]; (repeat' split) <;> first | rfl | (exfalso; omega) | simp_all)) (by simp))
  · try simp only [Bool.or_eq_true, Bool.and_eq_true, Bool.or_eq_false_iff, Bool.and_eq_false_iff, Bool.not_eq_true', Bool.not_eq_false', decide_eq_true_eq, decide_eq_false_iff_not] at h2
    rw [if_neg (by omega)] at hres
    obtain ⟨E, hE⟩ : ∃ x, hL hats S = x := ⟨_, rfl⟩
    rw [hE] at hres
    refine HT_seq <| (HT_runc [⟨true, .v (li S), none⟩] (by simp [*]; first | exact ⟨rfl, Iff.rfl⟩ | exact ⟨rfl, trivial⟩ | rfl) ?_ ?_)
    · first | exact cs _ | exact trivial | simpa [*] using cs _
    refine HT_seq <| HT_seq <| (HT_run (by simp [*]; rfl) ?_)
    refine HT_block <| (HT_loopU [27, 28] (fun (x : Nat × Int) => [(7, .v (li x.2)), (29, .v (li x.1))]) (fun (x : Nat × Int) => []) (fun (x : Nat × Int) => x.1 ≤ hats.length ∧ hL (hats.drop x.1) x.2 = E ∧ -2 - (x.1 : Int) ≤ x.2 ∧ x.2 ≤ 1000) (fun (x : Nat × Int) => hats.length - x.1) (0, S) ⟨Nat.zero_le _, hE, by simp only; omega, by simp only; omega⟩ ?_ ?_)
    · exact le_mk (fun n => n) [] rfl (by simp [*, upS, keepS]) (by simp [*, upS]) (by simp [upS])
    rintro ⟨k, m⟩ ⟨hk, hJ, hm, hm2⟩
    simp only [upS, keepS, insS]
    try simp only [keepS, List.contains_cons, List.contains_nil, Bool.or_false, Bool.or_true, Bool.true_or, Bool.false_or, Nat.reduceBEq, BEq.rfl, beq_self_eq_true, if_true, if_false, Bool.false_eq_true, ite_true, ite_false, ins, Nat.reduceLT]
    simp only at hk hJ hm hm2
    clear hE
    refine HT_seq <| (HT_run (by simp [*]; rfl) ?_)
    refine HT_seq <| (HT_cond rfl (fun h9 => HT_skip ?_) (fun h9 => ?_))
    · try simp only [Bool.or_eq_true, Bool.and_eq_true, Bool.or_eq_false_iff, Bool.and_eq_false_iff, Bool.not_eq_true', Bool.not_eq_false', decide_eq_true_eq, decide_eq_false_iff_not] at h9
      have hlt : k < hats.length := by omega
      obtain ⟨h, he, hd⟩ := at_lt hlt
      have hw1 : IntKind.i64.wrap ((k : Int) + 1) = (k : Int) + 1 := wrap_in (by omega) (by omega)
      have hk1 : k + 1 ≤ hats.length := hlt
      have c := tleft_con h.term m (by omega) (by omega)
      have hti := tL_in h.term m
      have hl1 : -3 - (k : Int) ≤ lo1 (m - 1) := by unfold lo1; split <;> omega
      rw [hd] at hJ
      simp only [hL] at hJ
      obtain ⟨nm, lo, hi, ⟨o, tn, ks⟩⟩ := h
      simp only at c hti hJ
      obtain ⟨M, hM⟩ : ∃ x, tL (.mk o tn ks) m = x := ⟨_, rfl⟩
      rw [hM] at c hJ hti
      simp only [aT, Tm.enc, List.map_cons, List.map_nil] at c
      clear hlt h9 hM hd
      refine HT_seq <| HT_block <| HT_seq <| (HT_run (by simp [*]; rfl) ?_)
      refine (HT_runc [⟨true, .v (li M), none⟩] (by simp [*]; first | exact ⟨rfl, Iff.rfl⟩ | exact ⟨rfl, trivial⟩ | rfl) ?_ ?_)
      · first | exact c _ | exact trivial | simpa [*] using c _
      refine (HT_run (by simp [*]; rfl) ?_)
      exact ⟨(k + 1, M), ⟨hk1, hJ, by simp only; omega, by simp only; omega⟩, by simp only; omega, le_mk (fun n => n) [] rfl (by simp [upS, keepS, *]) (by simp [*, upS]) (by simp [upS])⟩
    · try simp only [Bool.or_eq_true, Bool.and_eq_true, Bool.or_eq_false_iff, Bool.and_eq_false_iff, Bool.not_eq_true', Bool.not_eq_false', decide_eq_true_eq, decide_eq_false_iff_not] at h9
      have hkl : k = hats.length := by omega
      rw [hkl, List.drop_length] at hJ
      simp only [hL] at hJ
      subst hJ
      subst hres
      refine (HT_exit ?_)
      refine HT_seq <| (HT_run (by simp [*]; rfl) ?_)
      exact (HT_retE (fun h => ⟨.inr rfl, h⟩) _ (by simp [*]; rfl) (by first | rfl | (simp [*]; done) | (simp only [resR]; (repeat' split) <;> first | rfl | (exfalso; omega) | simp_all)) (by simp))
end Go.Proofs.YtfilidjbpomgoaaGreat
