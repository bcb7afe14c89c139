/- Part 12: contracts of functions of the program and of the reference, and plain facts about what they compute; used by the proof of the claimed statement. Conditions: as each theorem states. -/
import Derived.Test.YteekbhkjfaegiaaGreatT11
import Derived.Test.YteekbhkjfaegiaaGreatT9
import Derived.Test.YteekbhkjfaegiaaGreatT6
set_option linter.unusedSimpArgs false
set_option linter.unusedVariables false
set_option linter.unnecessarySimpa false
set_option maxRecDepth 100000
set_option maxHeartbeats 2000000
namespace Go.Proofs.YteekbhkjfaegiaaGreat
open Go Go.Hl

theorem checkR_con (f : Fl) (hv : f.vars.length ≤ 1000000) (hh : f.hats.length ≤ 1000000) (hn : nodesS f.body + nodesH f.hats ≤ 900000000) (hb : bndL f.body = true) (d : Nat) :
    Con Tryz.prog 23 true [aF f] (.v (li (codeC f))) none d := by
  obtain ⟨res, hres⟩ : ∃ r, codeC f = r := ⟨_, rfl⟩
  rw [hres]
  have csz := sizes_con f hv hh hn
  have cvars := varsR_con f.vars hv
  have ct := fun (hg : goodV f.vars) (h : Ht) (hm : h ∈ f.hats) => termR_con f.vars true hg (by omega) h.term (by have := nodesH_mem hm; omega)
  have cst := fun hg => stepsR_con f hg hv f.body (by omega) hb
  have cup := fun ho => boundsR_con f.body (by omega) ho
  have hgood : varsC f.vars = 0 → goodV f.vars := varsC_good
  have hok : ssC f.vars f.hats.length f.body true = 0 → okL f.body = true := ssC_ok _ _
  unfold codeC overL at hres
  obtain ⟨SZ, hSZ⟩ : ∃ x, sizesB f = x := ⟨_, rfl⟩
  rw [hSZ] at csz hres
  obtain ⟨vars, hats, body⟩ := f
  simp only at hv hh hn hb hres csz cvars ct cst cup hgood hok
  obtain ⟨VC, hVC⟩ : ∃ x, varsC vars = x := ⟨_, rfl⟩
  obtain ⟨HC, hHC⟩ : ∃ x, hcs vars [] hats = x := ⟨_, rfl⟩
  obtain ⟨SC, hSC⟩ : ∃ x, ssC vars hats.length body true = x := ⟨_, rfl⟩
  rw [hVC] at cvars hres hgood
  rw [hHC] at hres
  rw [hSC] at hres hok
  have cst := fun hg => cst hg true
  rw [hSC] at cst
  clear hVC hSC hSZ
  refine con_of_HT Tryz.func23 rfl (by kernel_rfl) (Nat.le_of_ble_eq_true rfl) ?_
  simp only [Tryz.f23]
  simp only [aF, Fl.enc, List.map_cons, List.map_nil] at csz cst ⊢
  refine HT_seq <| HT_runA ?_
  refine HT_seq <| HT_seq <| (HT_runc [⟨true, .v (lb SZ), none⟩] (by simp [*]; first | exact ⟨rfl, Iff.rfl⟩ | exact ⟨rfl, trivial⟩ | rfl) ?_ ?_)
  · first | exact csz _ | exact trivial | simpa [*] using csz _
  refine (HT_cond rfl (fun h2 => ?_) (fun h2 => HT_skip ?_))
  · try simp only [BN] at h2
    have hz : SZ = false := by simpa using h2
    rw [if_pos hz] at hres
    subst hres
    refine HT_seq <| HT_runA ?_
    exact HT_retA fun h => ⟨.inr rfl, h⟩
  · try simp only [BN] at h2
    have hz : SZ = true := by simpa using h2
    rw [if_neg (by rw [hz]; decide)] at hres
    clear csz h2
    subst hz
    refine HT_seq <| (HT_runc [⟨true, .v (li VC), none⟩] (by simp [*]; first | exact ⟨rfl, Iff.rfl⟩ | exact ⟨rfl, trivial⟩ | rfl) ?_ ?_)
    · first | exact cvars _ | exact trivial | simpa [*] using cvars _
    refine HT_seq <| HT_seq <| HT_runA ?_
    refine (HT_cond rfl (fun h7 => ?_) (fun h7 => HT_skip ?_))
    · try simp only [BN] at h7
      rw [if_neg h7] at hres
      subst hres
      refine HT_seq <| HT_runA ?_
      exact HT_retA fun h => ⟨.inr rfl, h⟩
    · try simp only [BN] at h7
      have hv0 : VC = 0 := by simpa using h7
      have hg := hgood hv0
      have ct := ct hg
      have cst := cst hg
      rw [if_pos hv0] at hres
      clear cvars hgood h7
      subst hv0
      refine HT_seq <| HT_seq <| HT_runA ?_
      refine HT_block <| (HT_loopU [1] (fun (x : Nat) => [(4, .v (li x))]) (fun (x : Nat) => [(1, .box [.c (.sl 5 (encVs vars)), .c (.sl 6 (encHs hats)), .c (.sl 10 (encSs body))])]) (fun (x : Nat) => x ≤ hats.length ∧ hcs vars (hats.take x) (hats.drop x) = HC) (fun (x : Nat) => hats.length - x) (0 : Nat) ⟨Nat.zero_le _, hHC⟩ ?_ ?_)
      · exact le_mk (fun n => n) [] rfl (by simp [*, upS, keepS]) (by simp [*, upS]) (by simp [upS])
      rintro k ⟨hk, hJ⟩
      simp only [upS, keepS, insS]
      try simp only [keepS, KN, Nat.reduceBEq, if_true, if_false, ins, Nat.reduceLT]
      clear hHC
      refine HT_seq <| HT_seq <| HT_runA ?_
      refine (HT_cond rfl (fun h13 => HT_skip ?_) (fun h13 => ?_))
      · try simp only [BN] at h13
        have hlt : k < hats.length := by omega
        obtain ⟨h, he, hd⟩ := at_lt hlt
        have hw1 := wrap1 hlt (by omega)
        have hk1 : k + 1 ≤ hats.length := hlt
        have hkl : (hats.take k).length = k := by rw [List.length_take]; omega
        rw [hd] at hJ
        simp only [hcs] at hJ
        rw [← take_snoc he] at hJ
        have ct := ct h (List.mem_of_getElem? he)
        obtain ⟨nm, lo, hi, ⟨o, tn, ks⟩⟩ := h
        obtain ⟨C, hC⟩ : ∃ x, hcode vars (hats.take k) ⟨nm, lo, hi, .mk o tn ks⟩ = x := ⟨_, rfl⟩
        rw [hC] at hJ
        simp only [hcode] at hC
        simp only [aT, Tm.enc, List.map_cons, List.map_nil] at ct
        obtain ⟨TC, hTC⟩ : ∃ x, termC vars true (.mk o tn ks) = x := ⟨_, rfl⟩
        rw [hTC] at ct hC
        clear hlt h13 hd cup hok cst hTC
        refine HT_seq <| HT_block <| HT_seq <| HT_runA ?_
        refine HT_seq <| HT_seq <| (HT_runc [⟨true, .v (lb (nameB nm)), none⟩] (by simp [*]; first | exact ⟨rfl, Iff.rfl⟩ | exact ⟨rfl, trivial⟩ | rfl) ?_ ?_)
        · first | exact nameR_con _ _ | exact trivial | simpa [*] using nameR_con _ _
        refine (HT_cond rfl (fun h16 => ?_) (fun h16 => HT_skip ?_))
        · try simp only [BN] at h16
          rw [if_pos h16] at hC
          subst hC
          rw [if_neg (by decide)] at hJ
          subst hJ
          rw [if_neg (by decide)] at hres
          subst hres
          refine HT_seq <| HT_runA ?_
          exact HT_retA fun h => ⟨.inr rfl, h⟩
        · try simp only [BN] at h16
          rw [if_neg (by simp [h16])] at hC
          clear h16
          refine HT_seq <| HT_seq <| HT_runA ?_
          refine HT_block <| (HT_loopU [1, 4, 5] (fun (x : Nat) => [(6, .v (li x))]) (fun (x : Nat) => [(1, .box [.c (.sl 5 (encVs vars)), .c (.sl 6 (encHs hats)), .c (.sl 10 (encSs body))]), (5, .box [.c (sC nm), .c (iC lo), .c (iC hi), .c (iC o), .c (iC tn), .c (.sl 3 (encTs ks))])]) (fun (x : Nat) => x ≤ k ∧ ∀ j : Nat, j < x → ∀ w, hats[j]? = some w → w.name ≠ nm) (fun (x : Nat) => k - x) (0 : Nat) ⟨Nat.zero_le _, fun j hj => absurd hj (Nat.not_lt_zero j)⟩ ?_ ?_)
          · exact le_mk (fun n => n) [] rfl (by simp [*, upS, keepS]) (by simp [*, upS]) (by simp [upS])
          rintro j ⟨hj, hno⟩
          simp only [upS, keepS, insS]
          try simp only [keepS, KN, Nat.reduceBEq, if_true, if_false, ins, Nat.reduceLT]
          refine HT_seq <| HT_seq <| HT_runA ?_
          refine (HT_cond rfl (fun h22 => HT_skip ?_) (fun h22 => ?_))
          · try simp only [BN] at h22
            have hjk : j < k := by omega
            obtain ⟨w, hw⟩ : ∃ w, hats[j]? = some w := ⟨hats[j], by simp [show j < hats.length by omega]⟩
            have hwj := wrap1 hjk (by omega)
            have hj1 : j + 1 ≤ k := hjk
            have hmemw : w ∈ hats.take k := by
              have : (hats.take k)[j]? = some w := by rw [List.getElem?_take_of_lt hjk]; exact hw
              exact List.mem_of_getElem? this
            obtain ⟨n2, l2, i2, ⟨o2, t2, k2⟩⟩ := w
            clear hjk h22
            refine HT_seq <| HT_block <| HT_seq <| (HT_drun (by kernel_rfl) (by kernel_rfl) (by rfl) (by simp [*]; rfl) ?_)
            refine (HT_cond rfl (fun h24 => ?_) (fun h24 => HT_skip ?_))
            · try simp only [BN] at h24
              have hany : ((hats.take k).any fun w => decide (w.name = nm)) = true := by
                rw [List.any_eq_true]
                exact ⟨_, hmemw, by simpa using h24⟩
              rw [if_pos hany] at hC
              subst hC
              rw [if_neg (by decide)] at hJ
              subst hJ
              rw [if_neg (by decide)] at hres
              subst hres
              refine HT_seq <| HT_runA ?_
              exact HT_retA fun h => ⟨.inr rfl, h⟩
            · try simp only [BN] at h24
              refine HT_runA ?_
              exact ⟨j + 1, ⟨hj1, fun i hi u hu => by
                rcases Nat.lt_or_eq_of_le (Nat.le_of_lt_succ hi) with h | h
                · exact hno i h u hu
                · subst h
                  rw [hw] at hu
                  cases hu
                  simpa using h24⟩, by omega, le_mk (fun n => n) [] rfl (by simp [upS, keepS, *]) (by simp [*, upS]) (by simp [upS])⟩
          · try simp only [BN] at h22
            have hjk : j = k := by omega
            subst hjk
            have hany : ((hats.take j).any fun w => decide (w.name = nm)) = false := by
              rw [List.any_eq_false]
              intro w hw
              obtain ⟨i, hi⟩ := List.mem_iff_getElem?.1 hw
              have hij : i < j := by have := (List.getElem?_eq_some_iff.1 hi).1; omega
              rw [List.getElem?_take_of_lt hij] at hi
              simpa using hno i hij w hi
            rw [if_neg (by simp [hany])] at hC
            clear hno hkl hany
            refine (HT_exit ?_)
            refine HT_seq <| HT_seq <| (HT_runc [⟨true, .v (lb (boundedB lo hi)), none⟩] (by simp [*]; first | exact ⟨rfl, Iff.rfl⟩ | exact ⟨rfl, trivial⟩ | rfl) ?_ ?_)
            · first | exact boundedR_con _ _ _ | exact trivial | simpa [*] using boundedR_con _ _ _
            refine (HT_cond rfl (fun h30 => ?_) (fun h30 => HT_skip ?_))
            · try simp only [BN] at h30
              rw [if_pos h30] at hC
              subst hC
              rw [if_neg (by decide)] at hJ
              subst hJ
              rw [if_neg (by decide)] at hres
              subst hres
              refine HT_seq <| HT_runA ?_
              exact HT_retA fun h => ⟨.inr rfl, h⟩
            · try simp only [BN] at h30
              rw [if_neg (by simp [h30])] at hC
              subst hC
              clear h30
              refine HT_seq <| (HT_runc [⟨true, .v (li TC), none⟩] (by simp [*]; first | exact ⟨rfl, Iff.rfl⟩ | exact ⟨rfl, trivial⟩ | rfl) ?_ ?_)
              · first | exact ct _ | exact trivial | simpa [*] using ct _
              refine HT_seq <| HT_runA ?_
              refine (HT_cond rfl (fun h35 => ?_) (fun h35 => HT_skip ?_))
              · try simp only [BN] at h35
                rw [if_neg h35] at hJ
                subst hJ
                rw [if_neg h35] at hres
                subst hres
                refine HT_seq <| HT_runA ?_
                exact HT_retA fun h => ⟨.inr rfl, h⟩
              · try simp only [BN] at h35
                rw [if_pos (by simpa using h35)] at hJ
                refine HT_runA ?_
                exact ⟨j + 1, ⟨hk1, hJ⟩, by omega, le_mk (fun n => n) [] rfl (by simp [upS, keepS, *]) (by simp [*, upS]) (by simp [upS])⟩
      · try simp only [BN] at h13
        have hkl : k = hats.length := by omega
        rw [hkl, List.drop_length] at hJ
        simp only [hcs] at hJ
        rw [if_pos hJ.symm] at hres
        clear hJ hkl hk h13 ct
        refine (HT_exit ?_)
        refine HT_seq <| (HT_runc [⟨true, .v (li SC), none⟩] (by simp [*]; first | exact ⟨rfl, Iff.rfl⟩ | exact ⟨rfl, trivial⟩ | rfl) ?_ ?_)
        · first | exact cst _ | exact trivial | simpa [*] using cst _
        refine HT_seq <| HT_seq <| HT_runA ?_
        refine (HT_cond rfl (fun h42 => ?_) (fun h42 => HT_skip ?_))
        · try simp only [BN] at h42
          rw [if_neg h42] at hres
          subst hres
          refine HT_seq <| HT_runA ?_
          exact HT_retA fun h => ⟨.inr rfl, h⟩
        · try simp only [BN] at h42
          have hs0 : SC = 0 := by simpa using h42
          rw [if_pos hs0] at hres
          have hok := hok hs0
          have cup := cup hok
          obtain ⟨Y, hY⟩ : ∃ x, bdL CR body ⟨0, 0, 0⟩ = x := ⟨_, rfl⟩
          rw [hY] at hres cup
          obtain ⟨y1, y2, y3⟩ := Y
          simp only [Bool.or_eq_true, decide_eq_true_eq] at hres
          simp only at cup
          clear hY cst h42 hok
          refine HT_seq <| (HT_runc [⟨true, .tup [li y1, li y2, li y3], none⟩] (by simp [*]; first | exact ⟨rfl, Iff.rfl⟩ | exact ⟨rfl, trivial⟩ | rfl) ?_ ?_)
          · first | exact cup _ | exact trivial | simpa [*] using cup _
          refine HT_seq <| HT_seq <| HT_runA ?_
          refine (HT_cond rfl (fun h47 => ?_) (fun h47 => HT_skip ?_))
          · try simp only [BN] at h47
            rw [if_pos (by omega)] at hres
            subst hres
            refine HT_seq <| HT_runA ?_
            exact HT_retA fun h => ⟨.inr rfl, h⟩
          · try simp only [BN] at h47
            rw [if_neg (by omega)] at hres
            subst hres
            refine HT_seq <| HT_runA ?_
            exact HT_retA fun h => ⟨.inr rfl, h⟩
end Go.Proofs.YteekbhkjfaegiaaGreat

namespace Go.Proofs.YteekbhkjfaegiaaGreat
open Go Go.Hl

theorem con_arg {P : Program} {f : FuncId} {fresh : Bool} {r : RV} {ob : Option Ob} {d n : Nat} {args : List TV} {xs ys : List CV} (h : Con P f fresh (args.set n (.agg ys)) r ob d) (hx : args[n]? = some (.agg xs)) (hw : LWk xs ys) : Con P f fresh args r ob d := by
  refine ⟨h.1, fun F w vs hF hsz hargs => h.2 F w vs hF (by simpa using hsz) fun j t u ht hu => ?_⟩
  rw [List.getElem?_set] at ht
  split at ht
  · rename_i e
    subst e
    split at ht
    · cases ht
      obtain ⟨ws, rfl, hc⟩ := hargs n _ u hx hu
      exact ⟨ws, rfl, hw.rel hc⟩
    · cases ht
  · exact hargs j t u ht hu
theorem stL_len (i : Inp) : ∀ (l : List Vr) (a b c : Nat) (vals : List Int) (fits : Bool), (stL i l a b c vals fits).2 = 0 → (stL i l a b c vals fits).1.length = vals.length + l.length
  | [], a, b, c, vals, fits, h => by
    simp only [stL] at h ⊢
    split
    · split
      · simp
      · rename_i h1 h2; rw [if_pos h1, if_neg h2] at h; cases h
    · rename_i h1; rw [if_neg h1] at h; cases h
  | v :: l, a, b, c, vals, fits, h => by
    simp only [stL] at h ⊢
    split
    · rename_i h1
      rw [if_pos h1] at h
      rw [stL_len i l _ _ _ _ _ h]
      simp
      omega
    · rename_i h1; rw [if_neg h1] at h; cases h
def st0 : Sta := ⟨[], [], 0⟩
def playF (f : Fl) (i : Inp) : Sta × Int :=
  if codeC f = 0 then
    (if (stL i f.vars 0 0 0 [] true).2 = 0 then (stepsF f.vars (hvals (stL i f.vars 0 0 0 [] true).1 f.hats) f.body ⟨(stL i f.vars 0 0 0 [] true).1, [], 0⟩, 0)
    else (st0, (stL i f.vars 0 0 0 [] true).2))
  else (st0, codeC f)
theorem play_con (f : Fl) (i : Inp) (hv : f.vars.length ≤ 1000000) (hh : f.hats.length ≤ 1000000) (hn : nodesS f.body + nodesH f.hats ≤ 1000000) (hb : bndL f.body = true)
    (hwf : codeC f = 0 → wfL f.vars f.hats.length f.body = true ∧ oUL f.body ≤ 2000000 ∧ ∀ h ∈ f.hats, formB f.vars true h.term = true) (d : Nat) :
    Con Tryz.prog 61 false [aF f, aI i] (.tup [aSt (playF f i).1, li (playF f i).2]) none d := by
  have cc := checkR_con f hv hh (by omega) hb
  have cst := start_con f.vars i hv
  have hsl := stL_len i f.vars 0 0 0 [] true
  have crun := fun hvl h1 h2 => stepsRun_con f hvl hv h1 f.body (by omega) h2
  have chv := fun vs h1 h2 => hvals_con f vs h1 hh h2
  obtain ⟨⟨SV, SC⟩, hS⟩ : ∃ x, stL i f.vars 0 0 0 [] true = x := ⟨_, rfl⟩
  obtain ⟨res, hres⟩ : ∃ r, playF f i = r := ⟨_, rfl⟩
  rw [hres]
  unfold playF at hres
  obtain ⟨C, hC⟩ : ∃ x, codeC f = x := ⟨_, rfl⟩
  rw [hC] at cc hres hwf
  rw [hS] at cst hsl hres
  simp only at cst hsl hres
  obtain ⟨vars, hats, body⟩ := f
  obtain ⟨is, ip, ir⟩ := i
  simp only at hv hh hn hb hwf cst hsl crun chv hres
  clear hC hS
  refine con_of_HT Tryz.func61 rfl (by kernel_rfl) (Nat.le_of_ble_eq_true rfl) ?_
  simp only [Tryz.f61]
  simp only [aF, Fl.enc, aI, List.map_cons, List.map_nil] at cc cst ⊢
  refine HT_seq <| HT_runA ?_
  refine HT_seq <| (HT_runc [⟨true, .v (li C), none⟩] (by simp [*]; first | exact ⟨rfl, Iff.rfl⟩ | exact ⟨rfl, trivial⟩ | rfl) ?_ ?_)
  · first | exact cc _ | exact trivial | simpa [*] using cc _
  refine HT_seq <| HT_seq <| HT_runA ?_
  refine (HT_cond rfl (fun h3 => ?_) (fun h3 => HT_skip ?_))
  · try simp only [BN] at h3
    rw [if_neg h3] at hres
    subst hres
    refine HT_seq <| HT_runA ?_
    refine HT_le (le_box 4 [.c (.sl 1 []), .c (.sl 1 []), .c (iC 0)] rfl (by (repeat' (first | exact LWk.nil | apply LWk.cons | exact CWk.refl _ | exact CWk.nil _)))) ?_
    exact HT_ret ⟨.inr rfl, _, le_refl _, ⟨⟨_, by simp; rfl, by simp [resR, st0]⟩, by simp, fun h => by cases h⟩⟩
  · try simp only [BN] at h3
    have hc0 : C = 0 := by simpa using h3
    rw [if_pos hc0] at hres
    obtain ⟨hw, ho, hf⟩ := hwf hc0
    clear hwf cc h3
    refine HT_seq <| (HT_runc [⟨false, .tup [lI SV, li SC], none⟩] (by simp [*]; first | exact ⟨rfl, Iff.rfl⟩ | exact ⟨rfl, trivial⟩ | rfl) ?_ ?_)
    · first | exact cst _ | exact trivial | simpa [*] using cst _
    refine HT_seq <| HT_seq <| HT_runA ?_
    refine (HT_cond rfl (fun h8 => ?_) (fun h8 => HT_skip ?_))
    · try simp only [BN] at h8
      rw [if_neg h8] at hres
      subst hres
      refine HT_seq <| HT_runA ?_
      refine HT_le (le_box 4 [.c (.sl 1 []), .c (.sl 1 []), .c (iC 0)] rfl (by (repeat' (first | exact LWk.nil | apply LWk.cons | exact CWk.refl _ | exact CWk.nil _)))) ?_
      exact HT_ret ⟨.inr rfl, _, le_refl _, ⟨⟨_, by simp; rfl, by simp [resR, st0]⟩, by simp, fun h => by cases h⟩⟩
    · try simp only [BN] at h8
      have hs0 : SC = 0 := by simpa using h8
      rw [if_pos hs0] at hres
      have hsl := hsl hs0
      simp only [List.length_nil, Nat.zero_add] at hsl
      have ch := chv SV hsl hf
      have hhl : (hvals SV hats).length = hats.length := by simp [hvals]
      obtain ⟨HV, hHV⟩ : ∃ x, hvals SV hats = x := ⟨_, rfl⟩
      rw [hHV] at ch hres hhl
      have cr := crun HV hhl hw ⟨SV, [], 0⟩ hsl (by simpa using ho)
      obtain ⟨⟨rv, ro, rt⟩, hR⟩ : ∃ x, stepsF vars HV body ⟨SV, [], 0⟩ = x := ⟨_, rfl⟩
      rw [hR] at cr hres
      subst hres
      simp only [aF, Fl.enc, aSt, List.map_cons, List.map_nil] at cr ch
      have cr' := fun d => con_arg (n := 3) (args := [.agg [.c (.sl 5 (encVs vars)), .c (.sl 6 (encHs hats)), .c (.sl 10 (encSs body))], lI HV, lS body, .agg [.c (.sl 1 (encIs SV)), .c (.lit nilS), .c (iC 0)]]) (cr d) rfl (by (repeat' (first | exact LWk.nil | apply LWk.cons | exact CWk.refl _ | exact CWk.nil _)))
      clear cr crun chv cst hsl hw ho hf h8 hhl hHV hR
      refine HT_seq <| (HT_drunc [⟨false, .v (lI HV), none⟩, ⟨false, .v (.agg [.c (.sl 1 (encIs rv)), .c (.sl 1 (encIs ro)), .c (iC rt)]), none⟩] (by kernel_rfl) (by kernel_rfl) (by rfl) (by simp [*]; first | exact ⟨rfl, Iff.rfl⟩ | exact ⟨rfl, trivial⟩ | rfl) ?_ ?_)
      · first | exact ⟨ch _, cr' _⟩ | exact trivial | (repeat' first | exact trivial | exact ch _ | exact cr' _ | apply And.intro)
      exact HT_ret ⟨.inr rfl, _, le_refl _, ⟨⟨_, by simp; rfl, by simp [resR]⟩, by simp, fun h => by cases h⟩⟩
structure Obs where
  outs : List Int
  time : Int
abbrev aO (o : Obs) : TV := .agg [.c (.sl 1 (encIs o.outs)), .c (iC o.time)]
def runF (f : Fl) (i : Inp) : Obs × Int := if (playF f i).2 = 0 then (⟨(playF f i).1.outs, (playF f i).1.time⟩, 0) else (⟨[], 0⟩, (playF f i).2)
theorem run_con (f : Fl) (i : Inp) (hv : f.vars.length ≤ 1000000) (hh : f.hats.length ≤ 1000000) (hn : nodesS f.body + nodesH f.hats ≤ 1000000) (hb : bndL f.body = true)
    (hwf : codeC f = 0 → wfL f.vars f.hats.length f.body = true ∧ oUL f.body ≤ 2000000 ∧ ∀ h ∈ f.hats, formB f.vars true h.term = true) (d : Nat) :
    Con Tryz.prog 33 false [aF f, aI i] (.tup [aO (runF f i).1, li (runF f i).2]) none d := by
  have cp := play_con f i hv hh hn hb hwf
  obtain ⟨res, hres⟩ : ∃ r, runF f i = r := ⟨_, rfl⟩
  rw [hres]
  unfold runF at hres
  obtain ⟨⟨⟨pv, po, pt⟩, pc⟩, hP⟩ : ∃ x, playF f i = x := ⟨_, rfl⟩
  rw [hP] at cp hres
  simp only at cp hres
  obtain ⟨vars, hats, body⟩ := f
  obtain ⟨is, ip, ir⟩ := i
  clear hP hwf
  refine con_of_HT Tryz.func33 rfl (by kernel_rfl) (Nat.le_of_ble_eq_true rfl) ?_
  simp only [Tryz.f33]
  simp only [aF, Fl.enc, aI, aSt, List.map_cons, List.map_nil] at cp ⊢
  refine HT_seq <| HT_runA ?_
  refine HT_seq <| (HT_runc [⟨false, .tup [.agg [.c (.sl 1 (encIs pv)), .c (.sl 1 (encIs po)), .c (iC pt)], li pc], none⟩] (by simp [*]; first | exact ⟨rfl, Iff.rfl⟩ | exact ⟨rfl, trivial⟩ | rfl) ?_ ?_)
  · first | exact cp _ | exact trivial | simpa [*] using cp _
  refine HT_seq <| HT_seq <| HT_runA ?_
  refine (HT_cond rfl (fun h3 => ?_) (fun h3 => HT_skip ?_))
  · try simp only [BN] at h3
    rw [if_neg h3] at hres
    subst hres
    refine HT_seq <| HT_runA ?_
    refine HT_le (le_box 4 [.c (.sl 1 []), .c (iC 0)] rfl (by (repeat' (first | exact LWk.nil | apply LWk.cons | exact CWk.refl _ | exact CWk.nil _)))) ?_
    exact HT_ret ⟨.inr rfl, _, le_refl _, ⟨⟨_, by simp; rfl, by simp [resR]⟩, by simp, fun h => by cases h⟩⟩
  · try simp only [BN] at h3
    rw [if_pos (by simpa using h3)] at hres
    subst hres
    refine HT_seq <| HT_runA ?_
    exact HT_ret ⟨.inr rfl, _, le_refl _, ⟨⟨_, by simp; rfl, by simp [resR]⟩, by simp, fun h => by cases h⟩⟩
end Go.Proofs.YteekbhkjfaegiaaGreat

namespace Go.Proofs.YteekbhkjfaegiaaGreat
open Go Go.Hl

/-! ## a valid program can be run -/
theorem termC_form {vars : List Vr} {inp : Bool} {t : Tm} (h : termC vars inp t = 0) : formB vars inp t = true := by
  unfold termC at h
  split at h
  · assumption
  · cases h
theorem hcs_form {vars : List Vr} : ∀ (l seen : List Ht), hcs vars seen l = 0 → ∀ h ∈ l, formB vars true h.term = true
  | [], _, _, h, hm => by cases hm
  | x :: l, seen, h0, h, hm => by
    simp only [hcs] at h0
    split at h0
    · rename_i hx
      rcases List.mem_cons.1 hm with rfl | h1
      · unfold hcode at hx
        split at hx
        · cases hx
        · split at hx
          · cases hx
          · split at hx
            · cases hx
            · exact termC_form hx
      · exact hcs_form l _ h0 h h1
    · rename_i hx
      exact absurd h0 hx
theorem ssC_split {vars : List Vr} {nh : Nat} {d c v n : Int} {t : Tm} {a b : List St} {bs : List Int} {l : List St} {top : Bool} (h : ssC vars nh (.mk d c v n t a b bs :: l) top = 0) :
    shB vars nh d v n t a.length b.length bs (top && l.isEmpty) = true ∧ numB d c n bs = true ∧ termC vars false t = 0 ∧ ssC vars nh a false = 0 ∧ ssC vars nh b false = 0 ∧ ssC vars nh l top = 0 := by
  simp only [ssC] at h
  split at h
  · rename_i h0
    split at h
    · rename_i ha
      split at h
      · rename_i hb
        unfold stC at h0
        split at h0
        · cases h0
        · rename_i hs
          split at h0
          · cases h0
          · rename_i hn
            exact ⟨by simpa using hs, by simpa using hn, h0, ha, hb, h⟩
      · rename_i hb; exact absurd h hb
    · rename_i ha; exact absurd h ha
  · rename_i h0; exact absurd h h0
theorem shB_local {vars : List Vr} {nh : Nat} {d v n : Int} {t : Tm} {la lb_ : Nat} {bs : List Int} {last : Bool} (h : shB vars nh d v n t la lb_ bs last = true) (hd : d = 0 ∨ d = 5) : localB vars v = true ∧ (d = 5 → 0 ≤ n ∧ n < nh) := by
  unfold shB at h
  rcases hd with rfl | rfl
  · simp only [if_true, Bool.and_eq_true] at h
    exact ⟨h.1.1.2, fun h => by cases h⟩
  · simp only [show ¬ (5 : Int) = 0 by decide, show ¬ (5 : Int) = 1 by decide, show ¬ (5 : Int) = 2 by decide, show ¬ (5 : Int) = 3 by decide, show ¬ (5 : Int) = 4 by decide, if_true, if_false, Bool.and_eq_true, decide_eq_true_eq] at h
    exact ⟨h.1.1.1.1.2, fun _ => ⟨h.1.1.1.2, h.1.1.2⟩⟩
theorem numB_in {d c n : Int} {bs : List Int} (h : numB d c n bs = true) : 0 ≤ c ∧ (d = 4 → 0 ≤ n ∧ n ≤ 4096) := by
  unfold numB at h
  simp only [Bool.and_eq_true, Bool.not_eq_true', Bool.or_eq_false_iff, Bool.and_eq_false_iff, decide_eq_false_iff_not] at h
  refine ⟨by omega, fun h4 => ?_⟩
  rcases h.1.2 with h1 | h1
  · exact absurd h4 h1
  · omega
theorem ssC_wf {vars : List Vr} {nh : Nat} : ∀ (l : List St) (top : Bool), ssC vars nh l top = 0 → bndL l = true → wfL vars nh l = true
  | [], _, _, _ => by simp [wfL]
  | .mk d c v n t a b bs :: l, top, h, hb => by
    obtain ⟨hs, hn, ht, ha, hb', hl⟩ := ssC_split h
    simp only [bndL, bndS, Bool.and_eq_true, decide_eq_true_eq] at hb
    have ia := ssC_wf a false ha hb.1.2.1
    have ib := ssC_wf b false hb' hb.1.2.2
    have il := ssC_wf l top hl hb.2
    have hn4 := (numB_in hn).2
    simp only [wfL, wfS, ia, ib, il, termC_form ht, Bool.and_true, Bool.true_and, Bool.and_eq_true, Bool.or_eq_true, decide_eq_true_eq]
    refine ⟨?_, ?_, ?_, hb.1.1⟩
    · by_cases hd : d = 0 ∨ d = 5
      · exact .inr (shB_local hs hd).1
      · exact .inl ⟨fun h => hd (.inl h), fun h => hd (.inr h)⟩
    · by_cases hd : d = 5
      · exact .inr ((shB_local hs (.inr hd)).2 hd)
      · exact .inl hd
    · by_cases hd : d = 4
      · exact .inr (hn4 hd).2
      · exact .inl hd
/-- the outputs of valid steps, cut at a number -/
theorem oU_cut : ∀ (l : List St) (p : B3), okL l = true → 0 ≤ p.o → mn (bdL CR l p).o 9 = mn (p.o + (oUL l : Int)) 9
  | [], p, _, _ => by simp [bdL, oUL]
  | .mk d c v n t a b bs :: l, p, h, hp => by
    simp only [okL, okS, Bool.and_eq_true, Bool.or_eq_true, decide_eq_true_eq] at h
    have ha := oU_cut a ⟨0, 0, 0⟩ h.1.2.2.1 (Int.le_refl 0)
    have hb := oU_cut b ⟨0, 0, 0⟩ h.1.2.2.2 (Int.le_refl 0)
    have na := in3_nn (bdL_in nnCR a _ h.1.2.2.1 (in3_0 nnCR))
    have nb := in3_nn (bdL_in nnCR b _ h.1.2.2.2 (in3_0 nnCR))
    simp only [bdL, bdS, oUL, oUS]
    generalize bdL CR a ⟨0, 0, 0⟩ = A at *
    generalize bdL CR b ⟨0, 0, 0⟩ = B at *
    simp only [Int.zero_add] at ha hb
    have key : 0 ≤ (bd1 d c n A B).o ∧ mn (bd1 d c n A B).o 9 = mn (((if d = 4 then n.toNat * oUL a else if d = 3 then max (oUL a) (oUL b) else if d = 1 then 1 else 0 : Nat)) : Int) 9 := by
      unfold nn3 at na nb
      unfold bd1
      by_cases h4 : d = 4
      · have hn : 0 ≤ n := by omega
        rw [if_pos h4, if_pos h4]
        refine ⟨Int.mul_nonneg hn na.2.1, ?_⟩
        have e := mul_cut (C := 9) hn na.2.1 (Int.natCast_nonneg (oUL a)) (Int.le_refl 0) (Int.le_refl 0) ha
        simp only [Int.zero_add] at e
        rw [e, Int.natCast_mul, Int.toNat_of_nonneg hn]
      · rw [if_neg h4, if_neg h4]
        by_cases h3 : d = 3
        · rw [if_pos h3, if_pos h3]
          simp only [mx, mn] at ha hb ⊢
          have e : ((max (oUL a) (oUL b) : Nat) : Int) = max (oUL a : Int) (oUL b : Int) := by omega
          rw [e]
          refine ⟨by split <;> omega, ?_⟩
          (repeat' split at ha) <;> (repeat' split at hb) <;> (repeat' split) <;> omega
        · rw [if_neg h3, if_neg h3]
          split <;> exact ⟨by simp only; omega, rfl⟩
    obtain ⟨k0, k1⟩ := key
    generalize (bd1 d c n A B) = X at *
    generalize (if d = 4 then n.toNat * oUL a else if d = 3 then max (oUL a) (oUL b) else if d = 1 then 1 else 0 : Nat) = K at *
    have e : 0 ≤ (add3 CR p X).o ∧ mn (add3 CR p X).o 9 = mn (p.o + K) 9 := by
      simp only [add3, CR]
      simp only [mn] at k1 ⊢
      refine ⟨by split <;> omega, ?_⟩
      (repeat' split at k1) <;> (repeat' split) <;> omega
    have il := oU_cut l (add3 CR p X) h.2 e.1
    rw [il]
    have e2 := e.2
    generalize (add3 CR p X).o = Y at *
    simp only [mn] at e2 ⊢
    rw [Int.natCast_add]
    (repeat' split at e2) <;> (repeat' split) <;> omega
theorem code_split {f : Fl} (h : codeC f = 0) : sizesB f = true ∧ varsC f.vars = 0 ∧ hcs f.vars [] f.hats = 0 ∧ ssC f.vars f.hats.length f.body true = 0 ∧ overL f.body = false := by
  unfold codeC at h
  split at h
  · cases h
  · rename_i hs
    split at h
    · rename_i hv
      split at h
      · rename_i hh
        split at h
        · rename_i hb
          split at h
          · cases h
          · rename_i ho
            exact ⟨by simpa using hs, hv, hh, hb, by simpa using ho⟩
        · rename_i hb; exact absurd h hb
      · rename_i hh; exact absurd h hh
    · rename_i hv; exact absurd h hv
theorem over_split {l : List St} (h : overL l = false) : (bdL CR l ⟨0, 0, 0⟩).s ≤ 4096 ∧ (bdL CR l ⟨0, 0, 0⟩).o ≤ 8 ∧ (bdL CR l ⟨0, 0, 0⟩).t ≤ 67108864 := by
  unfold overL at h
  simp only [Bool.or_eq_false_iff, decide_eq_false_iff_not, Int.not_lt] at h
  exact ⟨h.1, h.2.1, h.2.2⟩
theorem code_wf {f : Fl} (hb : bndL f.body = true) (h : codeC f = 0) : wfL f.vars f.hats.length f.body = true ∧ oUL f.body ≤ 2000000 ∧ ∀ h ∈ f.hats, formB f.vars true h.term = true := by
  obtain ⟨_, _, hh, hs, ho⟩ := code_split h
  have h8 := (over_split ho).2.1
  have hc := oU_cut f.body ⟨0, 0, 0⟩ (ssC_ok _ _ hs) (Int.le_refl 0)
  refine ⟨ssC_wf _ _ hs hb, ?_, hcs_form _ _ hh⟩
  simp only [Int.zero_add, mn] at hc
  (repeat' split at hc) <;> omega
theorem runG_con (f : Fl) (i : Inp) (hv : f.vars.length ≤ 1000000) (hh : f.hats.length ≤ 1000000) (hn : nodesS f.body + nodesH f.hats ≤ 1000000) (hb : bndL f.body = true) (d : Nat) :
    Con Tryz.prog 33 false [aF f, aI i] (.tup [aO (runF f i).1, li (runF f i).2]) none d :=
  run_con f i hv hh hn hb (code_wf hb) d
end Go.Proofs.YteekbhkjfaegiaaGreat

namespace Go.Proofs.YteekbhkjfaegiaaGreat
open Go Go.Hl

theorem checkP_con (f : Fl) (hv : f.vars.length ≤ 1000000) (hh : f.hats.length ≤ 1000000) (hn : nodesS f.body + nodesH f.hats ≤ 900000000) (hb : bndL f.body = true) (d : Nat) :
    Con Tryz.prog 52 true [aF f] (.v (li (codeC f))) none d := by
  obtain ⟨res, hres⟩ : ∃ r, codeC f = r := ⟨_, rfl⟩
  rw [hres]
  have hso := sizes_over f
  have cvars := varsP_con f.vars hv
  have chat := fun hg => hatsP_con f hg hv hh (fun h hm => by have := nodesH_mem hm; omega)
  have cst := fun hg => stepsP_con f hg hv f.body (by omega) hb
  have cup := fun ho => upper_con f.body (by omega) ho
  have cms := msteps_con f.body 1 0 false (by decide) (by decide) (by omega)
  have hms := mSs_le f.body 1 (0, false)
  have hgood : varsC f.vars = 0 → goodV f.vars := varsC_good
  have hok : ssC f.vars f.hats.length f.body true = 0 → okL f.body = true := ssC_ok _ _
  have hcmp := fun h => @bd_cmp f.body h
  unfold codeC overL at hres
  unfold mF at hso
  obtain ⟨vars, hats, body⟩ := f
  simp only at hv hh hn hb hres hso cvars chat cst cup cms hms hgood hok hcmp
  obtain ⟨m0, hm0⟩ : ∃ m, mSs body 1 (0, false) = m := ⟨_, rfl⟩
  rw [hm0] at cms hms hso
  obtain ⟨c0, b0⟩ := m0
  simp only at cms hms
  obtain ⟨mE, hmE⟩ : ∃ m, mH hats (c0, b0) = m := ⟨_, rfl⟩
  rw [hmE] at hso
  obtain ⟨VC, hVC⟩ : ∃ x, varsC vars = x := ⟨_, rfl⟩
  obtain ⟨HC, hHC⟩ : ∃ x, hcs vars [] hats = x := ⟨_, rfl⟩
  obtain ⟨SC, hSC⟩ : ∃ x, ssC vars hats.length body true = x := ⟨_, rfl⟩
  rw [hVC] at cvars hres hgood
  rw [hHC] at chat hres
  rw [hSC] at hres hok
  have cst := fun hg => cst hg true
  rw [hSC] at cst
  clear hVC hHC hSC hm0
  refine con_of_HT Tryz.func52 rfl (by kernel_rfl) (Nat.le_of_ble_eq_true rfl) ?_
  simp only [Tryz.f52]
  simp only [aF, Fl.enc, List.map_cons, List.map_nil] at chat cst ⊢
  refine HT_seq <| HT_runA ?_
  refine HT_seq <| HT_runA ?_
  refine HT_seq <| (HT_runIO 2 (.tup []) ([iC c0, bC b0]) rfl (by simp [*]; rfl) (by simp [ioOf, *]; first | exact ⟨rfl, rfl, rfl, rfl, rfl⟩ | exact ⟨rfl, rfl, rfl, rfl⟩ | exact ⟨rfl, rfl, rfl⟩ | exact ⟨rfl, rfl⟩ | rfl) (cms) (by simp) (by simp [*]; rfl) ?_)
  refine HT_seq <| HT_seq <| HT_runA ?_
  refine HT_block <| (HT_loopU [1, 3, 14, 15] (fun (x : Nat × Int × Bool) => [(16, .v (li x.1))]) (fun (x : Nat × Int × Bool) => [(1, .box [.c (.sl 5 (encVs vars)), .c (.sl 6 (encHs hats)), .c (.sl 10 (encSs body))]), (3, .box [.c (iC x.2.1), .c (bC x.2.2)])]) (fun (x : Nat × Int × Bool) => x.1 ≤ hats.length ∧ mH (hats.drop x.1) x.2 = mE ∧ 0 ≤ x.2.1 ∧ x.2.1 + nodesH (hats.drop x.1) ≤ 1000000000) (fun (x : Nat × Int × Bool) => hats.length - x.1) (0, c0, b0) ⟨Nat.zero_le _, by simpa using hmE, by simp only; omega, by simp only [List.drop_zero]; omega⟩ ?_ ?_)
  · exact le_mk (fun n => n) [] rfl (by simp [*, upS, keepS]) (by simp [*, upS]) (by simp [upS])
  rintro ⟨k, m, q⟩ ⟨hk, hJ, hm, hbb⟩
  simp only [upS, keepS, insS]
  try simp only [keepS, KN, Nat.reduceBEq, if_true, if_false, ins, Nat.reduceLT]
  simp only at hk hJ hm hbb
  clear hmE hms cms
  refine HT_seq <| HT_runA ?_
  refine HT_seq <| (HT_cond rfl (fun h6 => HT_skip ?_) (fun h6 => ?_))
  · try simp only [BN] at h6
    have hlt : k < hats.length := by omega
    obtain ⟨h, he, hd⟩ := at_lt hlt
    have hw1 := wrap1 hlt (by omega)
    have hk1 : k + 1 ≤ hats.length := hlt
    rw [hd] at hJ hbb
    simp only [mH, nodesH] at hJ hbb
    have hle := mTm_le h.term 1 (m, q)
    have cmt := mterm_con h.term 1 m q (by decide) hm (by omega)
    obtain ⟨nm, lo, hi, ⟨o, tn, ks⟩⟩ := h
    simp only at hle cmt hJ hbb
    obtain ⟨m1, hm1⟩ : ∃ x, mTm (.mk o tn ks) 1 (m, q) = x := ⟨_, rfl⟩
    rw [hm1] at cmt hle hJ
    obtain ⟨c1, b1⟩ := m1
    simp only [aT, Tm.enc, List.map_cons, List.map_nil] at cmt hle
    clear hlt h6 hd hm1 hso hres chat cst cup hok hcmp
    refine HT_seq <| HT_block <| HT_seq <| HT_runA ?_
    refine HT_seq <| (HT_runc [⟨true, .v (lb (q || decide (1024 < m))), none⟩] (by simp [*]; first | exact ⟨rfl, Iff.rfl⟩ | exact ⟨rfl, trivial⟩ | rfl) ?_ ?_)
    · first | exact overP_con _ _ _ | exact trivial | simpa [*] using overP_con _ _ _
    refine (HT_cond rfl (fun h9 => ?_) (fun h9 => HT_skip ?_))
    · try simp only [BN] at h9
      have hov : over (m, q) = false := by
        simp only [over, Bool.or_eq_false_iff, decide_eq_false_iff_not]
        first | exact h9 | simpa using h9
      rw [if_neg (by rw [hov]; decide)] at hJ
      clear hov
      refine (HT_runIO 2 (.tup []) ([iC c1, bC b1]) rfl (by simp [*]; rfl) (by simp [ioOf, *]; first | exact ⟨rfl, rfl, rfl, rfl, rfl⟩ | exact ⟨rfl, rfl, rfl, rfl⟩ | exact ⟨rfl, rfl, rfl⟩ | exact ⟨rfl, rfl⟩ | rfl) (cmt) (by simp) (by simp [*]; rfl) ?_)
      refine HT_runA ?_
      exact ⟨(k + 1, c1, b1), ⟨hk1, hJ, by simp only; omega, by simp only; omega⟩, by simp only; omega, le_mk (fun n => n) [] rfl (by simp [upS, keepS, *]) (by simp [*, upS]) (by simp [upS])⟩
    · try simp only [BN] at h9
      have hov : over (m, q) = true := by
        simp only [over, Bool.or_eq_true, decide_eq_true_eq]
        first | exact h9 | simpa using h9
      rw [if_pos hov] at hJ
      clear hov
      refine HT_runA ?_
      exact ⟨(k + 1, m, q), ⟨hk1, hJ, hm, by simp only; omega⟩, by simp only; omega, le_mk (fun n => n) [] rfl (by simp [upS, keepS, *]) (by simp [*, upS]) (by simp [upS])⟩
  · try simp only [BN] at h6
    have hkl : k = hats.length := by omega
    subst hkl
    rw [List.drop_length] at hJ
    simp only [mH] at hJ
    subst hJ
    simp only [over, Bool.or_eq_true, decide_eq_true_eq] at hso
    refine (HT_exit ?_)
    refine HT_seq <| HT_seq <| (HT_runc [⟨true, .v (lb (q || decide (1024 < m))), none⟩] (by simp [*]; first | exact ⟨rfl, Iff.rfl⟩ | exact ⟨rfl, trivial⟩ | rfl) ?_ ?_)
    · first | exact overP_con _ _ _ | exact trivial | simpa [*] using overP_con _ _ _
    refine (HT_cond rfl (fun h16 => ?_) (fun h16 => HT_skip ?_))
    · try simp only [BN] at h16
      rw [if_pos (hso.2 (by
          simp only [or_assoc] at h16
          rcases h16 with h | h | h | h
          · exact .inl (by omega)
          · exact .inr (.inl (by omega))
          · exact .inr (.inr (.inl h))
          · exact .inr (.inr (.inr h))))] at hres
      subst hres
      refine HT_seq <| HT_runA ?_
      exact HT_retA fun h => ⟨.inr rfl, h⟩
    · try simp only [BN] at h16
      rw [if_neg (by
          rw [hso]
          rintro (h | h | h | h)
          · omega
          · omega
          · exact absurd h (by simp [h16])
          · omega)] at hres
      refine HT_seq <| HT_seq <| (HT_runc [⟨true, .v (li VC), none⟩] (by simp [*]; first | exact ⟨rfl, Iff.rfl⟩ | exact ⟨rfl, trivial⟩ | rfl) ?_ ?_)
      · first | exact cvars _ | exact trivial | simpa [*] using cvars _
      refine HT_seq <| HT_runA ?_
      refine (HT_cond rfl (fun h21 => ?_) (fun h21 => HT_skip ?_))
      · try simp only [BN] at h21
        rw [if_neg h21] at hres
        subst hres
        refine HT_seq <| HT_runA ?_
        exact HT_retA fun h => ⟨.inr rfl, h⟩
      · try simp only [BN] at h21
        have hv0 : VC = 0 := by simpa using h21
        have hg := hgood hv0
        have chat := chat hg
        have cst := cst hg
        rw [if_pos hv0] at hres
        clear cvars hgood h21
        refine HT_seq <| HT_seq <| (HT_runc [⟨true, .v (li HC), none⟩] (by simp [*]; first | exact ⟨rfl, Iff.rfl⟩ | exact ⟨rfl, trivial⟩ | rfl) ?_ ?_)
        · first | exact chat _ | exact trivial | simpa [*] using chat _
        refine HT_seq <| HT_runA ?_
        refine (HT_cond rfl (fun h26 => ?_) (fun h26 => HT_skip ?_))
        · try simp only [BN] at h26
          rw [if_neg h26] at hres
          subst hres
          refine HT_seq <| HT_runA ?_
          exact HT_retA fun h => ⟨.inr rfl, h⟩
        · try simp only [BN] at h26
          have hh0 : HC = 0 := by simpa using h26
          rw [if_pos hh0] at hres
          clear chat h26
          refine HT_seq <| HT_seq <| (HT_runc [⟨true, .v (li SC), none⟩] (by simp [*]; first | exact ⟨rfl, Iff.rfl⟩ | exact ⟨rfl, trivial⟩ | rfl) ?_ ?_)
          · first | exact cst _ | exact trivial | simpa [*] using cst _
          refine HT_seq <| HT_runA ?_
          refine (HT_cond rfl (fun h31 => ?_) (fun h31 => HT_skip ?_))
          · try simp only [BN] at h31
            rw [if_neg h31] at hres
            subst hres
            refine HT_seq <| HT_runA ?_
            exact HT_retA fun h => ⟨.inr rfl, h⟩
          · try simp only [BN] at h31
            have hs0 : SC = 0 := by simpa using h31
            rw [if_pos hs0] at hres
            have hok := hok hs0
            have cup := cup hok
            have hcmp := hcmp hok
            obtain ⟨X, hX⟩ : ∃ x, bdL CP body ⟨0, 0, 0⟩ = x := ⟨_, rfl⟩
            obtain ⟨Y, hY⟩ : ∃ x, bdL CR body ⟨0, 0, 0⟩ = x := ⟨_, rfl⟩
            rw [hX] at cup hcmp
            rw [hY] at hcmp hres
            obtain ⟨x1, x2, x3⟩ := X
            obtain ⟨y1, y2, y3⟩ := Y
            simp only [Bool.or_eq_true, decide_eq_true_eq] at hcmp hres
            clear hX hY cst h31 hok
            refine HT_seq <| HT_seq <| (HT_runc [⟨true, .v (aB ⟨x1, x2, x3⟩), none⟩] (by simp [*]; first | exact ⟨rfl, Iff.rfl⟩ | exact ⟨rfl, trivial⟩ | rfl) ?_ ?_)
            · first | exact cup _ | exact trivial | simpa [*] using cup _
            refine HT_seq <| HT_runA ?_
            refine (HT_cond rfl (fun h36 => ?_) (fun h36 => HT_skip ?_))
            · try simp only [BN] at h36
              rw [if_pos (by omega)] at hres
              subst hres
              refine HT_seq <| HT_runA ?_
              exact HT_retA fun h => ⟨.inr rfl, h⟩
            · try simp only [BN] at h36
              rw [if_neg (by omega)] at hres
              subst hres
              refine HT_seq <| HT_runA ?_
              exact HT_retA fun h => ⟨.inr rfl, h⟩
end Go.Proofs.YteekbhkjfaegiaaGreat
