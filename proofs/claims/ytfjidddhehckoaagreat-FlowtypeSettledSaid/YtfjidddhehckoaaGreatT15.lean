/- Part 15: contracts of functions of the program and of the reference, and plain facts about what they compute; used by the proof of the claimed statement. Conditions: as each theorem states. -/
import Derived.Test.YtfjidddhehckoaaGreatT11
import Derived.Test.YtfjidddhehckoaaGreatT14
set_option linter.unusedSimpArgs false
set_option linter.unusedVariables false
set_option linter.unnecessarySimpa false
set_option maxRecDepth 100000
set_option maxHeartbeats 2000000
namespace Go.Proofs.YtfjidddhehckoaaGreat
open Go Go.Hl
theorem cloneS_con (l : List St) (hl : l.length ≤ 1000000) (d : Nat) (hd : d < 1000000) : Con Tryz.prog 21 false [.one (.c (.sl 10 (encSs l)))] (.v (.one (.own d))) (some (.row 65 10 (encSs l))) d := by
 have hroom : room l.length 144 := room_of (by omega) (by omega)
 cases l with
 | nil =>
   refine con_emp ?_ ?_
   · refine con_of_HT Tryz.func21 rfl (by kernel_rfl) (Nat.le_of_ble_eq_true rfl) ?_
     simp only [Tryz.f21]
     refine HT_seq <| HT_runA ?_
     refine HT_seq <| HT_seq <| HT_runA ?_
     refine (HT_cond rfl (fun h2 => ?_) (fun h2 => HT_skip ?_))
     · try simp only [BN] at h2
       refine HT_seq <| HT_runA ?_
       exact HT_ret ⟨.inr rfl, _, le_nameN 2 d 65 10 rfl (by decide) hd, ⟨⟨_, by simp; rfl, by simp [resR]⟩, by simp, fun h => by cases h⟩⟩
     · exact absurd h2 (by simp)
   · intro a cap
     refine con_of_HT Tryz.func21 rfl (by kernel_rfl) (Nat.le_of_ble_eq_true rfl) ?_
     simp only [Tryz.f21]
     refine HT_seq <| HT_runA ?_
     refine HT_seq <| HT_seq <| HT_runA ?_
     refine (HT_cond rfl (fun h2 => ?_) (fun h2 => HT_skip ?_))
     · exact absurd h2 (by simp)
     · try simp only [BN] at h2
       refine HT_le (le_emp 0 10 rfl) ?_
       refine HT_seq <| HT_runA ?_
       exact HT_ret ⟨.inr rfl, _, le_name 2 7 d rfl rfl hd, ⟨⟨_, by simp; rfl, by simp [resR]⟩, by simp, fun h => by cases h⟩⟩
 | cons v r =>
   refine con_of_HT Tryz.func21 rfl (by kernel_rfl) (Nat.le_of_ble_eq_true rfl) ?_
   simp only [Tryz.f21]
   rw [List.length_cons] at hroom
   refine HT_seq <| HT_runA ?_
   refine HT_seq <| HT_seq <| HT_runA ?_
   refine (HT_cond rfl (fun h2 => ?_) (fun h2 => HT_skip ?_))
   · exact absurd h2 (by simp)
   · try simp only [BN] at h2
     refine HT_seq <| HT_runA ?_
     exact HT_ret ⟨.inr rfl, _, le_name 2 7 d rfl rfl hd, ⟨⟨_, by simp; rfl, by simp [resR]⟩, by simp, fun h => by cases h⟩⟩
def idxF : List Int → Int → Nat → Int
 | [], _, _ => -1
 | y :: l, x, k => if x = y then k else idxF l x (k + 1)
theorem idxF_mem : ∀ (l : List Int) (x : Int) (k : Nat), x ∈ l → 0 ≤ idxF l x k
 | [], _, _, h => by cases h
 | y :: l, x, k, h => by
   simp only [idxF]
   split
   · omega
   · rename_i hne
     rcases List.mem_cons.1 h with h | h
     · exact absurd h hne
     · exact idxF_mem l x _ h
theorem index_con (l : List Int) (x : Int) (hl : l.length ≤ 1000000000) (d : Nat) : Con Tryz.prog 44 true [lI l, li x] (.v (li (idxF l x 0))) none d := by
 obtain ⟨res, hres⟩ : ∃ r, idxF l x 0 = r := ⟨_, rfl⟩
 rw [hres]
 refine con_of_HT Tryz.func44 rfl (by kernel_rfl) (Nat.le_of_ble_eq_true rfl) ?_
 simp only [Tryz.f44]
 refine HT_seq <| HT_runA ?_
 refine HT_seq <| HT_seq <| HT_runA ?_
 refine HT_block <| (HT_loopU [0, 1, 7] (fun (z : Nat) => [(8, .v (li z))]) (fun (z : Nat) => []) (fun (z : Nat) => z ≤ l.length ∧ idxF (l.drop z) x z = res) (fun (z : Nat) => l.length - z) (0 : Nat) ⟨Nat.zero_le _, hres⟩ ?_ ?_)
 · exact le_mkA (fun n => n) []
 rintro k ⟨hk, hJ⟩
 simp only [upS, keepS, insS]
 try simp only [keepS, KN, Nat.reduceBEq, if_true, if_false, ins, Nat.reduceLT]
 clear hres
 refine HT_seq <| HT_runA ?_
 refine HT_seq <| (HT_cond rfl (fun h4 => HT_skip ?_) (fun h4 => ?_))
 · try simp only [BN] at h4
   have hlt : k < l.length := by omega
   obtain ⟨b, he, hd⟩ := at_lt hlt
   have hw1 := wrap1 hlt (by omega)
   have hk1 : k + 1 ≤ l.length := hlt
   rw [hd] at hJ
   simp only [idxF] at hJ
   clear hlt h4 hd
   refine HT_seq <| HT_block <| HT_seq <| HT_runA ?_
   refine HT_seq <| HT_runA ?_
   refine (HT_cond rfl (fun h7 => ?_) (fun h7 => HT_skip ?_))
   · try simp only [BN] at h7
     rw [if_pos (by simpa using h7)] at hJ
     subst hJ
     refine HT_seq <| HT_runA ?_
     exact HT_retA fun h => ⟨.inr rfl, h⟩
   · try simp only [BN] at h7
     rw [if_neg (by simpa using h7)] at hJ
     refine HT_runA ?_
     exact ⟨k + 1, ⟨hk1, hJ⟩, by omega, le_mkA (fun n => n) []⟩
 · try simp only [BN] at h4
   have hkl : k = l.length := by omega
   rw [hkl, List.drop_length] at hJ
   simp only [idxF] at hJ
   subst hJ
   refine (HT_exit ?_)
   refine HT_seq <| HT_runA ?_
   exact HT_retA fun h => ⟨.inr rfl, h⟩
theorem contains_con (l : List Int) (x : Int) (hl : l.length ≤ 1000000000) (d : Nat) : Con Tryz.prog 18 true [lI l, li x] (.v (lb (decide (0 ≤ idxF l x 0)))) none d := by
 have ci := index_con l x hl
 obtain ⟨res, hres⟩ : ∃ r, idxF l x 0 = r := ⟨_, rfl⟩
 rw [hres] at ci ⊢
 clear hres
 refine con_of_HT Tryz.func18 rfl (by kernel_rfl) (Nat.le_of_ble_eq_true rfl) ?_
 simp only [Tryz.f18]
 refine HT_seq <| HT_runA ?_
 refine HT_seq <| (HT_runcA [⟨true, .v (li res), none⟩] ?_ ?_)
 · first | exact ci _ | exact trivial | simpa [*] using ci _
 exact HT_retA fun h => ⟨.inr rfl, h⟩
end Go.Proofs.YtfjidddhehckoaaGreat

namespace Go.Proofs.YtfjidddhehckoaaGreat
open Go Go.Hl
theorem idxF_zero {l : List Int} {x : Int} (h : x ∈ l) : decide (0 ≤ idxF l x 0) = true := decide_eq_true (idxF_mem l x 0 h)
theorem raised_law (f : Fl) (p : Po) (o : Int) (d : Nat) : Con Tryz.prog 4 true [aF f, aPo p, li o] (.v (lb true)) none d := by
 have ck := known_con
 have cf := fit_con f p
 obtain ⟨FP, hFP⟩ : ∃ x, fitP f p = x := ⟨_, rfl⟩
 have hsm : FP = true → Sm f p := fun h => fit_in (hFP.trans h)
 rw [hFP] at cf
 have ca := fun h => asked_con f p (hsm h).sp (hsm h).sf
 obtain ⟨A, hA⟩ : ∃ x, askC f p = x := ⟨_, rfl⟩
 rw [hA] at ca
 have hgd : A = 0 → Gd0 f p := fun h => ask_gd (hA.trans h)
 have cL := fun (h : FP = true) (h0 : A = 0) => latR_con p (hgd h0).hp (hsm h).sp
 have cin := rin_con p o
 have ctop := fun (h0 : A = 0) => rtop_con p (hgd h0).hp
 have cc1 := fun (h : FP = true) => chkS_con (hsm h)
 have cc2 := fun (h : FP = true) => chkS_con (f := f) (p := { p with observer := o }) ⟨(hsm h).sf, (hsm h).sp, (hsm h).rep, (hsm h).nv, (hsm h).nn, (hsm h).nl⟩
 have hrf := fun (h0 : A = 0) => raised_facts (f := f) (p := p) (o := o) (hA.trans h0)
 have hlen : FP = true → A = 0 → (tyE f p).1.length ≤ 1000000 := fun h h0 => by
  rw [fin_len (hgd h0)]
  have := (hsm h).nv
  omega
 have hfl : FP = true → A = 0 → (tyE f p).2.faults.length ≤ 1000000 := fun h h0 => by
  have h1 := fa_len (hgd h0)
  have h2 := (hsm h).nn
  omega
 have hfl2 : FP = true → A = 0 → okI p.n o → p.M p.observer.toNat o.toNat = true → (tyE f { p with observer := o }).2.faults.length ≤ 1000000 := fun h h0 ho hl => by
  have h1 := fa_len (ask_gd (hrf h0 ho hl).1)
  have h2 := (hsm h).nn
  omega
 have hob : A = 0 → okI p.n p.observer := fun h0 => (hgd h0).ho
 unfold chkR at cc1 cc2
 obtain ⟨T1, hT1⟩ : ∃ x, tyE f p = x := ⟨_, rfl⟩
 obtain ⟨T2, hT2⟩ : ∃ x, tyE f { p with observer := o } = x := ⟨_, rfl⟩
 obtain ⟨B1, hB1⟩ : ∃ x, accB f p = x := ⟨_, rfl⟩
 obtain ⟨B2, hB2⟩ : ∃ x, accB f { p with observer := o } = x := ⟨_, rfl⟩
 obtain ⟨A2, hA2⟩ : ∃ x, askC f { p with observer := o } = x := ⟨_, rfl⟩
 simp only [hT1, hT2, hB1, hB2, hA2, hA] at cc1 cc2 hrf hlen hfl hfl2
 obtain ⟨F1, t1⟩ := T1
 obtain ⟨F2, t2⟩ := T2
 simp only at cc1 cc2 hrf hlen hfl hfl2
 obtain ⟨time1, fa1, _, _, _, _⟩ := t1
 obtain ⟨time2, fa2, _, _, _, _⟩ := t2
 simp only at cc1 cc2 hrf hlen hfl hfl2
 unfold laT Lt.latT at *
 unfold Lt.matB at cL cin ctop
 obtain ⟨R, hR⟩ : ∃ x, ((List.range p.levels.length).map fun a => [CD.sl 1 (Lt.rowB p.levels.length p.M a)]) = x := ⟨_, rfl⟩
 have hrow : ∀ m : Nat, m < p.n → R[m]? = some [CD.sl 1 (Lt.rowB p.n p.M m)] := fun m hm => by
  rw [← hR, List.getElem?_map, List.getElem?_range (show m < p.levels.length from hm)]
  rfl
 rw [hR] at cL cin ctop
 obtain ⟨NS, hNS⟩ : ∃ x, Lt.nsC p.levels = x := ⟨_, rfl⟩
 have hNS' : ∃ r, NS = .sl 1 r := ⟨_, hNS.symm⟩
 rw [hNS] at cL cin ctop
 obtain ⟨NR, hNR⟩ := hNS'
 subst hNR
 obtain ⟨n, hn⟩ : ∃ x, p.n = x := ⟨_, rfl⟩
 obtain ⟨M, hM⟩ : ∃ x, p.M = x := ⟨_, rfl⟩
 obtain ⟨TP, hTP⟩ : ∃ x, p.top = x := ⟨_, rfl⟩
 rw [hn] at cin hob
 rw [hTP] at ctop
 simp only [hn, hM, hTP] at hrow hrf hfl2
 clear hT1 hT2 hB1 hB2 hA2 hA hFP hsm hgd hR hNS hn hM hTP
 obtain ⟨vars, hats, body⟩ := f
 obtain ⟨ls, os, is, hts, ob, tm⟩ := p
 simp only at hob hrf cc1 cc2 cL hfl2
 refine con_of_HT Tryz.func4 rfl (by kernel_rfl) (Nat.le_of_ble_eq_true rfl) ?_
 simp only [Tryz.f4]
 simp only [aF, Fl.enc, aPo, Po.enc, List.map_cons, List.map_nil] at cf ca cL cc1 cc2 ⊢
 refine HT_seq <| HT_runA ?_
 refine HT_seq <| HT_seq <| (HT_runcA [⟨true, .v (lb true), none⟩] ?_ ?_)
 · first | exact ck _ | exact trivial | simpa [*] using ck _
 refine (HT_cond rfl (fun h2 => ?_) (fun h2 => HT_skip ?_))
 · exact absurd h2 (by simp)
 · try simp only [BN] at h2
   rcases Bool.eq_false_or_eq_true FP with hfp | hfp
   · subst hfp
     have ca := ca rfl
     refine HT_seq <| HT_seq <| (HT_runcA [⟨true, .v (lb true), none⟩, ⟨true, .v (li A), none⟩] ?_ ?_)
     · first | exact ⟨cf _, ca _⟩ | exact trivial | (repeat' first | exact trivial | exact cf _ | exact ca _ | apply And.intro)
     refine (HT_cond rfl (fun h6 => ?_) (fun h6 => HT_skip ?_))
     · try simp only [BN] at h6
       refine HT_seq <| HT_runA ?_
       exact HT_retA fun h => ⟨.inr rfl, h⟩
     · try simp only [BN] at h6
       have ha0 : A = 0 := by simpa using h6
       subst ha0
       have cL := cL rfl rfl
       have ctop := ctop rfl
       have cc1 := cc1 rfl
       have cc2 := cc2 rfl
       have hrf := hrf rfl
       have hlen := hlen rfl rfl
       have hfl := hfl rfl rfl
       have hfl2 := hfl2 rfl rfl
       have hob := hob rfl
       rw [if_pos rfl] at cc1
       obtain ⟨m, rfl, hm⟩ := okI_nat hob
       have hrm := hrow m hm
       clear ca cf hrow ck
       refine HT_seq <| (HT_runcA [⟨false, .v (.agg [.c (.sl 1 NR), .c (.sl 1 R)]), none⟩] ?_ ?_)
       · first | exact cL _ | exact trivial | simpa [*] using cL _
       rcases Bool.eq_false_or_eq_true (Lt.inB n o) with hin | hin
       · obtain ⟨k, rfl, hk⟩ := Lt.inB_nat hin
         have hS := Lt.rowB_get (M := M) (a := m) hk
         rw [hin] at cin
         obtain ⟨S, hSS⟩ : ∃ x, Lt.rowB n M m = x := ⟨_, rfl⟩
         rw [hSS] at hrm hS
         obtain ⟨bb, hbb⟩ : ∃ x, M m k = x := ⟨_, rfl⟩
         rw [hbb] at hS
         have hrf := hrf ⟨by omega, by omega⟩
         have hfl2 := hfl2 ⟨by omega, by omega⟩
         simp only [Int.toNat_natCast, hbb] at hrf hfl2
         clear hSS hbb hin
         refine HT_seq <| HT_seq <| (HT_runcA [⟨true, .v (lb true), none⟩] ?_ ?_)
         · first | exact cin _ | exact trivial | simpa [*] using cin _
         refine (HT_cond rfl (fun h11 => ?_) (fun h11 => HT_skip ?_))
         · try simp only [BN] at h11
           refine HT_seq <| HT_runA ?_
           exact HT_retA fun h => ⟨.inr rfl, h⟩
         · try simp only [BN] at h11
           have hb1 : bb = true := by simpa using h11
           subst hb1
           obtain ⟨r1, r2, r3, r4, r5, r6⟩ := hrf rfl
           have hfl2 := hfl2 rfl
           subst r1 r2 r3
           rw [if_pos rfl] at cc2
           refine HT_seq <| HT_runA ?_
           refine HT_seq <| HT_runA ?_
           refine HT_seq <| (HT_runcA [⟨false, .tup [.agg [.c (bC B1), .c (.sl 1 (encIs fa1)), .c (iC time2), .c (.sl 1 (encIs F2))], li 0], none⟩] ?_ ?_)
           · first | exact cc1 _ | exact trivial | simpa [*] using cc1 _
           refine HT_seq <| (HT_runcA [⟨false, .tup [.agg [.c (bC B2), .c (.sl 1 (encIs fa2)), .c (iC time2), .c (.sl 1 (encIs F2))], li 0], none⟩] ?_ ?_)
           · first | exact cc2 _ | exact trivial | simpa [*] using cc2 _
           have he := eqSl_con F2 F2 (by omega) (by omega)
           rw [decide_eq_true rfl] at he
           clear cc1 cc2 cL
           rcases Bool.eq_false_or_eq_true B1 with hb | hb
           · subst hb
             have hb2 := r5 rfl
             subst hb2
             refine HT_seq <| HT_seq <| (HT_runcA [⟨true, .v (lb true), none⟩] ?_ ?_)
             · first | exact he _ | exact trivial | simpa [*] using he _
             refine (HT_cond rfl (fun h19 => ?_) (fun h19 => HT_skip ?_))
             · exact absurd h19 (by simp)
             · try simp only [BN] at h19
               refine HT_seq <| HT_seq <| HT_runA ?_
               refine HT_block <| (HT_loopU [2, 7, 9, 11, 91, 92] (fun (x : Nat) => [(93, .v (li x))]) (fun (x : Nat) => [(7, .box [.c (.sl 1 NR), .c (.sl 1 R)]), (9, .box [.c (bC true), .c (.sl 1 (encIs fa1)), .c (iC time2), .c (.sl 1 (encIs F2))]), (11, .box [.c (bC true), .c (.sl 1 (encIs fa2)), .c (iC time2), .c (.sl 1 (encIs F2))])]) (fun (x : Nat) => x ≤ fa2.length) (fun (x : Nat) => fa2.length - x) (0 : Nat) (Nat.zero_le _) ?_ ?_)
               · exact le_mkA (fun n => n) []
               rintro q hq
               simp only [upS, keepS, insS]
               try simp only [keepS, KN, Nat.reduceBEq, if_true, if_false, ins, Nat.reduceLT]
               refine HT_seq <| HT_runA ?_
               refine HT_seq <| (HT_cond rfl (fun h25 => HT_skip ?_) (fun h25 => ?_))
               · try simp only [BN] at h25
                 have hlt : q < fa2.length := by omega
                 obtain ⟨y, hy, _⟩ := at_lt hlt
                 have hw1 := wrap1 hlt (by omega)
                 have hk1 : q + 1 ≤ fa2.length := hlt
                 have cct := contains_con fa1 y (by omega)
                 rw [idxF_zero (r4 y (List.mem_of_getElem? hy))] at cct
                 clear hlt h25 he
                 refine HT_seq <| HT_block <| HT_seq <| HT_runA ?_
                 refine HT_seq <| (HT_runcA [⟨true, .v (lb true), none⟩] ?_ ?_)
                 · first | exact cct _ | exact trivial | simpa [*] using cct _
                 refine (HT_cond rfl (fun h28 => ?_) (fun h28 => HT_skip ?_))
                 · exact absurd h28 (by simp)
                 · try simp only [BN] at h28
                   refine HT_runA ?_
                   exact ⟨q + 1, hk1, by omega, le_mkA (fun n => n) []⟩
               · try simp only [BN] at h25
                 refine (HT_exit ?_)
                 by_cases hkt : (k : Int) = TP
                 · clear r4 r5 he h25
                   refine HT_seq <| (HT_runcA [⟨true, .v (li TP), none⟩] ?_ ?_)
                   · first | exact ctop _ | exact trivial | simpa [*] using ctop _
                   exact HT_retA fun h => ⟨.inr rfl, h⟩
                 · clear r4 r5 r6 he h25
                   refine HT_seq <| (HT_runcA [⟨true, .v (li TP), none⟩] ?_ ?_)
                   · first | exact ctop _ | exact trivial | simpa [*] using ctop _
                   exact HT_retA fun h => ⟨.inr rfl, h⟩
           · subst hb
             refine HT_seq <| HT_seq <| (HT_runcA [⟨true, .v (lb true), none⟩] ?_ ?_)
             · first | exact he _ | exact trivial | simpa [*] using he _
             refine (HT_cond rfl (fun h19 => ?_) (fun h19 => HT_skip ?_))
             · exact absurd h19 (by simp)
             · try simp only [BN] at h19
               refine HT_seq <| HT_seq <| HT_runA ?_
               refine HT_block <| (HT_loopU [2, 7, 9, 11, 91, 92] (fun (x : Nat) => [(93, .v (li x))]) (fun (x : Nat) => [(7, .box [.c (.sl 1 NR), .c (.sl 1 R)]), (9, .box [.c (bC false), .c (.sl 1 (encIs fa1)), .c (iC time2), .c (.sl 1 (encIs F2))]), (11, .box [.c (bC B2), .c (.sl 1 (encIs fa2)), .c (iC time2), .c (.sl 1 (encIs F2))])]) (fun (x : Nat) => x ≤ fa2.length) (fun (x : Nat) => fa2.length - x) (0 : Nat) (Nat.zero_le _) ?_ ?_)
               · exact le_mkA (fun n => n) []
               rintro q hq
               simp only [upS, keepS, insS]
               try simp only [keepS, KN, Nat.reduceBEq, if_true, if_false, ins, Nat.reduceLT]
               refine HT_seq <| HT_runA ?_
               refine HT_seq <| (HT_cond rfl (fun h25 => HT_skip ?_) (fun h25 => ?_))
               · try simp only [BN] at h25
                 have hlt : q < fa2.length := by omega
                 obtain ⟨y, hy, _⟩ := at_lt hlt
                 have hw1 := wrap1 hlt (by omega)
                 have hk1 : q + 1 ≤ fa2.length := hlt
                 have cct := contains_con fa1 y (by omega)
                 rw [idxF_zero (r4 y (List.mem_of_getElem? hy))] at cct
                 clear hlt h25 he
                 refine HT_seq <| HT_block <| HT_seq <| HT_runA ?_
                 refine HT_seq <| (HT_runcA [⟨true, .v (lb true), none⟩] ?_ ?_)
                 · first | exact cct _ | exact trivial | simpa [*] using cct _
                 refine (HT_cond rfl (fun h28 => ?_) (fun h28 => HT_skip ?_))
                 · exact absurd h28 (by simp)
                 · try simp only [BN] at h28
                   refine HT_runA ?_
                   exact ⟨q + 1, hk1, by omega, le_mkA (fun n => n) []⟩
               · try simp only [BN] at h25
                 refine (HT_exit ?_)
                 by_cases hkt : (k : Int) = TP
                 · have hb2 := r6 hkt
                   subst hb2
                   clear r4 r5 he h25
                   refine HT_seq <| (HT_runcA [⟨true, .v (li TP), none⟩] ?_ ?_)
                   · first | exact ctop _ | exact trivial | simpa [*] using ctop _
                   exact HT_retA fun h => ⟨.inr rfl, h⟩
                 · clear r4 r5 r6 he h25
                   refine HT_seq <| (HT_runcA [⟨true, .v (li TP), none⟩] ?_ ?_)
                   · first | exact ctop _ | exact trivial | simpa [*] using ctop _
                   exact HT_retA fun h => ⟨.inr rfl, h⟩
       · rcases Lt.inB_no hin with hno | ⟨k, rfl, hk⟩
         · obtain ⟨S, hSS⟩ : ∃ x, Lt.rowB n M m = x := ⟨_, rfl⟩
           rw [hin] at cin
           rw [hSS] at hrm
           refine HT_seq <| HT_seq <| (HT_runcA [⟨true, .v (lb false), none⟩] ?_ ?_)
           · first | exact cin _ | exact trivial | simpa [*] using cin _
           refine (HT_cond rfl (fun h11 => ?_) (fun h11 => HT_skip ?_))
           · try simp only [BN] at h11
             refine HT_seq <| HT_runA ?_
             exact HT_retA fun h => ⟨.inr rfl, h⟩
           · exact absurd h11 (by simp)
         · have hS := Lt.rowB_no (M := M) (a := m) hk
           obtain ⟨S, hSS⟩ : ∃ x, Lt.rowB n M m = x := ⟨_, rfl⟩
           rw [hin] at cin
           rw [hSS] at hrm hS
           refine HT_seq <| HT_seq <| (HT_runcA [⟨true, .v (lb false), none⟩] ?_ ?_)
           · first | exact cin _ | exact trivial | simpa [*] using cin _
           refine (HT_cond rfl (fun h11 => ?_) (fun h11 => HT_skip ?_))
           · try simp only [BN] at h11
             refine HT_seq <| HT_runA ?_
             exact HT_retA fun h => ⟨.inr rfl, h⟩
           · exact absurd h11 (by simp)
   · subst hfp
     refine HT_seq <| HT_seq <| (HT_runcS [some ⟨true, .v (lb false), none⟩, none] (by simp [*]; first | exact ⟨rfl, Iff.rfl⟩ | exact ⟨rfl, trivial⟩ | rfl) ?_ ?_)
     · first | exact trivial | exact cf _ | simpa using cf _
     refine (HT_cond rfl (fun h6 => ?_) (fun h6 => HT_skip ?_))
     · try simp only [BN] at h6
       refine HT_seq <| HT_runA ?_
       exact HT_retA fun h => ⟨.inr rfl, h⟩
     · exact absurd h6 (by simp)
end Go.Proofs.YtfjidddhehckoaaGreat
