/- HlJ: part of an evaluator of Go code over abstract states, proved sound over the model; used by the proof of the claimed statement. Conditions: none. -/
import Derived.Test.YtpnhnldneecpnaaHlI
namespace Go.Hl
open Go Go.RowKit

section
variable {P : Program} {F : Nat → Prop} {γ : Nat → Value} {w w' w0 : World} {B : Nat}

theorem more_sound {objs : List (Nat × Ob)} {g : Operand → RV} {ρ : Operand → Value} {y : Operand} {size : Nat} {rows : List (List CD)} (hpos : 0 < size) (hh : HeapRel w0 B F γ objs w)
    (hg : RVRel F γ w (g y) (ρ y)) (h : moreOf objs size (g y) = some rows) :
    (∀ r ∈ rows, r.length = size) ∧ ((ρ y = .slice none 0 0 ∧ rows = []) ∨ ∃ a c, ∃ news : List Value, ρ y = .slice (some a) rows.length c ∧ news.length = rows.length * size ∧
      (∀ j u, news[j]? = some u → w.cell? (a.add j) = some u) ∧ (∀ u ∈ news, u.oneCell' = true) ∧
      ∀ i j d, getRC rows i j = some d → ∃ u, news[i * size + j]? = some u ∧ CRel F w d u) := by
  unfold moreOf at h
  split at h
  · rename_i s rows' hgy
    split at h
    · rename_i hs
      subst hs
      cases h
      rw [hgy] at hg
      rcases CRel.sl_inv (show CRel F w (.sl s rows) (ρ y) from hg) with ⟨rfl, hv | ⟨a, c, hv⟩⟩ | ⟨b, o', cap, cells, hv, hF, hcap, hmax, hs, hc, h1, hr⟩
      · exact ⟨by simp, .inl ⟨hv, rfl⟩⟩
      · exact ⟨by simp, .inr ⟨a, c, [], by simpa using hv, by simp, by simp, by simp, by simp [getRC]⟩⟩
      · have hex : ∀ k, k < rows.length * s → ∃ d, getRC rows (k / s) (k % s) = some d := by
          intro k hk
          have hlt : k / s < rows.length := Nat.div_lt_of_lt_mul (by rw [Nat.mul_comm]; exact hk)
          have hm : k % s < s := Nat.mod_lt _ hpos
          have hl : rows[k / s].length = s := hs _ (List.getElem_mem hlt)
          exact ⟨rows[k / s][k % s]'(by rw [hl]; exact hm), by simp [getRC, List.getElem?_eq_getElem hlt]⟩
        have hdm : ∀ k, k / s * s + k % s = k := fun k => by rw [Nat.mul_comm]; exact Nat.div_add_mod k s
        refine ⟨hs, .inr ⟨⟨b, o', none⟩, cap, (List.range (rows.length * s)).map fun k => cells (k / s) (k % s), hv, by simp, ?_, ?_, ?_⟩⟩
        · intro j u hu
          rw [List.getElem?_map] at hu
          simp only [Option.map_eq_some_iff] at hu
          obtain ⟨k, hk, rfl⟩ := hu
          have hk' : j < rows.length * s ∧ j = k := by
            have := List.getElem?_eq_some_iff.1 hk
            simpa using this
          obtain ⟨hlt, rfl⟩ := hk'
          obtain ⟨d, hd⟩ := hex j hlt
          have := hc _ _ d hd
          rw [hdm] at this
          rw [add_mk]; exact this
        · intro u hu
          obtain ⟨k, hk, rfl⟩ := List.mem_map.1 hu
          obtain ⟨d, hd⟩ := hex k (by simpa using hk)
          exact h1 _ _ d hd
        · intro i j d hd
          obtain ⟨hi, hj⟩ := getRC_lt hs hd
          have hlt : i * s + j < rows.length * s := by
            have : (i + 1) * s ≤ rows.length * s := Nat.mul_le_mul_right _ hi
            rw [Nat.add_mul] at this; omega
          have e1 : (i * s + j) / s = i := by rw [Nat.mul_comm, Nat.mul_add_div hpos, Nat.div_eq_of_lt hj, Nat.add_zero]
          have e2 : (i * s + j) % s = j := by rw [Nat.mul_comm, Nat.mul_add_mod, Nat.mod_eq_of_lt hj]
          exact ⟨cells i j, by simp [hlt, e1, e2], hr i j d hd⟩
    · cases h
  · rename_i m hgy
    split at h
    · rename_i e s rows' hl
      split at h
      · rename_i hs
        subst hs
        cases h
        rw [hgy] at hg
        obtain ⟨hv, _⟩ := hg
        obtain ⟨h0, hss, xs, hown, h1, hc⟩ := hh.ob m _ hl
        refine ⟨hss, ?_⟩
        rcases hown.2 with ⟨hγ, hn⟩ | ⟨b, cap, cur, hγ, rest⟩
        · exact .inl ⟨hv.trans hγ, List.eq_nil_of_length_eq_zero hn⟩
        · refine .inr ⟨⟨b, 0, none⟩, cap, xs, hv.trans hγ, hown.1, ?_, h1, hc⟩
          rw [hγ] at hown
          exact hown.cells (g := b) rfl
      · cases h
    · cases h
  · cases h

theorem getRC_append {α : Type} (a b : List (List α)) (i j : Nat) : getRC (a ++ b) i j = if i < a.length then getRC a i j else getRC b (i - a.length) j := by
  unfold getRC
  by_cases h : i < a.length
  · rw [if_pos h, List.getElem?_append_left h]
  · rw [if_neg h, List.getElem?_append_right (Nat.le_of_not_lt h)]

/-- the append itself, onto a row that is nil or the call's own -/
theorem append_row {t e ty : TypeId} {ti : TI} (hu : P.underlying t = some (.slice e)) (hti : tyOf P e = some ti) (hpos : 0 < ti.size) (hzl : ti.zero.length = ti.size)
    {v src : Value} {rows more : List (List CD)} {xs : List Value} (hown : w.ownsRow B e ti.size v rows.length xs) (hB : B ≤ w.heap.size)
    (hs : ∀ r ∈ rows, r.length = ti.size) (hx1 : ∀ u ∈ xs, u.oneCell' = true) (hxc : ∀ i j d, getRC rows i j = some d → ∃ u, xs[i * ti.size + j]? = some u ∧ CRel F w d u)
    (hms : ∀ r ∈ more, r.length = ti.size)
    (hsrc : (src = .slice none 0 0 ∧ more = []) ∨ ∃ a c, ∃ news : List Value, src = .slice (some a) more.length c ∧ news.length = more.length * ti.size ∧
      (∀ j u, news[j]? = some u → w.cell? (a.add j) = some u) ∧ (∀ u ∈ news, u.oneCell' = true) ∧
      ∀ i j d, getRC more i j = some d → ∃ u, news[i * ti.size + j]? = some u ∧ CRel F w d u)
    (hmax : rows.length + more.length ≤ maxLen) (hby : (rows.length + more.length) * ti.bytes ≤ 140737488355328)
    (hF : ∀ b, F b → b < w.heap.size) (hFv : ∀ b, v.ownBlock = some b → ¬ F b) :
    ∃ v' w', (Builtin.append_ #[t, t] ty #[v, src]).run P w = .ok v' w' ∧ w.grownBy w' v.ownBlock ∧ (∀ b, blk v' = some b → w.heap.size ≤ b ∨ v.ownBlock = some b) ∧
      (∃ a l c, v' = .slice a l c) ∧ (∀ b, F b → w'.heap[b]? = w.heap[b]?) ∧ ∀ γ', ObRel F γ' w' B v' (.row e ti.size (rows ++ more)) := by
  obtain ⟨i, td, z, hi, htd, hz, h1, h2, h3, h4, h5⟩ := tyOf_some hti
  have hzs : z.cells.size = ti.size := by rw [← hzl, h4]; simp
  have hvform : ∃ a l c, v = .slice a l c := by
    rcases hown.2 with ⟨rfl, _⟩ | ⟨b, cap, cur, rfl, _⟩
    · exact ⟨_, _, _, rfl⟩
    · exact ⟨_, _, _, rfl⟩
  rcases hsrc with ⟨rfl, rfl⟩ | ⟨a, c, news, rfl, hl, hnews, hn1, hnc⟩
  · refine ⟨v, w, ?_, ⟨rfl, rfl, rfl, Nat.le_refl _, fun _ _ _ => rfl⟩, ?_, hvform, fun _ _ => rfl, fun γ' => ?_⟩
    · rcases hown.2 with ⟨rfl, hr⟩ | ⟨b, cap, cur, rfl, hb, hh, hnc', _⟩
      · simp [Builtin.append_, run_underlying hu, sizeOf, typeInfo, hi, Builtin.lenOf, Builtin.firstCells]
      · simp [Builtin.append_, run_underlying hu, sizeOf, typeInfo, hi, Builtin.lenOf, Builtin.firstCells, hnc', storeCells]
    · intro b hb
      obtain ⟨a', l', c', rfl⟩ := hvform
      exact .inr (by cases a' <;> simp_all [blk, Value.ownBlock])
    · rw [List.append_nil]
      exact ⟨hpos, hs, xs, hown, hx1, hxc⟩
  · obtain ⟨v', w', hrun, hown', hgr, _⟩ := run_append_own (P := P) w B t ty e i z ti.size ti.bytes hu hi hz h1 h2 hzs hpos v rows.length xs hown a more.length c news hl hnews hn1 hmax hby hB
    have hF' : ∀ b, F b → w'.heap[b]? = w.heap[b]? := fun b hb => hgr.block b (hF b hb) fun e' => hFv b e'.symm hb
    have hmax' := hmax
    unfold maxLen at hmax'
    refine ⟨v', w', hrun, hgr, ?_, ?_, hF', fun γ' => ⟨hpos, ?_, xs ++ news, by rw [List.length_append]; exact hown', ?_, ?_⟩⟩
    · intro b hb
      rcases hown.2 with ⟨rfl, hr0⟩ | ⟨g, cap, cur, rfl, hBg, hg, hnc', hcm, hcs, htake⟩
      · by_cases hm : more.length = 0
        · rcases hown'.2 with ⟨rfl, _⟩ | ⟨b', cap', cur', rfl, _⟩
          · simp [blk] at hb
          · have hn : news = [] := List.eq_nil_of_length_eq_zero (by rw [hl, hm, Nat.zero_mul])
            subst hn
            rw [hm] at hrun
            simp [Builtin.append_, run_underlying hu, sizeOf, typeInfo, hi, Builtin.lenOf, Builtin.firstCells, loadCells, loadCellsFrom] at hrun
        · have hr := run_append_nil (P := P) w t ty e i z hu hi hz a more.length c news (by rw [hl, h1]) hnews (by omega) (by omega) (by
            rw [h2]
            have : (rows.length + more.length) * ti.bytes = rows.length * ti.bytes + more.length * ti.bytes := Nat.add_mul _ _ _
            omega)
          rw [hr] at hrun
          cases hrun
          cases hb
          exact .inl (Nat.le_refl _)
      · by_cases hroom : rows.length + more.length ≤ cap
        · have hfit : rows.length * i.size + news.length ≤ cur.size := by rw [hl, hcs, h1, ← Nat.add_mul]; exact Nat.mul_le_mul_right _ hroom
          have hr := run_append_room (P := P) w t ty e i hu hi g rows.length cap cur hg a more.length c news (by rw [hl, h1]) hnews hn1 hroom hfit
          rw [hr] at hrun
          cases hrun
          cases hb
          exact .inr rfl
        · have hcell := hown.cells (g := g) rfl
          have hr := run_append_grow (P := P) w t ty e i z hu hi hz ⟨g, 0, none⟩ rows.length cap xs (by rw [hown.1, h1]) hcell a more.length c news (by rw [hl, h1]) hnews (by omega) (by omega) (growslice_fits (by omega) (by rw [h2]; exact hby))
          rw [hr] at hrun
          cases hrun
          cases hb
          exact .inl (Nat.le_refl _)
    · rcases hown'.2 with ⟨rfl, _⟩ | ⟨b, cap, cur, rfl, _⟩
      · exact ⟨_, _, _, rfl⟩
      · exact ⟨_, _, _, rfl⟩
    · intro r hr
      rcases List.mem_append.1 hr with hr | hr
      · exact hs r hr
      · exact hms r hr
    · intro u hu'
      rcases List.mem_append.1 hu' with hu' | hu'
      · exact hx1 u hu'
      · exact hn1 u hu'
    · intro i' j d hd
      rw [getRC_append] at hd
      by_cases hlt : i' < rows.length
      · rw [if_pos hlt] at hd
        obtain ⟨u, hu', hr⟩ := hxc i' j d hd
        refine ⟨u, ?_, hr.mono (fun _ h => h) hF'⟩
        rw [List.getElem?_append_left (List.getElem?_eq_some_iff.1 hu').1]
        exact hu'
      · rw [if_neg hlt] at hd
        obtain ⟨u, hu', hr⟩ := hnc (i' - rows.length) j d hd
        refine ⟨u, ?_, hr.mono (fun _ h => h) hF'⟩
        have hge : rows.length * ti.size ≤ i' * ti.size := Nat.mul_le_mul_right _ (Nat.le_of_not_lt hlt)
        rw [List.getElem?_append_right (by rw [hown.1]; omega), hown.1]
        rw [← hu']
        congr 1
        rw [Nat.sub_mul]; omega

theorem blk_own {v : Value} (h : ∃ a l c, v = .slice a l c) : blk v = v.ownBlock := by
  obtain ⟨a, l, c, rfl⟩ := h
  cases a <;> rfl

theorem append_sound {objs objs' : List (Nat × Ob)} {g : Operand → RV} {ρ : Operand → Value} {o : Oper} {dst : Option Nat} {r : RV} {args : Array Operand} {ts : Array TypeId} (hh : HeapRel w0 B F γ objs w)
    (hg : ∀ x, RVRel F γ w (g x) (ρ x)) (hd : ∀ d, dst = some d → ∀ n o, lkp objs n = some o → n ≠ d ∧ ¬ o.men d)
    (ho : o.op = .call { callee := .builtin .append, args := args, argTypes := ts }) (hsz : args.size = 2 ∧ ts.size = 2)
    (h : evW P objs g dst (.call { callee := .builtin .append, args := args, argTypes := ts }) = some (r, objs')) : Did P ρ o w0 B F γ w dst r objs' := by
  obtain ⟨x, y, rfl⟩ : ∃ x y, args = #[x, y] := by
    obtain ⟨l⟩ := args
    match l, hsz.1 with
    | [x, y], _ => exact ⟨x, y, rfl⟩
  obtain ⟨t, t', rfl⟩ : ∃ t t', ts = #[t, t'] := by
    obtain ⟨l⟩ := ts
    match l, hsz.2 with
    | [x, y], _ => exact ⟨x, y, rfl⟩
  unfold Did execOp
  rw [ho]
  cases dst with
  | none => simp [evW] at h
  | some d =>
    have hd' := hd d rfl
    simp only [evW, List.getElem?_toArray, List.getElem?_cons_zero, List.getElem?_cons_succ] at h
    split at h
    · rename_i htt
      subst htt
      split at h
      · rename_i e he
        have hu := elemOf_some he
        split at h
        · rename_i ti hti
          split at h
          · rename_i n rows more hbase hmore
            split at h
            · rename_i hcond
              obtain ⟨hpos, hzl, hmax, hby⟩ := hcond
              obtain ⟨hms, hsrc⟩ := more_sound hpos hh (hg y) hmore
              simp only [baseOf] at hbase
              split at hbase
              · rename_i hgx
                cases hbase
                cases h
                have hx := hg x
                rw [hgx] at hx
                have hv : ρ x = .slice none 0 0 := RVRel.lit_eq rfl hx
                obtain ⟨v', w', hrun, hgr, hblk, hform, hFk, hob⟩ := append_row (P := P) (F := F) (w := w) (B := B) (ty := o.type) hu hti hpos hzl (v := .slice none 0 0) (src := ρ y) (rows := []) (more := more) (xs := [])
                  (World.ownsRow_nil w B e ti.size) hh.hB (by simp) (by simp) (by simp [getRC]) hms hsrc hmax hby hh.fsz (by simp [Value.ownBlock])
                refine ⟨.value v', v', w', upd γ d v', ?_, .inl rfl, ?_, ⟨by rw [upd_same], hform⟩, fun n hn => upd_other _ (fun e => hn (by rw [e])), hgr.size, hFk⟩
                · simp [resolve, invoke, builtin, hv, hrun]
                · exact hh.made hd' (hh.below.grown hgr hh.hB (by simp [Value.ownBlock])) hgr.size (fun b hb => hgr.block b hb (by simp [Value.ownBlock])) (fun b hb => (hblk b hb).resolve_right (by simp [Value.ownBlock])) (by simpa using hob (upd γ d v'))
              · rename_i n' hgx
                split at hbase
                · rename_i e' s rows' hl
                  split at hbase
                  · rename_i hes
                    obtain ⟨rfl, rfl⟩ := hes
                    cases hbase
                    cases h
                    have hx := hg x
                    rw [hgx] at hx
                    obtain ⟨hv, hvf⟩ := hx
                    obtain ⟨h0, hss, xs, hown, hx1, hxc⟩ := hh.ob n' _ hl
                    have hbo := blk_own (hv ▸ hvf)
                    obtain ⟨v', w', hrun, hgr, hblk, hform, hFk, hob⟩ := append_row (P := P) (F := F) (w := w) (B := B) (ty := o.type) hu hti hpos hzl (v := γ n') (src := ρ y) (rows := rows) (more := more) (xs := xs)
                      hown hh.hB hss hx1 hxc hms hsrc hmax hby hh.fsz (fun b hb => hh.apart n' _ hl b (by rw [hbo]; exact hb))
                    refine ⟨.value v', v', w', upd γ d v', ?_, .inl rfl, ?_, ⟨by rw [upd_same], hform⟩, fun n hn => upd_other _ (fun e => hn (by rw [e])), hgr.size, hFk⟩
                    · simp [resolve, invoke, builtin, hv, hrun]
                    · refine hh.moved hl hd' (hh.below.grown hgr hh.hB fun k hk => ?_) hgr.size (fun b hb hne => hgr.block b hb (fun e => hne (by rw [hbo]; exact e.symm))) (fun b hb => ?_) (hob (upd γ d v'))
                      · exact ((hh.ob n' _ hl).blk_lt (by rw [hbo]; exact hk)).1
                      · rw [hbo]; exact hblk b hb
                  · cases hbase
                · cases hbase
              · cases hbase
            · cases h
          · cases h
        · cases h
      · cases h
    · cases h
end
end Go.Hl
