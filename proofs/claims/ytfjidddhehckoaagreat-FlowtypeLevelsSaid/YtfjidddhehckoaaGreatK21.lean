/- Part 21: contracts of functions of the program and of the reference, and plain facts about what they compute; used by the proof of the claimed statement. Conditions: as each theorem states. -/
import Derived.Test.YtfjidddhehckoaaGreatK13
import Derived.Test.YtfjidddhehckoaaGreatK20
import Derived.Test.YtfjidddhehckoaaGreatK14
set_option linter.unusedSimpArgs false
set_option linter.unusedVariables false
set_option linter.unnecessarySimpa false
set_option maxRecDepth 100000
set_option maxHeartbeats 2000000
namespace Go.Hl
open Go Go.RowKit
def mdpL:List Nat→List (List Nat)
 |[]=>[[]]
 |a::l=>mdpL l++(mdpL l).map (a:: ·)
theorem mdp_filter (q:Nat→Bool):∀l:List Nat,l.filter q∈mdpL l
 |[]=>by simp[mdpL]
 | a::l=>by
   simp only[mdpL,List.mem_append,List.mem_map,List.filter_cons];split
   · exact .inr ⟨_,mdp_filter q l,rfl⟩
   exact .inl (mdp_filter q l)
def mdpB (ops:Array Oper) (p:Nat) (fr:List Nat):Bool:=
 (List.range ops.size).all fun j=>decide (j=p)||(if j<p then predB ops ops.size p j||fr.contains j else predB ops ops.size j p)
def mdpF (ops:Array Oper) (p:Nat) (fr:List Nat):Bool:=fr==(List.range ops.size).filter fun j=>decide (j<p)&&fr.contains j
def mdpI (hs:List (Nat×Nat)) (ops:Array Oper) (p:Nat) (fr:List Nat):Bool:=
 fr.all fun i=>match ops[i]? with
  | some oi=>(List.range p).all fun j=>fr.contains j||(match ops[j]? with
    |some q=>predB ops ops.size i j||indepH hs ops q oi
    |none=>true)
  |none=>false
section
variable {P:Program} {ops:Array Oper}
theorem any_mdpK {hs:List (Nat×Nat)} {w0:World} {B:Nat→Prop} {π:Nat→Option Value} {tR:List Nat→HS} {p:Nat} {fr:List Nat} {o:Oper} {f:FuncId} {d:Nat} {objs objs':List (Nat×Ob)} {args:List TV} {ρ σ:Nat→Nat} {r:RV} {Q:Exit→Act→World→Prop}
  (hd:drawH hs ops=true) (hmid:mdpB ops p fr=true) (hfr:mdpF ops p fr=true) (hfi:mdpI hs ops p fr=true) (hstep:∀R∈mdpL fr,∀i∈R,∀oi,ops[i]? =some oi→runsH P ops hs [oi] (tR R) (fun u=>u=tR (R.filter fun j=>decide (j≠i)))) (ho:ops[p]? =some o) (hg:∀R∈mdpL fr,gOfC (tR R) o=some (f,args.map (TV.ren ρ []),d)) (hh:∀R∈mdpL fr,HandS ρ σ objs objs' (tR R)) (hcon:ConS P f objs args r objs') (hout:okRV (objs'.map (·.1)) r=true):
  ∀(fuel:Nat) (listed:Array Bool) (s:HS) (F:Nat→Prop) (γ:Nat→Value) (a:Act) (w:World),
  listed.size=ops.size→(∀i o,ops[i]? =some o→listed.getD i false=true→∀e∈o.after,Region.binds .any e=true→listed.getD e.on false=true)→p∈rest ops listed→
  (rest ops listed).length≤fuel→(∀q∈opers ops (rest ops listed),okName s q)→Rel w0 B π F γ s a w→
  runsH P ops hs (opers ops ((rest ops listed).filter fun j=>decide (j<p)&& !fr.contains j)) s (fun u=>u=tR ((rest ops listed).filter fun j=>decide (j<p)&&fr.contains j))→
  (∀R∈mdpL fr,∀(fuel':Nat) (listed':Array Bool) F' γ' a' w',listed'.size=ops.size→(∀i o,ops[i]? =some o→listed'.getD i false=true→∀e∈o.after,Region.binds .any e=true→listed'.getD e.on false=true)→rest ops listed'=R++((List.range ops.size).filter fun j=>decide (p<j))→(rest ops listed').length≤fuel'→(∀b,F b→F' b)→(∀b,F' b→F b∨¬B b)→Rel w0 B π F' γ' (({tR R with objs:=addS σ objs' (dels (objs.map fun p=>ρ p.1) (tR R).objs)}:HS).put (some d) (r.ren σ [])) a' w'→wpAny P .any ops Q fuel' listed' a' w')→wpAny P .any ops Q fuel listed a w:=by
 have hps:p<ops.size:=(Array.getElem?_eq_some_iff.1 ho).1
 have hmid':∀j,j<ops.size→j≠p→(j<p→predB ops ops.size p j=true∨fr.contains j=true)∧(p<j→predB ops ops.size j p=true):=by
  intro j hj hne;unfold mdpB at hmid;rw[List.all_eq_true]at hmid;have:=hmid j (by simpa using hj);rw[Bool.or_eq_true]at this;have:=this.resolve_left (by simpa using hne);split at this
  · exact⟨fun _=>by simpa[Bool.or_eq_true]using this,fun h=>by omega⟩
  exact⟨fun h=>by omega,fun _=>this⟩
 have hfr':fr=(List.range ops.size).filter fun j=>decide (j<p)&&fr.contains j:=by
  unfold mdpF at hfr;exact eq_of_beq hfr
 intro fuel
 induction fuel with
 | zero=>
   intro listed s F γ a w hsz hdc hpr hlen hn hr hw hK;have h0:rest ops listed=[]:=List.eq_nil_of_length_eq_zero (by omega);rw[h0]at hpr;cases hpr
 | succ fuel ih=>
   intro listed s F γ a w hsz hdc hpr hlen hn hr hw hK
   have unl:∀j,j∈rest ops listed→¬listed.getD j false=true:=by
    intro j hj hjl;have hjun:=(mem_rest.1 hj).2;have hjs:j<listed.size:=by rw[hsz];exact(mem_rest.1 hj).1
    rw[Array.getD_eq_getD_getElem?,Array.getElem?_eq_getElem hjs]at hjl hjun;simp only[Option.getD_some]at hjl hjun;rw[hjl]at hjun;cases hjun
   have hmono:∀i,i<ops.size→∀x,listed.getD x false=true→(listed.setIfInBounds i true).getD x false=true:=by
    intro i hlt x hx';by_cases ex:x=i
    · subst ex;simp[hsz,hlt]
    rw[Array.getD_eq_getD_getElem?,Array.getElem?_setIfInBounds_ne (Ne.symm ex),←Array.getD_eq_getD_getElem?];exact hx'
   have hdc':∀i oi,ops[i]? =some oi→(∀e∈oi.after,Region.binds .any e=true→listed.getD e.on false=true)→∀k q,ops[k]? =some q→(listed.setIfInBounds i true).getD k false=true→∀e∈q.after,Region.binds .any e=true→(listed.setIfInBounds i true).getD e.on false=true:=by
    intro i oi hoi hpre k q hq hk e' hee hb;have hlt:i<ops.size:=(Array.getElem?_eq_some_iff.1 hoi).1;by_cases ek:k=i
    · subst ek;rw[hoi]at hq;cases hq;exact hmono k hlt _ (hpre e' hee hb)
    rw[Array.getD_eq_getD_getElem?,Array.getElem?_setIfInBounds_ne (Ne.symm ek),←Array.getD_eq_getD_getElem?]at hk;exact hmono i hlt _ (hdc k q hq hk e' hee hb)
   have hsub:(rest ops listed).filter (fun j=>decide (j<p)&&fr.contains j)∈mdpL fr:=by
    have e1:(rest ops listed).filter (fun j=>decide (j<p)&&fr.contains j)=fr.filter fun j=>(rest ops listed).contains j:=by
     conv=>rhs;rw[hfr']
     rw[List.filter_filter];unfold rest;rw[List.filter_filter];refine List.filter_congr fun j hj=>?_;have hjs:j<ops.size:=by simpa using hj
     by_cases hu:j∈rest ops listed
     · have h1:(rest ops listed).contains j=true:=by simpa using hu
       have h2:(!listed.getD j true)=true:=by
        have:=(mem_rest.1 hu).2;rw[this];rfl
       unfold rest at h1;rw[h1,h2,Bool.and_true,Bool.true_and]
     have h1:(rest ops listed).contains j=false:=by simpa using hu
     have h2:(!listed.getD j true)=false:=by
      cases h3:listed.getD j true with
      |true=>rfl
      |false=>exact absurd (mem_rest.2 ⟨hjs,h3⟩) hu
     unfold rest at h1;rw[h1,h2,Bool.and_false,Bool.false_and]
    rw[e1];exact mdp_filter _ fr
   refine⟨fun h0=>?_,fun i hi=>?_⟩
   · exfalso;cases hres:rest ops listed with
     |nil=>rw[hres]at hpr;cases hpr
     | cons i l=>
       have hi:i∈rest ops listed:=by rw[hres];simp
       obtain⟨hlt,hun⟩:=mem_rest.1 hi
       have:i∈Region.ready .any ops listed:=by
        refine mem_ready.2 ⟨hlt,hun,ops[i],by simp[hlt],fun e he hb=>?_⟩;have hon:=(drawB_at hd (i:=i) (o:=ops[i]) (by simp[hlt])).1 e he hb
        have hnot:e.on∉rest ops listed:=by
         intro hm;have hs:=rest_sorted (ops:=ops) listed;rw[hres]at hs hm;rcases List.mem_cons.1 hm with e'|hm
         · omega
         have:=(List.pairwise_cons.1 hs).1 _ hm;omega
        rw[mem_rest]at hnot;have hel:e.on<listed.size:=by omega
        rw[Array.getD_eq_getD_getElem?,Array.getElem?_eq_getElem hel]at hnot⊢;simp only[Option.getD_some,not_and,Bool.not_eq_false]at hnot⊢;exact hnot (by omega)
       rw[h0]at this;cases this
   obtain⟨hlt,hun,oi,hoi,hpre⟩:=mem_ready.1 hi;have hir:i∈rest ops listed:=mem_rest.2 ⟨hlt,hun⟩;have hset:=rest_set hsz hir;by_cases hip:i=p
   · subst hip;rw[ho]at hoi;cases hoi
     -- what is left ahead of the call is free
     have hleft:∀j∈rest ops listed,j<i→fr.contains j=true:=fun j hj hji=>
      ((hmid' j (mem_rest.1 hj).1 (by omega)).1 hji).resolve_left fun hpd=>unl j hj (pred_listed hdc ops.size i j o ho hpre hpd)
     have hbehind:∀j,j<ops.size→i<j→j∈rest ops listed:=by
      intro j hj hij;refine Classical.byContradiction fun hno=>?_
      have hjl:listed.getD j false=true:=by
       rw[mem_rest]at hno;have hel:j<listed.size:=by omega
       rw[Array.getD_eq_getD_getElem?,Array.getElem?_eq_getElem hel]at hno⊢;simp only[Option.getD_some,not_and,Bool.not_eq_false]at hno⊢;exact hno hj
      obtain⟨oj,hoj⟩:∃oj,ops[j]? =some oj:=⟨ops[j],by simp[hj]⟩;exact unl i hir (pred_listed hdc ops.size j i oj hoj (hdc j oj hoj hjl) ((hmid' j hj (by omega)).2 hij))
     obtain⟨R,hR⟩:∃R,(rest ops listed).filter (fun j=>decide (j<i))=R:=⟨_,rfl⟩
     have hRe:(rest ops listed).filter (fun j=>decide (j<i)&&fr.contains j)=R:=by
      rw[←hR];refine List.filter_congr fun j hj=>?_;by_cases hji:j<i
      · rw[hleft j hj hji,Bool.and_true]
      rw[decide_eq_false hji,Bool.false_and]
     rw[hRe]at hw hsub;have hRs:=hsub
     have hl0:(rest ops listed).filter (fun j=>decide (j<i)&& !fr.contains j)=[]:=by
      rw[List.filter_eq_nil_iff];intro j hj hji;rw[Bool.and_eq_true,decide_eq_true_eq,Bool.not_eq_true']at hji;rw[hleft j hj hji.1]at hji;cases hji.2
     rw[hl0]at hw;have hst:s=tR R:=hw;refine s_sound ho hr (by rw[hst];exact hg R hRs) (by rw[hst];exact hh R hRs) hcon hout fun F' γ' a' w' h3 h4 hr2=>?_;rw[hst]at hr2
     have hre:rest ops (listed.setIfInBounds i true)=R++(List.range ops.size).filter fun j=>decide (i<j):=by
      rw[hset];obtain⟨x,y,e1,e2,e3,e4⟩:=split_at (rest_sorted (ops:=ops) listed) hir;rw[e2]
      have hx:x=R:=by
       rw[←hR,e1,List.filter_append,List.filter_cons_of_neg (by simp),List.filter_eq_self.2 (fun j hj=>by simpa using e3 j hj),List.filter_eq_nil_iff.2 (fun j hj=>by have:=e4 j hj;simp;omega),List.append_nil]
      have hy:y=(List.range ops.size).filter fun j=>decide (i<j):=by
       have h5:(rest ops listed).filter (fun j=>decide (i<j))=y:=by
        rw[e1,List.filter_append,List.filter_cons_of_neg (by simp),List.filter_eq_nil_iff.2 (fun j hj=>by have:=e3 j hj;simp;omega),List.filter_eq_self.2 (fun j hj=>by simpa using e4 j hj),List.nil_append]
       rw[←h5];unfold rest;rw[List.filter_filter];refine List.filter_congr fun j hj=>?_;have hjs:j<ops.size:=by simpa using hj
       by_cases hij:i<j
       · have:=(mem_rest.1 (hbehind j hjs hij)).2;rw[this];simp
       simp[hij]
      rw[hx,hy]
     refine hK R hRs fuel (listed.setIfInBounds i true) F' γ' a' w' (by simpa using hsz) (hdc' i o ho hpre) hre ?_ h3 h4 hr2;obtain⟨x2,y2,g1,g2,_,_⟩:=split_at (rest_sorted (ops:=ops) listed) hir;rw[hset,g2];rw[g1]at hlen;simp only[List.length_append,List.length_cons]at hlen⊢;omega
   have hip':i<p:=by
    rcases Nat.lt_or_gt_of_ne hip with h|h
    · exact h
    exact absurd (pred_listed hdc ops.size i p oi hoi hpre ((hmid' i hlt hip).2 h)) (unl p hpr)
   have hx:∀k∈rest ops listed,k<i→∀q,ops[k]? =some q→indepH hs ops q oi=true:=by
    intro k hk hki q hq;refine((drawB_at hd hoi).2 k q hki hq).1.resolve_left fun hpd=>?_;exact unl k hk (pred_listed hdc ops.size i k oi hoi hpre hpd)
   have hcl:∀k q,k≠i→ops[k]? =some q→clashB oi q=false∧clashB q oi=false:=by
    intro k q hki hq;rcases Nat.lt_or_gt_of_ne hki with h|h
    · have:=((drawB_at hd hoi).2 k q h hq).2;exact⟨this.2,this.1⟩
    exact((drawB_at hd hq).2 i oi h hoi).2
   have hlen':(rest ops (listed.setIfInBounds i true)).length≤fuel:=by
    obtain⟨x2,y2,g1,g2,_,_⟩:=split_at (rest_sorted (ops:=ops) listed) hir;rw[hset,g2];rw[g1]at hlen;simp only[List.length_append,List.length_cons]at hlen⊢;omega
   have hpr':p∈rest ops (listed.setIfInBounds i true):=by
    rw[hset];exact List.mem_filter.2 ⟨hpr,by simp only[ne_eq,decide_eq_true_eq];omega⟩
   have fin:∀s',Stp P ops oi s s'→runsH P ops hs (opers ops ((rest ops (listed.setIfInBounds i true)).filter fun j=>decide (j<p)&& !fr.contains j)) s' (fun u=>u=tR ((rest ops (listed.setIfInBounds i true)).filter fun j=>decide (j<p)&&fr.contains j))→wpOp P ops Q i (wpAny P .any ops Q fuel (listed.setIfInBounds i true)) a w:=by
    intro s' h1 h2;refine wpOp_of_stp hoi hr h1 fun F' γ' a' w' h3 h4 hr2=>?_;refine ih (listed.setIfInBounds i true) s' F' γ' a' w' (by simpa using hsz) (hdc' i oi hoi hpre) hpr' hlen' ?_ hr2 h2 fun R hR fuel2 listed2 F3 γ3 a3 w3 k1 k2 k3 k4 h5 h6 hr3=>hK R hR fuel2 listed2 F3 γ3 a3 w3 k1 k2 k3 k4 (fun b hb=>h5 b (h3 b hb)) (fun b hb=>(h6 b hb).elim (h4 b) .inr) hr3;intro q hq;obtain⟨k,hk,hkq⟩:=mem_opers.1 hq;rw[hset]at hk;have hk':=List.mem_filter.1 hk;exact okName_step h1 (hcl k q (by simpa using hk'.2) hkq).1 (hn q (mem_opers.2 ⟨k,hk'.1,hkq⟩))
   by_cases hif:fr.contains i=true
   · -- a free one
     obtain⟨l1,hl1⟩:∃l,(rest ops listed).filter (fun j=>decide (j<p)&& !fr.contains j)=l:=⟨_,rfl⟩
     have e3:(rest ops (listed.setIfInBounds i true)).filter (fun j=>decide (j<p)&& !fr.contains j)=l1:=by
      rw[hset,List.filter_filter,←hl1];refine List.filter_congr fun j _=>?_;by_cases hji:j=i
      · subst hji;rw[hif];simp
      simp[hji]
     have e4:(rest ops (listed.setIfInBounds i true)).filter (fun j=>decide (j<p)&&fr.contains j)=((rest ops listed).filter (fun j=>decide (j<p)&&fr.contains j)).filter (fun j=>decide (j≠i)):=by
      rw[hset,List.filter_filter,List.filter_filter];exact List.filter_congr fun j _=>Bool.and_comm _ _
     have hiR:i∈(rest ops listed).filter (fun j=>decide (j<p)&&fr.contains j):=List.mem_filter.2 ⟨hir,by rw[hif];simpa using hip'⟩
     have hin:∀k∈l1,k∈rest ops listed∧k≠i∧k<p∧fr.contains k=false:=by
      intro k hk;rw[←hl1]at hk;have h5:=List.mem_filter.1 hk;have h6:=h5.2;rw[Bool.and_eq_true,decide_eq_true_eq,Bool.not_eq_true']at h6;refine⟨h5.1,fun e=>?_,h6.1,h6.2⟩;rw[e,hif]at h6;cases h6.2
     rw[hl1]at hw
     have hw2:runsH P ops hs (opers ops l1++[oi]) s (fun u=>u=tR (((rest ops listed).filter (fun j=>decide (j<p)&&fr.contains j)).filter (fun j=>decide (j≠i)))):=by
      refine(runsH_app _ _ s).2 (runsH_mono _ _ (fun u hu=>?_) hw);subst hu;exact hstep _ hsub i hiR oi hoi
     have hpw:(opers ops l1++[]).Pairwise (fun a b=>clashB a b=false):=by
      rw[List.append_nil,←hl1];exact opers_pairwise hd _ (List.Pairwise.filter _ (rest_sorted _))
     have hind:∀q∈opers ops l1,indepH hs ops q oi=true:=by
      intro q hq;obtain⟨k,hk,hkq⟩:=mem_opers.1 hq;obtain⟨g1,g2,g3,g4⟩:=hin k hk;unfold mdpI at hfi;rw[List.all_eq_true]at hfi;have h5:=hfi i (by simpa using hif);rw[hoi]at h5;simp only[List.all_eq_true]at h5;have h6:=h5 k (by simpa using g3);rw[g4,hkq,Bool.false_or,Bool.or_eq_true]at h6;exact h6.resolve_left fun hpd=>unl k g1 (pred_listed hdc ops.size i k oi hoi hpre hpd)
     have clq:∀q∈opers ops l1,clashB oi q=false∧clashB q oi=false:=by
      intro q hq;obtain⟨k,hk,hkq⟩:=mem_opers.1 hq;exact hcl k q (hin k hk).2.1 hkq
     obtain⟨s',h1,_,h2,_⟩:=pull (P:=P) (ops:=ops) (hs:=hs) (oi:=oi) (l2:=[]) (opers ops l1) s hind clq (fun q hq=>by cases hq) hpw (hn oi (mem_opers.2 ⟨i,hir,hoi⟩)) (fun q hq=>by
       rw[List.append_nil]at hq;obtain⟨k,hk,hkq⟩:=mem_opers.1 hq
       exact hn q (mem_opers.2 ⟨k,(hin k hk).1,hkq⟩)) hw2
     rw[List.append_nil]at h2;exact fin s' h1 (by rw[e3,e4];exact h2)
   have hif':fr.contains i=false:=by simpa using hif
   have hi1:i∈(rest ops listed).filter (fun j=>decide (j<p)&& !fr.contains j):=List.mem_filter.2 ⟨hir,by rw[hif'];simpa using hip'⟩
   have swapf:(rest ops (listed.setIfInBounds i true)).filter (fun j=>decide (j<p)&& !fr.contains j)=((rest ops listed).filter (fun j=>decide (j<p)&& !fr.contains j)).filter (fun j=>decide (j≠i)):=by
    rw[hset,List.filter_filter,List.filter_filter];exact List.filter_congr fun j _=>Bool.and_comm _ _
   have e4:(rest ops (listed.setIfInBounds i true)).filter (fun j=>decide (j<p)&&fr.contains j)=(rest ops listed).filter (fun j=>decide (j<p)&&fr.contains j):=by
    rw[hset,List.filter_filter];refine List.filter_congr fun j _=>?_;by_cases hji:j=i
    · subst hji;rw[hif'];simp
    simp[hji]
   obtain⟨x,y,e1,e2,hxl,_⟩:=split_at (List.Pairwise.filter _ (rest_sorted (ops:=ops) listed)) hi1;have e3:(rest ops (listed.setIfInBounds i true)).filter (fun j=>decide (j<p)&& !fr.contains j)=x++y:=by rw[swapf,e2]
   rw[e1,opers_append,opers_cons hoi]at hw
   have hin:∀k∈x++y,k∈rest ops listed∧k≠i:=by
    intro k hk;rw[←e2]at hk;have:=List.mem_filter.1 hk;exact⟨(List.mem_filter.1 this.1).1,by simpa using this.2⟩
   have clq:∀q∈opers ops x++opers ops y,clashB oi q=false∧clashB q oi=false:=by
    intro q hq;rw[←opers_append]at hq;obtain⟨k,hk,hkq⟩:=mem_opers.1 hq;exact hcl k q (hin k hk).2 hkq
   have hpw:(opers ops x++opers ops y).Pairwise (fun a b=>clashB a b=false):=by
    rw[←opers_append,←e3];exact opers_pairwise hd _ (List.Pairwise.filter _ (rest_sorted _))
   obtain⟨s',h1,_,h2,_⟩:=pull (P:=P) (ops:=ops) (hs:=hs) (oi:=oi) (l2:=opers ops y) (opers ops x) s (fun q hq=>by
     obtain⟨k,hk,hkq⟩:=mem_opers.1 hq;exact hx k (hin k (by simp[hk])).1 (hxl k hk) q hkq) (fun q hq=>clq q (by simp[hq])) (fun q hq=>(clq q (by simp[hq])).1) hpw (hn oi (mem_opers.2 ⟨i,hir,hoi⟩)) (fun q hq=>by
     rw[←opers_append]at hq;obtain⟨k,hk,hkq⟩:=mem_opers.1 hq
     exact hn q (mem_opers.2 ⟨k,(hin k hk).1,hkq⟩)) hw
   exact fin s' h1 (by rw[e3,e4,opers_append];exact h2)
theorem any_mdp {hs:List (Nat×Nat)} {w0:World} {B:Nat→Prop} {π:Nat→Option Value} {K:HS→Prop} {tR:List Nat→HS} {p:Nat} {fr:List Nat} {o:Oper} {f:FuncId} {d:Nat} {objs objs':List (Nat×Ob)} {args:List TV} {ρ σ:Nat→Nat} {r:RV} {Q:Exit→Act→World→Prop}
  (hd:drawH hs ops=true) (hmid:mdpB ops p fr=true) (hfr:mdpF ops p fr=true) (hfi:mdpI hs ops p fr=true) (hstep:∀R∈mdpL fr,∀i∈R,∀oi,ops[i]? =some oi→runsH P ops hs [oi] (tR R) (fun u=>u=tR (R.filter fun j=>decide (j≠i)))) (ho:ops[p]? =some o) (hg:∀R∈mdpL fr,gOfC (tR R) o=some (f,args.map (TV.ren ρ []),d)) (hh:∀R∈mdpL fr,HandS ρ σ objs objs' (tR R)) (hcon:ConS P f objs args r objs') (hout:okRV (objs'.map (·.1)) r=true)
  (hpost:∀R∈mdpL fr,(∀q∈opers ops (R++(List.range ops.size).filter fun j=>decide (p<j)),okName (({tR R with objs:=addS σ objs' (dels (objs.map fun p=>ρ p.1) (tR R).objs)}:HS).put (some d) (r.ren σ [])) q)∧
   runsH P ops hs (opers ops (R++(List.range ops.size).filter fun j=>decide (p<j))) (({tR R with objs:=addS σ objs' (dels (objs.map fun p=>ρ p.1) (tR R).objs)}:HS).put (some d) (r.ren σ [])) K):
  ∀(fuel:Nat) (listed:Array Bool) (s:HS) (F:Nat→Prop) (γ:Nat→Value) (a:Act) (w:World),
  listed.size=ops.size→(∀i o,ops[i]? =some o→listed.getD i false=true→∀e∈o.after,Region.binds .any e=true→listed.getD e.on false=true)→p∈rest ops listed→
  (rest ops listed).length≤fuel→(∀q∈opers ops (rest ops listed),okName s q)→Rel w0 B π F γ s a w→
  runsH P ops hs (opers ops ((rest ops listed).filter fun j=>decide (j<p)&& !fr.contains j)) s (fun u=>u=tR ((rest ops listed).filter fun j=>decide (j<p)&&fr.contains j))→
  (∀s' F' γ' a' w',K s'→(∀b,F b→F' b)→(∀b,F' b→F b∨¬B b)→Rel w0 B π F' γ' s' a' w'→Q .normal a' w')→wpAny P .any ops Q fuel listed a w:=by
 intro fuel listed s F γ a w h1 h2 h3 h4 h5 h6 h7 hK;refine any_mdpK hd hmid hfr hfi hstep ho hg hh hcon hout fuel listed s F γ a w h1 h2 h3 h4 h5 h6 h7 fun R hR fuel' listed' F' γ' a' w' k1 k2 k3 k4 k5 k6 k7=>?_;obtain⟨hp1,hp2⟩:=hpost R hR;exact any_order (P:=P) (ops:=ops) (hs:=hs) (w0:=w0) (B:=B) (π:=π) (K:=K) hd fuel' listed' _ F' γ' a' w' k1 k2 k4 (by rw[k3];exact hp1) k7 (by rw[k3];exact hp2) fun s3 F3 γ3 a3 w3 hk3 h5 h6 hr3=>hK s3 F3 γ3 a3 w3 hk3 (fun b hb=>h5 b (k5 b hb)) (fun b hb=>(h6 b hb).elim (k6 b) .inr) hr3
def mvT (mv:List (Nat×Nat×Nat)) (s:HS) (R:List Nat):HS:=mv.foldl (fun u m=>if R.contains m.1 then u else u.put (some m.2.1) (opd s.regs (.tmp m.2.2))) s
theorem HT_mdp2S {id:Nat} (hs:List (Nat×Nat)) (p:Nat) (fr:List Nat) (tR:List Nat→HS) (cs:List CR) {s v u:HS} {p1:Prop} {o:Oper} {f:FuncId} {d:Nat} {objs objs':List (Nat×Ob)} {args:List TV} (ρ σ:Nat→Nat) {r:RV} {Q:Exit→HS→Prop}
  (q:Nat) {o2:Oper} {f2:FuncId} {d2:Nat} {objs2 objs2':List (Nat×Ob)} {args2:List TV} (ρ2 σ2:Nat→Nat) {r2:RV} (hm:P.follows .mixedOrders=true) (hd:drawH hs ops=true)
  (hmid:mdpB ops p fr=true) (hmid2:mdpB ops q []=true) (hpq:p<q) (hfr:mdpF ops p fr=true) (hfi:mdpI hs ops p fr=true) (hc:cleanB ops.toList s=true)
  (h1:evcH P ops hs (opers ops ((List.range ops.size).filter fun j=>decide (j<p)&& !fr.contains j)) s cs=some (tR fr,p1)) (hp1:p1) (ho:ops[p]? =some o) (hcon:ConS P f objs args r objs') (hout:okRV (objs'.map (·.1)) r=true)
  (hstep:∀R∈mdpL fr,∀i∈R,∀oi,ops[i]? =some oi→cleanB [oi] (tR R)=true∧∃c p',evcH P ops hs [oi] (tR R) c=some (tR (R.filter fun j=>decide (j≠i)),p')∧p')
  (hcall:∀R∈mdpL fr,gOfC (tR R) o=some (f,args.map (TV.ren ρ []),d)∧HandS ρ σ objs objs' (tR R)∧(R++(List.range ops.size).filter fun j=>decide (p<j)).Pairwise (· < ·)∧
   cleanB (opers ops (R++(List.range ops.size).filter fun j=>decide (p<j))) (({tR R with objs:=addS σ objs' (dels (objs.map fun p=>ρ p.1) (tR R).objs)}:HS).put (some d) (r.ren σ []))=true∧
   ∃c p',evcH P ops hs (opers ops ((R++(List.range ops.size).filter fun j=>decide (p<j)).filter fun j=>decide (j<q))) (({tR R with objs:=addS σ objs' (dels (objs.map fun p=>ρ p.1) (tR R).objs)}:HS).put (some d) (r.ren σ [])) c=some (v,p')∧p')
  (ho2:ops[q]? =some o2) (hcon2:ConS P f2 objs2 args2 r2 objs2') (hout2:okRV (objs2'.map (·.1)) r2=true) (hg2:gOfC v o2=some (f2,args2.map (TV.ren ρ2 []),d2)) (hh2:HandS ρ2 σ2 objs2 objs2' v)
  (hafter:cleanB (opers ops ((List.range ops.size).filter fun j=>decide (q<j))) (({v with objs:=addS σ2 objs2' (dels (objs2.map fun p=>ρ2 p.1) v.objs)}:HS).put (some d2) (r2.ren σ2 []))=true∧
   ∃c p',evcH P ops hs (opers ops ((List.range ops.size).filter fun j=>decide (q<j))) (({v with objs:=addS σ2 objs2' (dels (objs2.map fun p=>ρ2 p.1) v.objs)}:HS).put (some d2) (r2.ren σ2 [])) c=some (u,p')∧p')
  (hq:Q .normal u):HT P (.region id ops true) s Q:=by
 intro w0 B π F γ a w hr
 have hrest:rest ops (Array.replicate ops.size false)=List.range ops.size:=by
  unfold rest;refine List.filter_eq_self.2 fun i hi=>?_;have:i<ops.size:=by simpa using hi
  simp[this]
 have hopers:opers ops (List.range ops.size)=ops.toList:=by
  unfold opers;have:=range_get ops.toList;simpa using this
 have okc:∀(l:List Oper) (s:HS),cleanB l s=true→∀o∈l,okName s o:=by
  intro l s hc o ho hn d hdd;unfold cleanB at hc;rw[List.all_eq_true]at hc;have:=hc o ho;simpa[hn,hdd]using this
 have hok:=okc _ _ hc
 have hfr':fr=(List.range ops.size).filter fun j=>decide (j<p)&&fr.contains j:=by
  unfold mdpF at hfr;exact eq_of_beq hfr
 have hps:p<ops.size:=(Array.getElem?_eq_some_iff.1 ho).1;have hqs:q<ops.size:=(Array.getElem?_eq_some_iff.1 ho2).1
 have hruns:runsH P ops hs (opers ops ((List.range ops.size).filter fun j=>decide (j<p)&& !fr.contains j)) s (fun u=>u=tR fr):=by
  refine runs_of_evcH _ s (tR fr) cs p1 (opers_pairwise hd _ (List.Pairwise.filter _ List.pairwise_lt_range)) (fun q hq=>?_) h1 hp1 rfl;obtain⟨k,_,hkq⟩:=mem_opers.1 hq
  exact hok q (by
   obtain⟨hk,rfl⟩:=Array.getElem?_eq_some_iff.1 hkq
   simp)
 have hsubs0:∀{R:List Nat},R∈mdpL ([]:List Nat)→R=[]:=fun h=>by simpa[mdpL]using h
 refine wp_region_any hm (any_mdpK (P:=P) (ops:=ops) (hs:=hs) (w0:=w0) (B:=B) (π:=π) (p:=p) (fr:=fr) (tR:=tR) hd hmid hfr hfi (fun R hR i hi oi hoi=>?_) ho (fun R hR=>(hcall R hR).1) (fun R hR=>(hcall R hR).2.1) hcon hout ops.size (Array.replicate ops.size false) s F γ a {w with drawn:=w.drawn+1} (by simp) ?_ ?_ ?_ ?_ ?_ ?_ fun R hR fuel' listed' F' γ' a' w' k1 k2 k3 k4 k5 k6 k7=>?_)
 · obtain⟨g1,c,p',g2,g3⟩:=hstep R hR i hi oi hoi;exact runs_of_evcH [oi] _ _ c p' (List.pairwise_singleton ..) (okc _ _ g1) g2 g3 rfl
 · intro i o ho hl;have hi:i<ops.size:=(Array.getElem?_eq_some_iff.1 ho).1;simp[hi]at hl
 · rw[hrest];simpa using hps
 · rw[hrest];simp
 · rw[hrest,hopers];exact hok
 · exact⟨hr.heap.drew,hr.defers,hr.nt,fun k r hk=>(hr.regs k r hk).mono (w:=w) (w':={w with drawn:=w.drawn+1}) (fun _ h=>h) fun _ _=>rfl⟩
 · rw[hrest,←hfr'];exact hruns
 obtain⟨_,_,g1,g2,c,p',g3,g4⟩:=hcall R hR;refine any_mdp (P:=P) (ops:=ops) (hs:=hs) (w0:=w0) (B:=B) (π:=π) (p:=q) (fr:=[]) (tR:=fun _=>v) (K:=fun z=>z=u) hd hmid2 (by simp[mdpF]) (by simp[mdpI]) (fun R' hR' i hi oi hoi=>?_) ho2 (fun R' hR'=>hg2) (fun R' hR'=>hh2) hcon2 hout2 (fun R' hR'=>?_) fuel' listed' _ F' γ' a' w' k1 k2 ?_ k4 ?_ k7 ?_ fun s' F3 γ3 a3 w3 hk h1 h2 h3=>?_
 · rw[hsubs0 hR']at hi;cases hi
 · rw[hsubs0 hR',List.nil_append];obtain⟨e1,c2,p2,e2,e3⟩:=hafter;exact⟨okc _ _ e1,runs_of_evcH _ _ _ c2 p2 (opers_pairwise hd _ (List.Pairwise.filter _ List.pairwise_lt_range)) (okc _ _ e1) e2 e3 rfl⟩
 · rw[k3];exact List.mem_append_right _ (List.mem_filter.2 ⟨by simpa using hqs,by simpa using hpq⟩)
 · rw[k3];exact okc _ _ g2
 · rw[k3];have e1:(fun j=>decide (j<q)&& !([]:List Nat).contains j)=fun j=>decide (j<q):=by funext j;simp
   rw[e1];refine runs_of_evcH _ _ _ c p' (opers_pairwise hd _ (List.Pairwise.filter _ g1)) (fun x hx=>?_) g3 g4 rfl;obtain⟨k,hk,hkx⟩:=mem_opers.1 hx;exact okc _ _ g2 x (mem_opers.2 ⟨k,(List.mem_filter.1 hk).1,hkx⟩)
 subst hk;exact⟨_,F3,γ3,hq,fun b hb=>h1 b (k5 b hb),fun b hb=>(h2 b hb).elim (k6 b) .inr,h3⟩
theorem HT_mdp2T {id:Nat} (hs:List (Nat×Nat)) (p:Nat) (mv:List (Nat×Nat×Nat)) (l1 l2 l3:List Nat) (cs:List CR) {s s16 v u:HS} {p1:Prop} {o:Oper} {f:FuncId} {d:Nat} {objs objs':List (Nat×Ob)} {args:List TV} (ρ σ:Nat→Nat) {r:RV} {Q:Exit→HS→Prop}
  (q:Nat) {o2:Oper} {f2:FuncId} {d2:Nat} {objs2 objs2':List (Nat×Ob)} {args2:List TV} (ρ2 σ2:Nat→Nat) {r2:RV} (e1:((List.range ops.size).filter fun j=>decide (j<p)&& !(mv.map (·.1)).contains j)=l1) (e2:((List.range ops.size).filter fun j=>decide (p<j))=l2) (e3:((List.range ops.size).filter fun j=>decide (q<j))=l3) (hm:P.follows .mixedOrders=true) (hd:drawH hs ops=true)
  (hmid:mdpB ops p (mv.map (·.1))=true) (hmid2:mdpB ops q []=true) (hpq:p<q) (hfr:mdpF ops p (mv.map (·.1))=true) (hfi:mdpI hs ops p (mv.map (·.1))=true) (hc:cleanB ops.toList s=true)
  (h1:evcH P ops hs (opers ops l1) s cs=some (s16,p1)) (hp1:p1) (h0:mvT mv s16 (mv.map (·.1))=s16) (ho:ops[p]? =some o) (hcon:ConS P f objs args r objs') (hout:okRV (objs'.map (·.1)) r=true)
  (hstep:∀R∈mdpL (mv.map (·.1)),∀i∈R,∀oi,ops[i]? =some oi→cleanB [oi] (mvT mv s16 R)=true∧∃c p',evcH P ops hs [oi] (mvT mv s16 R) c=some (mvT mv s16 (R.filter fun j=>decide (j≠i)),p')∧p')
  (hcall:∀R∈mdpL (mv.map (·.1)),gOfC (mvT mv s16 R) o=some (f,args.map (TV.ren ρ []),d)∧HandS ρ σ objs objs' (mvT mv s16 R)∧(R++l2).Pairwise (· < ·)∧
   cleanB (opers ops (R++l2)) (({mvT mv s16 R with objs:=addS σ objs' (dels (objs.map fun p=>ρ p.1) (mvT mv s16 R).objs)}:HS).put (some d) (r.ren σ []))=true∧
   ∃c p',evcH P ops hs (opers ops ((R++l2).filter fun j=>decide (j<q))) (({mvT mv s16 R with objs:=addS σ objs' (dels (objs.map fun p=>ρ p.1) (mvT mv s16 R).objs)}:HS).put (some d) (r.ren σ [])) c=some (v,p')∧p')
  (ho2:ops[q]? =some o2) (hcon2:ConS P f2 objs2 args2 r2 objs2') (hout2:okRV (objs2'.map (·.1)) r2=true) (hg2:gOfC v o2=some (f2,args2.map (TV.ren ρ2 []),d2)) (hh2:HandS ρ2 σ2 objs2 objs2' v)
  (hafter:cleanB (opers ops l3) (({v with objs:=addS σ2 objs2' (dels (objs2.map fun p=>ρ2 p.1) v.objs)}:HS).put (some d2) (r2.ren σ2 []))=true∧
   ∃c p',evcH P ops hs (opers ops l3) (({v with objs:=addS σ2 objs2' (dels (objs2.map fun p=>ρ2 p.1) v.objs)}:HS).put (some d2) (r2.ren σ2 [])) c=some (u,p')∧p')
  (hq:Q .normal u):HT P (.region id ops true) s Q:=
 HT_mdp2S hs p (mv.map (·.1)) (mvT mv s16) cs ρ σ q ρ2 σ2 hm hd hmid hmid2 hpq hfr hfi hc (by rw[h0,e1];exact h1) hp1 ho hcon hout hstep (by rw[e2];exact hcall) ho2 hcon2 hout2 hg2 hh2 (by rw[e3];exact hafter) hq
end
end Go.Hl

namespace Go.Proofs.YtfjidddhehckoaaGreat
open Go Go.Hl
def putL {α:Type} (l:List α) (k:Nat) (m:List α):List α:=l.take k++(m++l.drop (k+m.length))
section
variable {α:Type} {l:List α} {k:Nat}
theorem putL_nil:putL l k []=l:=by simp[putL]
theorem putL_len {m:List α} (h:k+m.length≤l.length):(putL l k m).length=l.length:=by
 simp only[putL,List.length_append,List.length_take,List.length_drop];omega
theorem putL_ext {l l':List α} (h:∀i:Nat,l[i]? =l'[i]?):l=l':=List.ext_getElem? h
theorem putL_get {m:List α} (h:k+m.length≤l.length) (i:Nat):(putL l k m)[i]? =if i<k then l[i]? else if i<k+m.length then m[i - k]? else l[i]? :=by
 unfold putL;have h1:(l.take k).length=k:=by rw[List.length_take];omega
 rw[List.getElem?_append,h1];split
 · rw[List.getElem?_take,if_pos (by assumption)]
 rw[List.getElem?_append];by_cases h2:i<k+m.length
 · rw[if_pos (by omega),if_pos h2]
 rw[if_neg (by omega),if_neg h2,List.getElem?_drop];congr 1;omega
theorem putL_app {a b:List α} (h:k+(a.length+b.length)≤l.length):putL (putL l k a) (k+a.length) b=putL l k (a++b):=by
 have h1:=putL_len (l:=l) (k:=k) (m:=a) (by omega);refine putL_ext fun i=>?_;rw[putL_get (by rw[h1];omega),putL_get (by omega),putL_get (by rw[List.length_append];omega),List.length_append,List.getElem?_append];by_cases c1:i<k
 · rw[if_pos (by omega),if_pos c1,if_pos c1]
 by_cases c2:i<k+a.length
 · rw[if_pos c2,if_neg c1,if_pos c2,if_neg c1,if_pos (by omega),if_pos (by omega)]
 by_cases c3:i<k+a.length+b.length
 · rw[if_neg c2,if_pos c3,if_neg c1,if_pos (by omega),if_neg (by omega)];congr 1;omega
 rw[if_neg c2,if_neg c3,if_neg c1,if_neg c2,if_neg c1,if_neg (by omega)]
theorem putL_put {a b:List α} (h:k+a.length≤l.length) (hb:b.length=a.length):putL (putL l k a) k b=putL l k b:=by
 have h1:=putL_len (l:=l) (k:=k) (m:=a) h;refine putL_ext fun i=>?_;rw[putL_get (by rw[h1];omega),putL_get (by omega),putL_get (by omega),hb];by_cases c1:i<k
 · rw[if_pos c1,if_pos c1,if_pos c1]
 by_cases c2:i<k+a.length
 · rw[if_neg c1,if_pos c2,if_neg c1,if_pos c2]
 rw[if_neg c1,if_neg c2,if_neg c1,if_neg c2,if_neg c1,if_neg c2]
theorem set_get (l:List α) (k:Nat) (x:α) (hk:k<l.length) (i:Nat):(l.set k x)[i]? =if i=k then some x else l[i]? :=by
 rw[List.getElem?_set];by_cases c:k=i
 · rw[if_pos c,if_pos c.symm,if_pos (by omega)]
 rw[if_neg c,if_neg fun h=>c h.symm]
theorem putL_set {x:α} {m:List α} (h:k+1+m.length≤l.length):(putL l (k+1) m).set k x=putL l k (x::m):=by
 have h1:=putL_len (l:=l) (k:=k+1) (m:=m) h;refine putL_ext fun i=>?_;rw[set_get _ _ _ (by omega),putL_get (by omega),putL_get (by rw[List.length_cons];omega),List.length_cons];by_cases c0:i=k
 · rw[if_pos c0,if_neg (by omega),if_pos (by omega),c0,Nat.sub_self,List.getElem?_cons_zero]
 rw[if_neg c0];by_cases c1:i<k
 · rw[if_pos (by omega),if_pos c1]
 by_cases c2:i<k+1+m.length
 · rw[if_neg (by omega),if_pos c2,if_neg c1,if_pos (by omega),show i - k=i - (k+1)+1 by omega,List.getElem?_cons_succ]
 rw[if_neg (by omega),if_neg c2,if_neg c1,if_neg (by omega)]
theorem set_put {x:α} {m:List α} (h:k+1+m.length≤l.length):putL (l.set k x) (k+1) m=putL l k (x::m):=by
 have h1:(l.set k x).length=l.length:=List.length_set ..;refine putL_ext fun i=>?_;rw[putL_get (by omega),set_get _ _ _ (by omega),putL_get (by rw[List.length_cons];omega),List.length_cons];by_cases c0:i=k
 · rw[if_pos (by omega),if_pos c0,if_neg (by omega),if_pos (by omega),c0,Nat.sub_self,List.getElem?_cons_zero]
 by_cases c1:i<k
 · rw[if_pos (by omega),if_neg c0,if_pos c1]
 by_cases c2:i<k+1+m.length
 · rw[if_neg (by omega),if_pos c2,if_neg c1,if_pos (by omega),show i - k=i - (k+1)+1 by omega,List.getElem?_cons_succ]
 rw[if_neg (by omega),if_neg c2,if_neg c0,if_neg c1,if_neg (by omega)]
theorem set_one {x:α} (h:k<l.length):l.set k x=putL l k [x]:=by
 rw[←set_put (m:=[]) (by rw[List.length_nil];omega),putL_nil]
end
structure Rt where
 before:List (List Int)
 counts:List Int
 faults:List Int
 time:Int
abbrev rB (f1 f2 f3 N M bt h w:CD) (tm:Int):Ob:=.box [.c f1,.c f2,.c f3,.c N,.c M,.c bt,.c h,.c w,.own 900002,.own 900003,.own 900001,.c (iC tm)]
abbrev rO (f1 f2 f3 N M bt h w:CD) (t:Rt):List (Nat×Ob):=[(900001,.row 3 1 (encIs t.faults)),(900002,.row 32 1 (encLL t.before)),(900003,.row 3 1 (encIs t.counts)),(1000000,rB f1 f2 f3 N M bt h w t.time)]
def rxS (e:En) (fu:Nat) (s:St) (k:Nat) (pc:Int) (st:List Int) (t:Rt):Rt:=
 ⟨putL t.before k ((lgS e fu s pc st).map (·.2.1)),putL t.counts k ((lgS e fu s pc st).map (·.2.2)),t.faults++rfS e fu s k pc st,(rtS e fu s pc st).foldl e.J t.time⟩
def rxL (e:En) (fu:Nat) (l:List St) (k:Nat) (pc:Int) (st:List Int) (t:Rt):Rt:=
 ⟨putL t.before k ((lgL e fu l pc st).map (·.2.1)),putL t.counts k ((lgL e fu l pc st).map (·.2.2)),t.faults++rfL e fu l k pc st,(rtL e fu l pc st).foldl e.J t.time⟩
def rokB (t:Rt) (k n:Nat):Prop:=k+n≤t.before.length∧t.counts.length=t.before.length∧t.before.length≤1000000
theorem rxL_nil (e:En) (fu k:Nat) (pc:Int) (st:List Int) (t:Rt):rxL e fu [] k pc st t=t:=by
 simp[rxL,lgL,rfL,rtL,putL_nil]
theorem rxL_cons {e:En} {fu k:Nat} {pc:Int} {st:List Int} {t:Rt} {s:St} {l:List St} (hf:frS s) (hl:frL l) (h:rokB t k (szS s+szL l)):rxL e fu (s::l) k pc st t=rxL e fu l (k+szS s) pc (ouS e fu s pc st) (rxS e fu s k pc st t):=by
 obtain⟨h1,h2,h3⟩:=h;have e1:(lgS e fu s pc st).length=szS s:=lgS_len hf;have e2:(lgL e fu l pc (ouS e fu s pc st)).length=szL l:=lgL_len hl;have k1:=fun(α:Type) (b:List α) (f:Ent→α) (hb:b.length=t.before.length)=>putL_app (l:=b) (k:=k) (a:=(lgS e fu s pc st).map f) (b:=(lgL e fu l pc (ouS e fu s pc st)).map f) (by rw[List.length_map,List.length_map,e1,e2];omega);simp only[List.length_map,e1]at k1;unfold rxL rxS;simp only[lgL,rfL,rtL,List.map_append,List.foldl_append,List.append_assoc];rw[k1 _ t.before _ rfl,k1 _ t.counts _ h2]
theorem rxS_ok {e:En} {fu k n:Nat} {pc:Int} {st:List Int} {t:Rt} {s:St} (hf:frS s) (h:rokB t k (szS s+n)):rokB (rxS e fu s k pc st t) (k+szS s) n:=by
 obtain⟨h1,h2,h3⟩:=h;have e1:(lgS e fu s pc st).length=szS s:=lgS_len hf;unfold rxS rokB;simp only;rw[putL_len (by rw[List.length_map,e1];omega),putL_len (by rw[List.length_map,e1];omega)];omega
theorem rxL_ok {e:En} {fu k n:Nat} {pc:Int} {st:List Int} {t:Rt} {l:List St} (hf:frL l) (h:rokB t k (szL l+n)):rokB (rxL e fu l k pc st t) (k+szL l) n:=by
 obtain⟨h1,h2,h3⟩:=h;have e1:(lgL e fu l pc st).length=szL l:=lgL_len hf;unfold rxL rokB;simp only;rw[putL_len (by rw[List.length_map,e1];omega),putL_len (by rw[List.length_map,e1];omega)];omega
end Go.Proofs.YtfjidddhehckoaaGreat

namespace Go.Proofs.YtfjidddhehckoaaGreat
open Go Go.Hl
def recR (t:Rt) (k:Nat) (st:List Int) (pc:Int):Rt:=⟨t.before.set k st,t.counts.set k pc,t.faults,t.time⟩
section
variable {e:En} {fu k:Nat} {pc:Int} {st:List Int} {t:Rt}
theorem recR_ok {n:Nat} {x:List Int} (h:rokB t k n):rokB (recR t k x pc) k n:=by
 obtain⟨h1,h2,h3⟩:=h;unfold rokB recR;simp only[List.length_set];exact⟨h1,h2,h3⟩
theorem rxS_if {d c v n:Int} {tm:Tm} {a b:List St} {bs:List Int} (h3:d=3) (hf:frL a) (hg:frL b) (h:rokB t k (1+szL a+szL b)):rxS e fu (.mk d c v n tm a b bs) k pc st t=
  (if alikeB a b=true then rxL e fu b (k+1+szL a) (tlT e.J st tm pc) st (rxL e fu a (k+1) (tlT e.J st tm pc) st (recR t k st pc))
   else let T:=rxL e fu b (k+1+szL a) (tlT e.J st tm pc) st (rxL e fu a (k+1) (tlT e.J st tm pc) st (recR t k st pc));⟨T.before,T.counts,T.faults,e.J T.time (tlT e.J st tm pc)⟩):=by
 obtain⟨h1,h2,h4⟩:=h;have e1:(lgL e fu a (tlT e.J st tm pc) st).length=szL a:=lgL_len hf;have e2:(lgL e fu b (tlT e.J st tm pc) st).length=szL b:=lgL_len hg;have k1:=fun(α:Type) (l:List α) (x:α) (f:Ent→α) (hb:l.length=t.before.length)=>putL_app (l:=l.set k x) (k:=k+1) (a:=(lgL e fu a (tlT e.J st tm pc) st).map f) (b:=(lgL e fu b (tlT e.J st tm pc) st).map f) (by rw[List.length_map,List.length_map,e1,e2,List.length_set];omega);have k2:=fun(α:Type) (l:List α) (x:α) (f:Ent→α) (hb:l.length=t.before.length)=>set_put (l:=l) (k:=k) (x:=x) (m:=(lgL e fu a (tlT e.J st tm pc) st).map f++(lgL e fu b (tlT e.J st tm pc) st).map f) (by rw[List.length_append,List.length_map,List.length_map,e1,e2];omega);simp only[List.length_map,e1]at k1;unfold rxS rxL recR;simp only[lgS,rfS,rtS,h3,if_true,if_neg (show ¬(3:Int)=4 by decide),List.map_cons,List.map_append];rw[k1 _ t.before _ _ rfl,k1 _ t.counts _ _ h2,k2 _ t.before _ _ rfl,k2 _ t.counts _ _ h2];split
 · simp only[List.append_nil,List.foldl_append,List.append_assoc]
 simp only[List.foldl_append,List.foldl_cons,List.foldl_nil,List.append_assoc]
theorem rxS_one {d c v n:Int} {tm:Tm} {a b:List St} {bs:List Int} (h3:¬d=3) (h4:¬d=4) (h:k<t.before.length) (h2:t.counts.length=t.before.length):
  rxS e fu (.mk d c v n tm a b bs) k pc st t=⟨(recR t k st pc).before,(recR t k st pc).counts,t.faults++(if fltB e (.mk d c v n tm a b bs,st,pc)=true then [(k:Int)] else []),t.time⟩:=by
 unfold rxS recR;simp only[lgS,rfS,rtS,if_neg h3,if_neg h4,List.map_cons,List.map_nil,List.foldl_nil];rw[set_one h,set_one (by omega)]
def finR (e:En) (fu:Nat) (a:List St) (k:Nat) (nl:List Int→Int) (X:List Int) (j:Nat) (s:List Int) (T:Rt):Rt:=
 ⟨putL T.before (k+1) ((lgL e fu a (nl X) X).map (·.2.1)),putL T.counts (k+1) ((lgL e fu a (nl X) X).map (·.2.2)),T.faults++fxT e.J nl (ouL e fu a) (rfL e fu a (k+1)) j s,(fxT e.J nl (ouL e fu a) (rtL e fu a) j s).foldl e.J T.time⟩
theorem fin_stop {a:List St} {nl:List Int→Int} {j:Nat} {s:List Int} {T:Rt} (h:mgF e.J s (ouL e fu a (nl s) s)=s):finR e fu a k nl s (j+1) s T=rxL e fu a (k+1) (nl s) s T:=by
 unfold finR rxL;simp only[fxT,if_pos h,List.append_nil]
theorem fin_step {a:List St} {nl:List Int→Int} {X:List Int} {j:Nat} {s:List Int} {T:Rt} (hf:frL a) (hT:rokB T (k+1) (szL a)) (h:¬mgF e.J s (ouL e fu a (nl s) s)=s):
  finR e fu a k nl X j (mgF e.J s (ouL e fu a (nl s) s)) (rxL e fu a (k+1) (nl s) s T)=finR e fu a k nl X (j+1) s T:=by
 obtain⟨h1,h2,h3⟩:=hT;have e1:∀q x,(lgL e fu a q x).length=szL a:=fun q x=>lgL_len hf;have k1:=fun(α:Type) (l:List α) (f:Ent→α) (hb:l.length=T.before.length)=>putL_put (l:=l) (k:=k+1) (a:=(lgL e fu a (nl s) s).map f) (b:=(lgL e fu a (nl X) X).map f) (by rw[List.length_map,e1];omega) (by rw[List.length_map,List.length_map,e1,e1]);unfold finR rxL;simp only[fxT,if_neg h,List.foldl_append,List.append_assoc];rw[k1 _ T.before _ rfl,k1 _ T.counts _ h2]
theorem rxS_loop {d c v n:Int} {tm:Tm} {a b:List St} {bs:List Int} {X:List Int} (h4:d=4) (hX:fxF e.J (fun s=>tlT e.J s tm pc) (ouL e fu a) fu st=X) (hf:frL a) (h:rokB t k (1+szL a)):
  let T:=recR (finR e fu a k (fun s=>tlT e.J s tm pc) X fu st t) k X pc
  rxS e fu (.mk d c v n tm a b bs) k pc st t=if tm.op≠0∨evenB a=false then⟨T.before,T.counts,T.faults,e.J T.time (tlT e.J X tm pc)⟩ else T:=by
 obtain⟨h1,h2,h3⟩:=h;have e1:∀q x,(lgL e fu a q x).length=szL a:=fun q x=>lgL_len hf;have k1:=fun(α:Type) (l:List α) (x:α) (f:Ent→α) (hb:l.length=t.before.length)=>putL_set (l:=l) (k:=k) (x:=x) (m:=(lgL e fu a (tlT e.J X tm pc) X).map f) (by rw[List.length_map,e1];omega);unfold rxS finR recR;simp only[lgS,rfS,rtS,h4,if_true,hX,List.map_cons];rw[←k1 _ t.before _ _ rfl,←k1 _ t.counts _ _ h2];split
 · simp only[List.foldl_append,List.foldl_cons,List.foldl_nil]
 simp only[List.append_nil]
theorem fin_ok {a:List St} {nl:List Int→Int} {X:List Int} {j m:Nat} {s:List Int} {T:Rt} (hf:frL a) (h:rokB T k (1+szL a+m)):rokB (finR e fu a k nl X j s T) k (1+szL a+m):=by
 obtain⟨h1,h2,h3⟩:=h;have e1:∀q x,(lgL e fu a q x).length=szL a:=fun q x=>lgL_len hf;unfold finR rokB;simp only;rw[putL_len (by rw[List.length_map,e1];omega),putL_len (by rw[List.length_map,e1];omega)];exact⟨h1,h2,h3⟩
end
structure Sd (p:Po) (hv:List Int) (vars:List Vr) (fu:Nat) (A B:List (List CD)):Prop where
 hp:polC p=0
 hL:laT p=.agg [.c (.sl 1 A),.c (.sl 1 B)]
 ho:okI p.n p.observer
 hr:∀x∈hv,0≤x→okI p.n x
 hfu:p.n*vars.length<fu
 hvl:vars.length≤1000000
abbrev enP (p:Po) (hv:List Int):En:=⟨p.n,p.M,hv,p.observer⟩
theorem B_get {p:Po} {A B:List (List CD)} (hL:laT p=.agg [.c (.sl 1 A),.c (.sl 1 B)]) {a b:Int} (ha:okI p.n a) (hb:okI p.n b):∃(x y:Nat) (S:List (List CD)),a=x∧b=y∧B[x]? =some [.sl 1 S]∧S[y]? =some [bC (p.B a b)]:=by
 obtain⟨x,rfl,hx⟩:=okI_nat ha;obtain⟨y,rfl,hy⟩:=okI_nat hb;unfold laT Lt.latT Lt.matB at hL;simp only[TV.agg.injEq,List.cons.injEq,CV.c.injEq,CD.sl.injEq,true_and,and_true]at hL;refine⟨x,y,Lt.rowB p.n p.M x,rfl,rfl,?_,?_⟩
 · rw[←hL.2,List.getElem?_map,List.getElem?_range (show x<p.levels.length from hx)];rfl
 have hS:=Lt.rowB_get (M:=p.M) (a:=x) hy;rw[hS];unfold Po.B Lt.inB;simp[hx,hy];rfl
end Go.Proofs.YtfjidddhehckoaaGreat
