/- Part 15: contracts of functions of the program and of the reference, and plain facts about what they compute; used by the proof of the claimed statement. Conditions: as each theorem states. -/
import Derived.Test.YtfjidddhehckoaaGreatK13
import Derived.Test.YtfjidddhehckoaaGreatK8
import Derived.Test.YtfjidddhehckoaaGreatK7
import Derived.Test.YtfjidddhehckoaaGreatK14
import Derived.Test.YtfjidddhehckoaaGreatK10
import Derived.Test.YtfjidddhehckoaaGreatK11
set_option linter.unusedSimpArgs false
set_option linter.unusedVariables false
set_option linter.unnecessarySimpa false
set_option maxRecDepth 100000
set_option maxHeartbeats 2000000
namespace Go.Hl
open Go Go.RowKit
def midB (ops:Array Oper) (p:Nat):Bool:=((List.range p).all fun j=>predB ops ops.size p j)&&(List.range ops.size).all fun j=>decide (j≤p)||predB ops ops.size j p
theorem getD_any {arr:Array Bool} {j:Nat} (h:j<arr.size):arr.getD j true=arr.getD j false:=by
 rw[Array.getD_eq_getD_getElem?,Array.getD_eq_getD_getElem?,Array.getElem?_eq_getElem h];rfl
section
variable {P:Program} {ops:Array Oper}
theorem any_mid {hs:List (Nat×Nat)} {w0:World} {B:Nat→Prop} {π:Nat→Option Value} {t:HS} {p:Nat} {o:Oper} {f:FuncId} {d:Nat} {objs objs':List (Nat×Ob)} {args:List TV} {ρ σ:Nat→Nat} {r:RV} {K:HS→Prop} {Q:Exit→Act→World→Prop}
  (hd:drawH hs ops=true) (hp:p<ops.size) (hlast:∀j,j<p→predB ops ops.size p j=true) (hafter:∀j,p<j→j<ops.size→predB ops ops.size j p=true)
  (hn2:∀q∈opers ops ((List.range ops.size).filter fun j=>decide (p<j)),okName (({t with objs:=addS σ objs' (dels (objs.map fun p=>ρ p.1) t.objs)}:HS).put (some d) (r.ren σ [])) q)
  (hr2:runsH P ops hs (opers ops ((List.range ops.size).filter fun j=>decide (p<j))) (({t with objs:=addS σ objs' (dels (objs.map fun p=>ρ p.1) t.objs)}:HS).put (some d) (r.ren σ [])) K) (ho:ops[p]? =some o) (hg:gOfC t o=some (f,args.map (TV.ren ρ []),d)) (hh:HandS ρ σ objs objs' t) (hcon:ConS P f objs args r objs') (hout:okRV (objs'.map (·.1)) r=true):
  ∀(fuel:Nat) (listed:Array Bool) (s:HS) (F:Nat→Prop) (γ:Nat→Value) (a:Act) (w:World),
  listed.size=ops.size→(∀i o,ops[i]? =some o→listed.getD i false=true→∀e∈o.after,Region.binds .any e=true→listed.getD e.on false=true)→p∈rest ops listed→
  (rest ops listed).length≤fuel→(∀q∈opers ops (rest ops listed),okName s q)→Rel w0 B π F γ s a w→
  runsH P ops hs (opers ops ((rest ops listed).filter fun j=>decide (j<p))) s (fun u=>u=t)→
  (∀s' F' γ' a' w',K s'→(∀b,F b→F' b)→(∀b,F' b→F b∨¬B b)→Rel w0 B π F' γ' s' a' w'→Q .normal a' w')→wpAny P .any ops Q fuel listed a w:=by
 intro fuel
 induction fuel with
 | zero=>
   intro listed s F γ a w hsz hdc hpr hlen hn hr hw hK;have h0:rest ops listed=[]:=List.eq_nil_of_length_eq_zero (by omega);rw[h0]at hpr;cases hpr
 | succ fuel ih=>
   intro listed s F γ a w hsz hdc hpr hlen hn hr hw hK
   have unl:∀j,j∈rest ops listed→¬listed.getD j false=true:=by
    intro j hj hjl;have hjun:=(mem_rest.1 hj).2;have hjs:j<listed.size:=by rw[hsz];exact(mem_rest.1 hj).1
    rw[Array.getD_eq_getD_getElem?,Array.getElem?_eq_getElem hjs]at hjl hjun;simp only[Option.getD_some]at hjl hjun;rw[hjl]at hjun;cases hjun
   have hmono:∀i,i<ops.size→∀x,listed.getD x false=true→(listed.setIfInBounds i true).getD x false=true:=by
    intro i hlt x hx';by_cases ex:x=i
    · subst ex;simp[hsz,hlt]
    rw[Array.getD_eq_getD_getElem?,Array.getElem?_setIfInBounds_ne (Ne.symm ex),←Array.getD_eq_getD_getElem?];exact hx'
   refine⟨fun h0=>?_,fun i hi=>?_⟩
   · exfalso;cases hres:rest ops listed with
     |nil=>rw[hres]at hpr;cases hpr
     | cons i l=>
       have hi:i∈rest ops listed:=by rw[hres];simp
       obtain⟨hlt,hun⟩:=mem_rest.1 hi
       have:i∈Region.ready .any ops listed:=by
        refine mem_ready.2 ⟨hlt,hun,ops[i],by simp[hlt],fun e he hb=>?_⟩;have hon:=(drawB_at hd (i:=i) (o:=ops[i]) (by simp[hlt])).1 e he hb
        have hnot:e.on∉rest ops listed:=by
         intro hm;have hs:=rest_sorted (ops:=ops) listed;rw[hres]at hs hm;rcases List.mem_cons.1 hm with e'|hm
         · omega
         have:=(List.pairwise_cons.1 hs).1 _ hm;omega
        rw[mem_rest]at hnot;have hel:e.on<listed.size:=by omega
        rw[Array.getD_eq_getD_getElem?,Array.getElem?_eq_getElem hel]at hnot⊢;simp only[Option.getD_some,not_and,Bool.not_eq_false]at hnot⊢;exact hnot (by omega)
       rw[h0]at this;cases this
   obtain⟨hlt,hun,oi,hoi,hpre⟩:=mem_ready.1 hi;have hir:i∈rest ops listed:=mem_rest.2 ⟨hlt,hun⟩;have hset:=rest_set hsz hir;by_cases hip:i=p
   · -- the call: nothing is left before it
     subst hip;rw[ho]at hoi;cases hoi
     have hl0:(rest ops listed).filter (fun j=>decide (j<i))=[]:=by
      rw[List.filter_eq_nil_iff];intro j hj hji;have hji':j<i:=by simpa using hji
      exact unl j hj (pred_listed hdc ops.size i j o ho hpre (hlast j hji'))
     rw[hl0]at hw;have hst:s=t:=hw;subst hst;refine s_sound ho hr hg hh hcon hout fun F' γ' a' w' h3 h4 hr3=>?_
     have hre:rest ops (listed.setIfInBounds i true)=(List.range ops.size).filter fun j=>decide (i<j):=by
      unfold rest;refine List.filter_congr fun j hj=>?_;have hjs:j<ops.size:=by simpa using hj
      rw[getD_any (by simpa using(by omega:j<listed.size))];rcases Nat.lt_trichotomy j i with h|h|h
      · have hlj:listed.getD j false=true:=by
         cases hx:listed.getD j false
         · exfalso;have hjr:j∈rest ops listed:=mem_rest.2 ⟨hjs,by rw[getD_any (by omega)];exact hx⟩;have:j∈(rest ops listed).filter (fun j=>decide (j<i)):=List.mem_filter.2 ⟨hjr,by simpa using h⟩;rw[hl0]at this;cases this
         rfl
        rw[hmono i hlt j hlj];have:¬i<j:=by omega
        simp[this]
      · subst h;have hs':j<listed.size:=by omega
        simp[hs']
      have hlj:listed.getD j false=false:=by
       cases hx:listed.getD j false
       · rfl
       exfalso;obtain⟨oj,hoj⟩:∃oj,ops[j]? =some oj:=⟨ops[j],by simp[hjs]⟩;exact unl i hir (pred_listed hdc ops.size j i oj hoj (hdc j oj hoj hx) (hafter j h hjs))
      have hne:(listed.setIfInBounds i true).getD j false=false:=by
       rw[Array.getD_eq_getD_getElem?,Array.getElem?_setIfInBounds_ne (by omega),←Array.getD_eq_getD_getElem?];exact hlj
      rw[hne];simp[h]
     refine any_order hd fuel (listed.setIfInBounds i true) _ F' γ' a' w' (by simpa using hsz) ?_ ?_ (by rw[hre];exact hn2) hr3 (by rw[hre];exact hr2) fun s' F3 γ3 a3 w3 hk h5 h6 hr4=>hK s' F3 γ3 a3 w3 hk (fun b hb=>h5 b (h3 b hb)) (fun b hb=>(h6 b hb).elim (h4 b) .inr) hr4
     · intro k q hq hk e' hee hb;by_cases ek:k=i
       · subst ek;rw[ho]at hq;cases hq;exact hmono k hlt _ (hpre e' hee hb)
       rw[Array.getD_eq_getD_getElem?,Array.getElem?_setIfInBounds_ne (Ne.symm ek),←Array.getD_eq_getD_getElem?]at hk;exact hmono i hlt _ (hdc k q hq hk e' hee hb)
     obtain⟨x2,y2,g1,g2,_,_⟩:=split_at (rest_sorted (ops:=ops) listed) hir;rw[hset,g2];rw[g1]at hlen;simp only[List.length_append,List.length_cons]at hlen⊢;omega
   have hip':i<p:=by
    rcases Nat.lt_or_gt_of_ne hip with h|h
    · exact h
    exact absurd (pred_listed hdc ops.size i p oi hoi hpre (hafter i h hlt)) (unl p hpr)
   have hi1:i∈(rest ops listed).filter (fun j=>decide (j<p)):=List.mem_filter.2 ⟨hir,by simpa using hip'⟩
   have hx:∀k∈rest ops listed,k<i→∀q,ops[k]? =some q→indepH hs ops q oi=true:=by
    intro k hk hki q hq;refine((drawB_at hd hoi).2 k q hki hq).1.resolve_left fun hpd=>?_;exact unl k hk (pred_listed hdc ops.size i k oi hoi hpre hpd)
   have hcl:∀k q,k≠i→ops[k]? =some q→clashB oi q=false∧clashB q oi=false:=by
    intro k q hki hq;rcases Nat.lt_or_gt_of_ne hki with h|h
    · have:=((drawB_at hd hoi).2 k q h hq).2;exact⟨this.2,this.1⟩
    exact((drawB_at hd hq).2 i oi h hoi).2
   have swapf:(rest ops (listed.setIfInBounds i true)).filter (fun j=>decide (j<p))=((rest ops listed).filter (fun j=>decide (j<p))).filter (fun j=>decide (j≠i)):=by
    rw[hset,List.filter_filter,List.filter_filter];exact List.filter_congr fun j _=>Bool.and_comm _ _
   obtain⟨x,y,e1,e2,hxl,_⟩:=split_at (List.Pairwise.filter _ (rest_sorted (ops:=ops) listed)) hi1;have e3:(rest ops (listed.setIfInBounds i true)).filter (fun j=>decide (j<p))=x++y:=by rw[swapf,e2]
   rw[e1,opers_append,opers_cons hoi]at hw
   have hin:∀k∈x++y,k∈rest ops listed∧k≠i:=by
    intro k hk;rw[←e2]at hk;have:=List.mem_filter.1 hk;exact⟨(List.mem_filter.1 this.1).1,by simpa using this.2⟩
   have clq:∀q∈opers ops x++opers ops y,clashB oi q=false∧clashB q oi=false:=by
    intro q hq;rw[←opers_append]at hq;obtain⟨k,hk,hkq⟩:=mem_opers.1 hq;exact hcl k q (hin k hk).2 hkq
   have hpw:(opers ops x++opers ops y).Pairwise (fun a b=>clashB a b=false):=by
    rw[←opers_append,←e3];exact opers_pairwise hd _ (List.Pairwise.filter _ (rest_sorted _))
   obtain⟨s',h1,_,h2,_⟩:=pull (P:=P) (ops:=ops) (hs:=hs) (oi:=oi) (l2:=opers ops y) (opers ops x) s (fun q hq=>by
     obtain⟨k,hk,hkq⟩:=mem_opers.1 hq;exact hx k (hin k (by simp[hk])).1 (hxl k hk) q hkq) (fun q hq=>clq q (by simp[hq])) (fun q hq=>(clq q (by simp[hq])).1) hpw (hn oi (mem_opers.2 ⟨i,hir,hoi⟩)) (fun q hq=>by
     rw[←opers_append]at hq;obtain⟨k,hk,hkq⟩:=mem_opers.1 hq
     exact hn q (mem_opers.2 ⟨k,(hin k hk).1,hkq⟩)) hw
   refine wpOp_of_stp hoi hr h1 fun F' γ' a' w' h3 h4 hr2'=>?_;refine ih (listed.setIfInBounds i true) s' F' γ' a' w' (by simpa using hsz) ?_ ?_ ?_ ?_ hr2' ?_ fun s3 F3 γ3 a3 w3 hk3 h5 h6 hr3=>?_
   · intro k q hq hk e' hee hb;by_cases ek:k=i
     · subst ek;rw[hoi]at hq;cases hq;exact hmono k hlt _ (hpre e' hee hb)
     rw[Array.getD_eq_getD_getElem?,Array.getElem?_setIfInBounds_ne (Ne.symm ek),←Array.getD_eq_getD_getElem?]at hk;exact hmono i hlt _ (hdc k q hq hk e' hee hb)
   · rw[hset];exact List.mem_filter.2 ⟨hpr,by simp only[ne_eq,decide_eq_true_eq];omega⟩
   · obtain⟨x2,y2,g1,g2,_,_⟩:=split_at (rest_sorted (ops:=ops) listed) hir;rw[hset,g2];rw[g1]at hlen;simp only[List.length_append,List.length_cons]at hlen⊢;omega
   · intro q hq;obtain⟨k,hk,hkq⟩:=mem_opers.1 hq;rw[hset]at hk;have hk':=List.mem_filter.1 hk;exact okName_step h1 (hcl k q (by simpa using hk'.2) hkq).1 (hn q (mem_opers.2 ⟨k,hk'.1,hkq⟩))
   · rw[e3,opers_append];exact h2
   exact hK s3 F3 γ3 a3 w3 hk3 (fun b hb=>h5 b (h3 b hb)) (fun b hb=>(h6 b hb).elim (h4 b) .inr) hr3
theorem opers_drop (p:Nat):opers ops ((List.range ops.size).filter fun j=>decide (p<j))=ops.toList.drop (p+1):=by
 have hr:∀m,(List.range m).filter (fun j=>decide (p<j))=(List.range m).drop (p+1):=by
  intro m
  induction m with
  |zero=>simp
  | succ m ih=>
    rw[List.range_succ,List.filter_append,ih,List.drop_append];simp only[List.length_range];congr 1;by_cases hmp:p<m
    · rw[List.filter_cons_of_pos (by simpa using hmp),show p+1 - m=0 by omega];rfl
    rw[List.filter_cons_of_neg (by simpa using hmp)];rw[List.drop_eq_nil_of_le (by simp;omega)];rfl
 rw[hr]
 have hall:opers ops (List.range ops.size)=ops.toList:=by
  unfold opers;have:=range_get ops.toList;simpa using this
 have hsplit:opers ops ((List.range ops.size).take (p+1))++opers ops ((List.range ops.size).drop (p+1))=ops.toList:=by
  rw[←opers_append,List.take_append_drop,hall]
 have hlen:(opers ops ((List.range ops.size).take (p+1))).length=min (p+1) ops.size:=by
  have h2:∀l:List Nat,(∀j∈l,j<ops.size)→(opers ops l).length=l.length:=by
   intro l
   induction l with
   |nil=>intro _;rfl
   | cons j l ih=>
     intro h;have hj:=h j (by simp);rw[opers_cons (o:=ops[j]) (by simp[hj]),List.length_cons,List.length_cons,ih fun k hk=>h k (by simp[hk])]
  rw[h2 _ fun j hj=>by have:=List.mem_of_mem_take hj;simpa using this];simp
 rw[←hsplit];by_cases hp:p+1≤ops.size
 · rw[List.drop_left' (by rw[hlen];omega)]
 have:(List.range ops.size).drop (p+1)=[]:=List.drop_eq_nil_of_le (by simp;omega);rw[this];have h0:opers ops []=[]:=rfl;rw[h0,List.append_nil,List.drop_eq_nil_of_le (by rw[hlen];omega)]
theorem HT_drawT {id:Nat} (hs:List (Nat×Nat)) (p:Nat) (cs cs2:List CR) {s t t2:HS} {p1 p2:Prop} {o:Oper} {f:FuncId} {d:Nat} {objs objs':List (Nat×Ob)} {args:List TV} (ρ σ:Nat→Nat) {r:RV} {Q:Exit→HS→Prop} (hm:P.follows .mixedOrders=true) (hd:drawH hs ops=true) (hl:midB ops p=true)
  (hc:cleanB ops.toList s=true) (h1:evcH P ops hs (ops.toList.take p) s cs=some (t,p1)) (hp1:p1) (ho:ops[p]? =some o) (hg:gOfC t o=some (f,args.map (TV.ren ρ []),d)) (hh:HandS ρ σ objs objs' t) (hcon:ConS P f objs args r objs') (hout:okRV (objs'.map (·.1)) r=true)
  (hc2:cleanB (ops.toList.drop (p+1)) (({t with objs:=addS σ objs' (dels (objs.map fun p=>ρ p.1) t.objs)}:HS).put (some d) (r.ren σ []))=true) (h2:evcH P ops hs (ops.toList.drop (p+1)) (({t with objs:=addS σ objs' (dels (objs.map fun p=>ρ p.1) t.objs)}:HS).put (some d) (r.ren σ [])) cs2=some (t2,p2)) (hp2:p2)
  (hq:Q .normal t2):HT P (.region id ops true) s Q:=by
 intro w0 B π F γ a w hr
 have hrest:rest ops (Array.replicate ops.size false)=List.range ops.size:=by
  unfold rest;refine List.filter_eq_self.2 fun i hi=>?_;have:i<ops.size:=by simpa using hi
  simp[this]
 have hopers:opers ops (List.range ops.size)=ops.toList:=by
  unfold opers;have:=range_get ops.toList;simpa using this
 have hok:∀o∈ops.toList,okName s o:=by
  intro o ho hn d hdd;unfold cleanB at hc;rw[List.all_eq_true]at hc;have:=hc o ho;simpa[hn,hdd]using this
 have hpw:ops.toList.Pairwise (fun a b=>clashB a b=false):=by
  rw[←hopers];exact opers_pairwise hd _ List.pairwise_lt_range
 have hp0:p<ops.size:=(Array.getElem?_eq_some_iff.1 ho).1;have e1:=opers_take (ops:=ops) p (by omega);have hp:p<ops.size:=(Array.getElem?_eq_some_iff.1 ho).1
 have hlast:∀j,j<p→predB ops ops.size p j=true:=by
  intro j hj;unfold midB at hl;rw[Bool.and_eq_true,List.all_eq_true,List.all_eq_true]at hl;exact hl.1 j (by simpa using hj)
 have hafter:∀j,p<j→j<ops.size→predB ops ops.size j p=true:=by
  intro j hj hjs;unfold midB at hl;rw[Bool.and_eq_true,List.all_eq_true,List.all_eq_true]at hl;have:=hl.2 j (by simpa using hjs);rw[decide_eq_false (by omega)]at this;simpa using this
 have e2:=opers_drop (ops:=ops) p
 have hruns2:runsH P ops hs (ops.toList.drop (p+1)) _ (fun u=>u=t2):=
  runs_of_evcH _ _ t2 cs2 p2 (List.Pairwise.sublist (List.drop_sublist _ _) hpw) (fun o ho=>by
   intro hn d hdd;unfold cleanB at hc2;rw[List.all_eq_true]at hc2;have:=hc2 o ho
   simpa[hn,hdd]using this) h2 hp2 rfl
 have hruns:runsH P ops hs (ops.toList.take p) s (fun u=>u=t):=
  runs_of_evcH _ s t cs p1 (List.Pairwise.sublist (List.take_sublist _ _) hpw) (fun o ho=>hok o (List.mem_of_mem_take ho)) h1 hp1 rfl
 refine wp_region_any hm (any_mid (P:=P) (ops:=ops) (hs:=hs) (w0:=w0) (B:=B) (π:=π) (p:=p) hd hp hlast hafter (by
  rw[e2];intro o ho hn d hdd;unfold cleanB at hc2;rw[List.all_eq_true]at hc2;have:=hc2 o ho
  simpa[hn,hdd]using this) (by rw[e2];exact hruns2) ho hg hh hcon hout ops.size (Array.replicate ops.size false) s F γ a {w with drawn:=w.drawn+1} (by simp) ?_ ?_ ?_ ?_ ?_ ?_ fun s' F' γ' a' w' hk h1 h2 h3=>⟨s',F',γ',by rw[hk];exact hq,h1,h2,h3⟩)
 · intro i o ho hl;have hi:i<ops.size:=(Array.getElem?_eq_some_iff.1 ho).1;simp[hi]at hl
 · rw[hrest];simp;omega
 · rw[hrest];simp
 · rw[hrest,hopers];exact hok
 · exact⟨hr.heap.drew,hr.defers,hr.nt,fun k r hk=>(hr.regs k r hk).mono (w:=w) (w':={w with drawn:=w.drawn+1}) (fun _ h=>h) fun _ _=>rfl⟩
 rw[hrest,e1];exact hruns
end
end Go.Hl

namespace Go.Proofs.YtfjidddhehckoaaGreat
open Go Go.Hl
theorem boundsP_con (f:Fl) (hv:f.vars.length≤1000000) (hh:f.hats.length≤1000000) (hn:nodesS f.body+nodesH f.hats≤900000000) (hb:bndL f.body=true) (hc:codeC f=0) (d:Nat):
  Con Tryz.prog 70 true [aF f] (.tup [li (bdL CP f.body ⟨0,0,0⟩).s,li (bdL CP f.body ⟨0,0,0⟩).o,li (bdL CP f.body ⟨0,0,0⟩).t,li 0]) none d:=by
 have cc:=checkP_con f hv hh hn hb;have cu:=upper_con f.body (by omega) (ssC_ok _ _ (code_split hc).2.2.2.1);rw[hc]at cc;obtain⟨vars,hats,body⟩:=f;simp only at cu⊢;obtain⟨⟨bs,bo,bt⟩,hB⟩:∃x,bdL CP body ⟨0,0,0⟩=x:=⟨_,rfl⟩;rw[hB]at cu⊢;simp only[aB]at cu⊢;clear hB hc hn hb hv hh;refine con_of_HTA Tryz.func70 ?_;simp only[Tryz.f70];simp only[aF,Fl.enc,List.map_cons,List.map_nil]at cc⊢;refine HT_sA ?_;refine HT_seq<|HT_seq<|(HT_runcA [⟨true,.v (li 0),none⟩] ?_ ?_)
 · first|exact cc _|exact trivial|simpa[*]using cc _
 refine HT_sA ?_;refine(HT_cs rfl (fun h3=>?_) fun h3=>?_)
 · exact absurd h3 (by simp)
 (try simp only[BN]at h3);refine HT_scA [⟨true,.v (.agg [.c (iC bs),.c (iC bo),.c (iC bt)]),none⟩] ?_ ?_
 · first|exact cu _|exact trivial|simpa[*]using cu _
 refine HT_seq<|(HT_drun (by kernel_rfl) (by kernel_rfl) (by rfl) (by simp[*];rfl) ?_);exact HT_rA
end Go.Proofs.YtfjidddhehckoaaGreat

namespace Go.Proofs.YtfjidddhehckoaaGreat
open Go Go.Hl
theorem labC_in {n:Nat}:∀(l:List Lb) (seen:List ByteArray),labC n seen l=0→∀x∈l,okI n x.level
 |[],_,_,x,hx=>by cases hx
 | y::l,seen,h,x,hx=>by
   simp only[labC]at h;split at h
   · cases h
   split at h
   · cases h
   split at h
   · cases h
   rename_i hl;rcases List.mem_cons.1 hx with rfl|hx
   · exact⟨by omega,by omega⟩
   exact labC_in l _ h x hx
theorem polC_lab {p:Po} (h:polC p=0):labC p.n [] p.inputs=0∧labC p.n [] p.hatches=0:=by
 unfold polC at h;split at h
 · rename_i h1;exact absurd h h1
 split at h
 · cases h
 split at h
 · rename_i h1;exact absurd h h1
 rename_i h1;split at h
 · rename_i h2;exact absurd h h2
 rename_i h2;exact⟨Decidable.not_not.1 h1,Decidable.not_not.1 h2⟩
theorem best_ok {n:Nat} {v:Vr}:∀(l:List Lb) (r:Int×Int),(∀x∈l,okI n x.level)→okI n r.1→okI n (bestF v l r).1
 |[],r,_,h=>h
 | x::l,r,hl,h=>by
   simp only[bestF];refine best_ok l _ (fun y hy=>hl y (List.mem_cons_of_mem _ hy)) ?_;split
   · exact hl x (List.mem_cons_self ..)
   exact h
theorem bot_ok {p:Po} (h:polC p=0):okI p.n p.bot:=by
 obtain⟨hM,h1,h2⟩:=pol_new h;have:=(hM.flp.top h1 p.n (Nat.le_refl _)).1;exact⟨by unfold Po.bot;omega,by unfold Po.bot;omega⟩
theorem top_ok {p:Po} (h:polC p=0):okI p.n p.top:=by
 obtain⟨hM,h1,h2⟩:=pol_new h;have:=(hM.top h1 p.n (Nat.le_refl _)).1;exact⟨by unfold Po.top;omega,by unfold Po.top;omega⟩
theorem lev_ok {p:Po} (h:polC p=0) (v:Vr):okI p.n (levV p v):=by
 unfold levV;refine best_ok _ _ (fun x hx=>labC_in _ _ (polC_lab h).1 x hx) ?_;split
 · exact top_ok h
 exact bot_ok h
theorem pin_out {f:Fl} {p:Po} (h:(pinF f p).2=0):polC p=0∧codeC f=0∧(pinF f p).1=f.vars.map (levV p):=by
 unfold pinF at h⊢;split at h
 · cases h
 rename_i h1;rw[if_neg h1];split at h
 · rename_i h2;rw[if_pos h2];exact⟨by omega,by omega,rfl⟩
 cases h
theorem pht_out {f:Fl} {p:Po} (h:(phtF f p).2=0):(phtF f p).1.length=f.hats.length:=by
 unfold phtF at h⊢;split at h
 · cases h
 rename_i h1;rw[if_neg h1];split at h
 · cases h
 rename_i l hl;have:=htF_len _ _ _ _ hl;simpa using this
theorem ssC_last {vars:List Vr} {nh:Nat}:∀(l:List St) (top:Bool),ssC vars nh l top=0→∀s∈l,s.do_=6→s.bounds≠[]
 |[],_,_,s,hs,_=>by cases hs
 | .mk d c v n t a b bs::l,top,h,s,hs,h6=>by
   obtain⟨hsh,_,_,_,_,hl⟩:=ssC_split h;rcases List.mem_cons.1 hs with rfl|hs
   · simp only[St.do_]at h6;subst h6;unfold shB at hsh;simp only[show ¬(6:Int)=0 by decide,show ¬(6:Int)=1 by decide,show ¬(6:Int)=2 by decide,show ¬(6:Int)=3 by decide,show ¬(6:Int)=4 by decide,show ¬(6:Int)=5 by decide,if_true,if_false,Bool.and_eq_true]at hsh;have hr:=hsh.2;unfold riseB at hr;simp only[Bool.and_eq_true,decide_eq_true_eq]at hr;intro e;simp only[St.bounds]at e;rw[e]at hr;simp at hr
   exact ssC_last l top hl s hs h6
def setlB (f:Fl):Bool:=match f.body[f.body.length - 1]? with
 |some s=>decide (s.do_=6)&&decide ((bdL CP f.body ⟨0,0,0⟩).t≤(s.bounds[0]?).getD 0)
 |none=>false
def tyE (f:Fl) (p:Po):List Int×Tp:=((tyR f p).1,if setlB f=true then {(tyR f p).2 with time:=p.bot} else(tyR f p).2)
def tO8 (L:CD) (hv:List Int) (W:Int) (t:Tp):List (Nat×Ob):=[(900001,.row 3 1 (encIs t.faults)),(900002,.row 32 1 (encLL t.states)),(900003,.row 3 1 (encIs t.counts)),(800000,tB L hv W t)]
def runRt (f:Fl) (p:Po):RV:=if askC f p=0 then .tup [.one (.at_ 800000 0),lI (tyE f p).1,li 0] else .tup [.one (.c (.lit (.pointer none))),lI [],li (askC f p)]
def runOt (f:Fl) (p:Po):List (Nat×Ob):=if askC f p=0 then tO8 (Lt.latO p.levels p.order) (phtF f p).1 p.observer (tyE f p).2 else []
theorem runT_con (f:Fl) (p:Po) (hs:smP p) (hrep:repC f.hats.length) (hv:f.vars.length≤1000000) (hh:f.hats.length≤1000000) (hn:nodesS f.body+nodesH f.hats≤900000) (hb:bndL f.body=true):
  ConS Tryz.prog 35 [] [aF f,aPo p] (runRt f p) (runOt f p):=by
 have cin:=polIn_con f p hs hv hh (by omega) hb;have cht:=polHt_con f p hs hrep hv hh (by omega) hb;have cnew:=newP_con p.levels p.order hs.1;have hpo:=fun h=>pin_out (f:=f) (p:=p) h;have hho:=fun h=>pht_out (f:=f) (p:=p) h;have hwf:codeC f=0→wfL f.vars f.hats.length f.body=true:=fun h=>(code_wf hb h).1;have hlast:codeC f=0→∀s∈f.body,s.do_=6→s.bounds≠[]:=fun h=>ssC_last _ _ (code_split h).2.2.2.1;have crel:=rel_con f.vars (phtF f p).1 f.body (by omega);have cbot:=botP_con p;have cst:=fun h=>stepsT_con p h (phtF f p).1 p.observer f.vars (fuF f p) hv (by unfold fuF;omega) f.body (by omega);have cbd:=fun h=>boundsP_con f hv hh (by omega) hb h;have hsz:=szL_le f.body;have hbok:=fun h=>bot_ok (p:=p) h
 have hlok:polC p=0→okV p.n (f.vars.map (levV p)):=fun h x hx=>by
  obtain⟨v,_,rfl⟩:=List.mem_map.1 hx;exact lev_ok h v
 have hnr:polC p=0→Lt.newR p.levels p.order=.one (.c (Lt.latO p.levels p.order))∧Lt.newC p.levels p.order=0:=fun h=>by
  unfold Lt.newR;rw[if_pos (polC_new h)];exact⟨rfl,polC_new h⟩
 unfold runRt runOt tyE;unfold tyR;obtain⟨SB,hSB⟩:∃x,setlB f=x:=⟨_,rfl⟩;rw[hSB];unfold setlB at hSB;have htm:envF f p=⟨p.n,p.M,(phtF f p).1,p.observer⟩:=rfl;rw[htm];obtain⟨A,hA⟩:∃x,askC f p=x:=⟨_,rfl⟩;rw[hA];unfold askC at hA;obtain⟨⟨P1,P2⟩,hP⟩:∃x,pinF f p=x:=⟨_,rfl⟩;obtain⟨⟨H1,H2⟩,hH⟩:∃x,phtF f p=x:=⟨_,rfl⟩;rw[hP]at cin hpo;rw[hH]at cht hho;simp only[hP,hH]at cst crel hpo hho cin cht hA⊢;obtain⟨FU,hFU⟩:∃x,fuF f p=x:=⟨_,rfl⟩;simp only[hFU]at cst⊢;obtain⟨BD,hBD⟩:∃x,(bdL CP f.body ⟨0,0,0⟩)=x:=⟨_,rfl⟩;simp only[hBD]at cbd hSB;obtain⟨cs,hL⟩:=lat_ptr p;obtain⟨BOT,hBOT⟩:∃x,p.bot=x:=⟨_,rfl⟩;simp only[hL,hBOT]at hnr cbot cst hbok⊢
 obtain⟨NR,hNR⟩:∃x,Lt.newR p.levels p.order=.one (.c x):=by
  unfold Lt.newR;split
  · exact⟨_,rfl⟩
  exact⟨_,rfl⟩
 obtain⟨NC,hNC⟩:∃x,Lt.newC p.levels p.order=x:=⟨_,rfl⟩;rw[hNR,hNC]at cnew hnr;unfold t0F;rw[hBOT];clear hs hrep hP hH hFU hBD hL hBOT hNR hNC htm;refine con_s_of_HT Tryz.func35 rfl (by kernel_rfl) (Nat.le_of_ble_eq_true rfl) (pin_mk rfl) ?_;simp only[Tryz.f35];simp only[aF,Fl.enc,aPo,Po.enc,List.map_cons,List.map_nil]at cin cht cbd⊢;refine HT_sA ?_;refine HT_scA [⟨false,.tup [lI P1,li P2],none⟩] ?_ ?_
 · first|exact cin _|exact trivial|simpa[*]using cin _
 refine HT_seq<|HT_seq<|HT_runA ?_;refine(HT_cs rfl (fun h3=>?_) fun h3=>?_)
 · (try simp only[BN]at h3);have h2:P2≠0:=by simpa using h3
   rw[if_pos h2]at hA;subst hA;rw[if_neg h2,if_neg h2];refine HT_sA ?_;exact HT_ret ⟨.inr rfl,HT_endL (le_one 5 1 rfl) (by simp;rfl) (by simp[resR]) (by simp)⟩
 (try simp only[BN]at h3);have h2:P2=0:=by simpa using h3
 subst h2;rw[if_neg (by simp)]at hA;obtain⟨hpc,hcc,hP1⟩:=hpo rfl;have hwf:=hwf hcc;have hlast:=hlast hcc;have cbot:=cbot hpc;have cbd:=cbd hcc;have hbok:=hbok hpc;have hlok:=hlok hpc;rw[←hP1]at hlok;have hP1l:P1.length=f.vars.length:=by rw[hP1,List.length_map]
 obtain⟨e1,e2⟩:=hnr hpc;simp only[TV.one.injEq,CV.c.injEq]at e1;subst e1 e2;have cst:=cst hpc;clear hpo cin hnr hP1;refine HT_scA [⟨false,.tup [lI H1,li H2],none⟩] ?_ ?_
 · first|exact cht _|exact trivial|simpa[*]using cht _
 refine HT_seq<|HT_seq<|HT_runA ?_;refine(HT_cs rfl (fun h8=>?_) fun h8=>?_)
 · (try simp only[BN]at h8);have h2:H2≠0:=by simpa using h8
   rw[if_pos h2]at hA;subst hA;rw[if_neg h2,if_neg h2];refine HT_sA ?_;exact HT_ret ⟨.inr rfl,HT_endL (le_one 5 1 rfl) (by simp;rfl) (by simp[resR]) (by simp)⟩
 (try simp only[BN]at h8);have h2:H2=0:=by simpa using h8
 subst h2;rw[if_neg (by simp)]at hA;have hl1:=hho rfl;rw[←hl1]at hwf;have crel:=crel hwf;have cst:=cst hwf BOT P1 ⟨BOT,[],0,false,[],[]⟩ hbok hlok hP1l ⟨by simp only;omega,by simp only[List.length_nil];omega,by simp only[List.length_nil];omega,by simp only[List.length_nil];omega⟩;obtain⟨RL,hRL⟩:∃x,relL H1 f.body=x:=⟨_,rfl⟩;rw[hRL]at crel hA;clear hho cht hRL;refine HT_seq<|HT_seq<|(HT_runcA [⟨true,.v (lb RL),none⟩] ?_ ?_)
 · first|exact crel _|exact trivial|simpa[*]using crel _
 refine(HT_cs rfl (fun h12=>?_) fun h12=>?_)
 · (try simp only[BN]at h12);have hr:RL=false:=by simpa using h12
   rw[if_neg (by rw[hr];decide)]at hA;subst hA;rw[if_neg (by decide),if_neg (by decide)];refine HT_sA ?_;exact HT_ret ⟨.inr rfl,HT_endL (le_one 5 1 rfl) (by simp;rfl) (by simp[resR]) (by simp)⟩
 (try simp only[BN]at h12);have hr:RL=true:=by simpa using h12
 rw[if_pos hr]at hA;subst hA;rw[if_pos rfl,if_pos rfl];obtain⟨⟨X,T⟩,hT⟩:∃x,tyL ⟨p.n,p.M,H1,p.observer⟩ FU f.body BOT P1 ⟨BOT,[],0,false,[],[]⟩=x:=⟨_,rfl⟩;rw[hT]at cst;simp only[hT];obtain⟨z1,z2,z3,z4,z5,z6⟩:=T;simp only[tO,tB,tO8,show encIs []=[] from rfl,show encLL []=[] from rfl,Int.natCast_zero]at cst⊢;clear crel hT hwf hlok hbok hr;refine HT_scA [⟨false,.tup [.one (.c (.ptr cs)),li 0],none⟩] ?_ ?_
 · first|exact cnew _|exact trivial|simpa[*]using cnew _
 refine HT_seq<|HT_seq<|HT_runA ?_;refine(HT_cs rfl (fun h17=>?_) fun h17=>?_)
 · exact absurd h17 (by simp)
 (try simp only[BN]at h17);refine HT_seq<|(HT_druncH [(54,3)] [⟨true,.v (li BOT),none⟩] (by kernel_rfl) (by kernel_rfl) (by rfl) (by simp[evcH,hokB,hintOf, *,allTyped,fillC,placeOf];first|exact⟨rfl,Iff.rfl⟩|exact⟨rfl,trivial⟩|rfl) ?_ ?_)
 · first|exact cbot _|exact trivial|simpa[*,allTyped,fillC,placeOf]using cbot _
 refine HT_le (show le _ ⟨107,[(2,.v (.one (.at_ 2 0))),(7,.v (lI P1)),(10,.v (.one (.c (.ptr cs)))),(11,.v (.one (.at_ 59 0)))],[(2,.box [.c (.sl 5 (encVs f.vars)),.c (.sl 6 (encHs f.hats)),.c (.sl 10 (encSs f.body))]),(59,.box [.c (.ptr cs),.c (.sl 1 (encIs H1)),.c (iC p.observer),.c (iC BOT),.own 900001,.c (iC 0),.c (bC false),.own 900002,.own 900003]),(900001,.row 3 1 []),(900002,.row 32 1 []),(900003,.row 3 1 [])]⟩ from le_mk (fun n=>n) [900001,900002,900003] rfl (by simp) (by simp) (by simp)) ?_;refine HT_seq<|(HT_drawT [(61,2)] 6 [⟨true,.v (li BOT),none⟩] [] (fun n=>if n=1000000 then 59 else n) (fun n=>if n=1000000 then 59 else n+10) (by kernel_rfl) (by kernel_rfl) (by kernel_rfl) (by rfl) (by simp[*,evcH,hokB,hintOf];first|exact⟨rfl,Iff.rfl⟩|exact⟨rfl,trivial⟩|rfl) ?_ (by rfl) (by simp;rfl) (handS_mk (by simp) (by simp) (by simp) (by simp) (by simp)) cst (by rfl) (by rfl) (by simp[evcH,hokB,hintOf];rfl) trivial ?_)
 · first|exact cbot _|exact trivial|simpa using cbot _
 clear cst;rcases Nat.eq_zero_or_pos f.body.length with hz|hz
 · have hnn:f.body[f.body.length - 1]? =none:=by rw[List.getElem?_eq_none_iff];omega
   rw[hnn]at hSB;simp only at hSB;subst hSB;simp only[Bool.false_eq_true,if_false];refine HT_seq<|HT_seq<|HT_runA ?_;refine HT_sA ?_;refine(HT_cs rfl (fun h24=>?_) fun h24=>?_)
   · exact absurd h24 (by simp)
   (try simp only[BN]at h24);refine HT_sA ?_;exact HT_ret ⟨.inr rfl,HT_endL (s2:=⟨107,[(4,.v (.one (.at_ 800000 0))),(5,.v (lI X)),(6,.v (li 0))],[(900001,.row 3 1 (encIs z2)),(900002,.row 32 1 (encLL z5)),(900003,.row 3 1 (encIs z6)),(800000,.box [.c (.ptr cs),.c (.sl 1 (encIs H1)),.c (iC p.observer),.c (iC z1),.own 900001,.c (iC (z3:Nat)),.c (bC z4),.own 900002,.own 900003])]⟩) (le_mk (fun n=>if n=800000 then 59 else n+10) [] rfl (by simp) (by simp) (by simp)) (by simp;rfl) (by simp[resR]) (by simp)⟩
 obtain⟨q,hq⟩:∃q,f.body[f.body.length - 1]? =some q:=⟨f.body[f.body.length - 1]'(by omega),List.getElem?_eq_getElem (by omega)⟩;rw[hq]at hSB;have hlq:=hlast q (List.mem_of_getElem? hq);have hw:IntKind.i64.wrap ((f.body.length:Int) - 1)=((f.body.length - 1:Nat):Int):=by rw[wrap_in (by have:=len_nodesS f.body;omega) (by have:=len_nodesS f.body;omega)];omega
 have he':=get_encS hq;obtain⟨qd,qc,qv,qn,⟨qo,qtn,qks⟩,qa,qb,qbs⟩:=q;simp only[St.enc,Tm.enc,List.cons_append,List.nil_append]at he';have hlq:qd=6→qbs≠[]:=hlq;have hSB:(decide (qd=6)&&decide (BD.t≤(qbs[0]?).getD 0))=SB:=hSB;obtain⟨LE,hLE⟩:∃x,f.body.length - 1=x:=⟨_,rfl⟩;rw[hLE]at hw he';have hzi:(0:Int)<f.body.length:=by omega
 clear hq hLE hz;refine HT_seq<|HT_seq<|HT_runA ?_;refine HT_sA ?_;refine(HT_cs rfl (fun h24=>?_) fun h24=>?_)
 · (try simp only[BN]at h24);have hq6:qd=6:=(by simpa using h24:0<f.body.length∧qd=6).2;subst hq6
   obtain⟨y,hy⟩:∃y,qbs[0]? =some y:=by
    cases qbs with
    |nil=>exact absurd rfl (hlq rfl)
    |cons y l=>exact⟨y,rfl⟩
   rw[hy]at hSB;obtain⟨B1,B2,B3⟩:=BD;simp only at cbd;have hSB:SB=decide (B3≤y):=by rw[←hSB];simp
   refine HT_scA [⟨true,.tup [li B1,li B2,li B3,li 0],none⟩] ?_ ?_
   · first|exact cbd _|exact trivial|simpa[*]using cbd _
   refine HT_sA ?_;refine(HT_cs rfl (fun h27=>?_) fun h27=>?_)
   · (try simp only[BN]at h27);have hle:B3≤y:=by simpa using h27
     rw[decide_eq_true hle]at hSB;subst hSB;simp only[if_true];refine(HT_runcA [⟨true,.v (li BOT),none⟩] ?_ ?_)
     · first|exact cbot _|exact trivial|simpa[*]using cbot _
     refine HT_sA ?_;exact HT_ret ⟨.inr rfl,HT_endL (s2:=⟨107,[(4,.v (.one (.at_ 800000 0))),(5,.v (lI X)),(6,.v (li 0))],[(900001,.row 3 1 (encIs z2)),(900002,.row 32 1 (encLL z5)),(900003,.row 3 1 (encIs z6)),(800000,.box [.c (.ptr cs),.c (.sl 1 (encIs H1)),.c (iC p.observer),.c (iC BOT),.own 900001,.c (iC (z3:Nat)),.c (bC z4),.own 900002,.own 900003])]⟩) (le_mk (fun n=>if n=800000 then 59 else n+10) [] rfl (by simp) (by simp) (by simp)) (by simp;rfl) (by simp[resR]) (by simp)⟩
   (try simp only[BN]at h27);have hle:¬B3≤y:=by simpa using h27
   rw[decide_eq_false hle]at hSB;subst hSB;simp only[Bool.false_eq_true,if_false];refine HT_sA ?_;exact HT_ret ⟨.inr rfl,HT_endL (s2:=⟨107,[(4,.v (.one (.at_ 800000 0))),(5,.v (lI X)),(6,.v (li 0))],[(900001,.row 3 1 (encIs z2)),(900002,.row 32 1 (encLL z5)),(900003,.row 3 1 (encIs z6)),(800000,.box [.c (.ptr cs),.c (.sl 1 (encIs H1)),.c (iC p.observer),.c (iC z1),.own 900001,.c (iC (z3:Nat)),.c (bC z4),.own 900002,.own 900003])]⟩) (le_mk (fun n=>if n=800000 then 59 else n+10) [] rfl (by simp) (by simp) (by simp)) (by simp;rfl) (by simp[resR]) (by simp)⟩
 (try simp only[BN]at h24);have hq6:¬qd=6:=(by simpa using h24:f.body=[]∨¬qd=6).resolve_left (fun h=>by rw[h]at hzi;simp at hzi);simp only[decide_eq_false hq6,Bool.false_and]at hSB;subst hSB;simp only[Bool.false_eq_true,if_false];refine HT_sA ?_;exact HT_ret ⟨.inr rfl,HT_endL (s2:=⟨107,[(4,.v (.one (.at_ 800000 0))),(5,.v (lI X)),(6,.v (li 0))],[(900001,.row 3 1 (encIs z2)),(900002,.row 32 1 (encLL z5)),(900003,.row 3 1 (encIs z6)),(800000,.box [.c (.ptr cs),.c (.sl 1 (encIs H1)),.c (iC p.observer),.c (iC z1),.own 900001,.c (iC (z3:Nat)),.c (bC z4),.own 900002,.own 900003])]⟩) (le_mk (fun n=>if n=800000 then 59 else n+10) [] rfl (by simp) (by simp) (by simp)) (by simp;rfl) (by simp[resR]) (by simp)⟩
end Go.Proofs.YtfjidddhehckoaaGreat

namespace Go.Proofs.YtfjidddhehckoaaGreat
open Go Go.Hl
def accB (f:Fl) (p:Po):Bool:=decide ((tyE f p).2.faults.length=0)&&(!p.timed||p.B (tyE f p).2.time p.observer)
abbrev aTg (a:Bool) (fa:List Int) (t:Int) (e:List Int):TV:=.agg [.c (bC a),.c (.sl 1 (encIs fa)),.c (iC t),.c (.sl 1 (encIs e))]
def chkR (f:Fl) (p:Po):RV:=if askC f p=0 then .tup [aTg (accB f p) (tyE f p).2.faults (tyE f p).2.time (tyE f p).1,li 0] else .tup [aTg false [] 0 [],li (askC f p)]
theorem checkT_con (f:Fl) (p:Po) (hs:smP p) (hrep:repC f.hats.length) (hv:f.vars.length≤1000000) (hh:f.hats.length≤1000000) (hn:nodesS f.body+nodesH f.hats≤900000) (hb:bndL f.body=true) (hlen:askC f p=0→(tyE f p).1.length≤1000000) (d:Nat):
  Con Tryz.prog 12 false [aF f,aPo p] (chkR f p) none d:=by
 have crun:=runT_con f p hs hrep hv hh hn hb;have cbe:=belL_con p (tyE f p).2.time p.observer;have ccl:=fun h=>cloneI_con (tyE f p).1 (by have:=hlen h;omega);unfold chkR accB;unfold runRt runOt at crun;obtain⟨A,hA⟩:∃x,askC f p=x:=⟨_,rfl⟩;obtain⟨⟨X,T⟩,hT⟩:∃x,tyE f p=x:=⟨_,rfl⟩;obtain⟨cs,hL⟩:=lat_ptr p;obtain⟨HV,hH⟩:∃x,(phtF f p).1=x:=⟨_,rfl⟩;rw[hA]at crun;simp only[hT,hL,hH,hA]at crun cbe ccl⊢;obtain⟨z1,z2,z3,z4,z5,z6⟩:=T;simp only at cbe⊢;obtain⟨BE,hBE⟩:∃x,p.B z1 p.observer=x:=⟨_,rfl⟩;rw[hBE]at cbe⊢;clear hA hT hL hH hBE hs hrep hv hh hn hb hlen;refine con_of_HTA Tryz.func12 ?_;simp only[Tryz.f12];simp only[tO8,tB]at crun;simp only[aF,Fl.enc,aPo,Po.enc,List.map_cons,List.map_nil]at crun⊢;refine HT_sA ?_;rcases Classical.em (A=0)with hA|hA
 · subst hA;rw[if_pos rfl,if_pos rfl]at crun;rw[if_pos rfl];have ccl:=ccl rfl;refine HT_seq<|(HT_runsS ?_);refine RunsS.cutE 2 [] (by simp[*];rfl) trivial (le_refl _) ?_;refine RunsS.call (fun n=>n) (fun n=>n) (by simp;rfl) (handS_mk (by simp) (by simp) (by simp) (by simp) (by simp)) crun (by rfl) ?_;refine RunsS.doneE [] (by simp;rfl) trivial ?_;clear crun;refine HT_seq<|HT_seq<|HT_runA ?_;refine(HT_cs rfl (fun h3=>?_) fun h3=>?_)
   · exact absurd h3 (by simp)
   (try simp only[BN]at h3);refine HT_seq<|(HT_druncH [(23,800000),(27,800000),(9,9)] [⟨false,.v (lI X),none⟩] (by kernel_rfl) (by kernel_rfl) (by rfl) (by simp[evcH,hokB,hintOf, *,allTyped,fillC,placeOf];first|exact⟨rfl,Iff.rfl⟩|exact⟨rfl,trivial⟩|rfl) ?_ ?_)
   · first|exact ccl _|exact trivial|simpa[*,allTyped,fillC,placeOf]using ccl _
   refine HT_seq<|(HT_druncH [(34,800000),(39,3),(45,800000),(49,800000),(51,3),(56,9)] [⟨true,.v (lb BE),none⟩] (by kernel_rfl) (by kernel_rfl) (by rfl) (by simp[evcH,hokB,hintOf, *];first|exact⟨rfl,Iff.rfl⟩|exact⟨rfl,trivial⟩|rfl) ?_ ?_)
   · first|exact cbe _|exact trivial|simpa[*]using cbe _
   refine HT_sA ?_;exact HT_ret ⟨.inr rfl,_,le_frz 900001 rfl,⟨⟨_,by simp;rfl,by simp[resR]⟩,by simp,fun h=>by cases h⟩⟩
 rw[if_neg hA,if_neg hA]at crun;rw[if_neg hA];refine HT_seq<|(HT_runsS ?_);refine RunsS.cutE 2 [] (by simp[*];rfl) trivial (le_refl _) ?_;refine RunsS.call (fun n=>n) (fun n=>n) (by simp;rfl) (handS_mk (by simp) (by simp) (by simp) (by simp) (by simp)) crun (by rfl) ?_;refine RunsS.doneE [] (by simp;rfl) trivial ?_;clear crun;refine HT_seq<|HT_seq<|HT_runA ?_;refine(HT_cs rfl (fun h3=>?_) fun h3=>?_)
 · (try simp only[BN]at h3);refine HT_seq<|(HT_run (by simp[*,allTyped,fillC,placeOf];rfl) ?_);refine HT_le (le_box 4 [.c (bC false),.c (.sl 1 []),.c (iC 0),.c (.sl 1 [])] rfl (by(repeat'(first|exact LWk.nil|apply LWk.cons|exact CWk.refl _|exact CWk.nil _)))) ?_;exact HT_ret ⟨.inr rfl,_,le_refl _,⟨⟨_,by simp;rfl,by simp[resR]⟩,by simp,fun h=>by cases h⟩⟩
 exact absurd h3 (by simpa using hA)
end Go.Proofs.YtfjidddhehckoaaGreat

namespace Go.Proofs.YtfjidddhehckoaaGreat
open Go Go.Hl
theorem wordR_con (b:UInt8) (d:Nat):Con Tryz.prog 187 true [.one (.c (.lit (.int .u8 b.toNat)))] (.v (lb (wordB b))) none d:=by
 unfold wordB;refine con_of_HTA Tryz.func187 ?_;simp only[Tryz.f187];refine HT_sA ?_;refine HT_sA ?_;exact HT_rA
theorem nameR19_con (s:ByteArray) (d:Nat):Con Tryz.prog 170 true [sv s] (.v (lb (nameB s))) none d:=by
 rcases Nat.eq_zero_or_pos s.size with h0|h0
 · have hz:nameB s=false:=by unfold nameB;simp[h0]
   have he:s=⟨#[]⟩:=by rw[size_pos];exact h0
   rw[hz];subst he;clear hz h0;refine con_of_HTA Tryz.func170 ?_;simp only[Tryz.f170];refine HT_sA ?_;refine HT_seq<|HT_seq<|HT_runA ?_;refine(HT_cs rfl (fun h2=>?_) fun h2=>?_)
   · (try simp only[BN]at h2);refine HT_sA ?_;exact HT_rA
   exact absurd h2 (by simp)
 have hne:¬s=⟨#[]⟩:=by rw[size_pos];omega
 have hb0:s[0]? =some (s[0]'h0):=getElem?_pos s 0 h0;refine con_of_HTA Tryz.func170 ?_;simp only[Tryz.f170];refine HT_sA ?_;refine HT_seq<|HT_seq<|HT_runA ?_;refine(HT_cs rfl (fun h2=>?_) fun h2=>?_)
 · try simp only[BN]at h2
   have hz:nameB s=false:=by
    by_cases h40:s.size≤40
    · refine nameB_bad h0 ?_;unfold chOk;rw[hb0];simp only[Bool.or_eq_false_iff,Bool.and_eq_false_iff,decide_eq_false_iff_not];omega
    unfold nameB;simp[h40]
   refine HT_sA ?_;exact HT_rA
 (try simp only[BN]at h2);have h40:s.size≤40:=by omega
 have hb97:97≤((s[0]'h0).toNat:Int)∧((s[0]'h0).toNat:Int)≤122:=by omega
 refine HT_seq<|HT_seq<|HT_runA ?_;refine HT_block<|(HT_loopU [0] (fun(x:Nat)=>[(3,.v (li x))]) (fun x=>[]) (fun x=>x≤s.size∧∀j:Nat,j<x→chOk s j=true) (fun x=>s.size - x) (0:Nat) ⟨Nat.zero_le _,fun j hj=>absurd hj (Nat.not_lt_zero j)⟩ ?_ ?_)
 · exact le_mkA (fun n=>n) []
 rintro k ⟨hk,hall⟩;simp only[upS,keepS,insS]
 try simp only[keepS,KN,Nat.reduceBEq,if_true,if_false,ins,Nat.reduceLT]
 refine HT_seq<|HT_seq<|HT_runA ?_;refine(HT_cond rfl (fun h8=>HT_skip ?_) (fun h8=>?_))
 · (try simp only[BN]at h8);have hlt:k<s.size:=by omega
   obtain⟨b,hb⟩:=get_bytes hlt;have hw:=wrap1 hlt (by omega);have hk1:k+1≤s.size:=hlt;have cw:=wordR_con b;clear hlt h8;refine HT_seq<|HT_block<|HT_seq<|(HT_runcA [⟨true,.v (lb (wordB b)),none⟩] ?_ ?_)
   · first|exact cw _|exact trivial|simpa[*]using cw _
   refine(HT_cs rfl (fun h10=>?_) fun h10=>?_)
   · (try simp only[BN]at h10);have hwb:wordB b=false:=by simpa using h10
     have hbad:chOk s k=false:=by
      unfold chOk;rw[hb];unfold wordB at hwb;simp only[Bool.or_eq_false_iff,Bool.and_eq_false_iff,decide_eq_false_iff_not]at hwb⊢;omega
     have hz:=nameB_bad hk1 hbad;refine HT_sA ?_;exact HT_rA
   (try simp only[BN]at h10);have hwb:wordB b=true:=by simpa using h10
   have hgood:chOk s k=true:=by
    by_cases hk0:k=0
    · subst hk0;unfold chOk;rw[hb0];simp only[Bool.or_eq_true,Bool.and_eq_true,decide_eq_true_eq];omega
    unfold chOk;rw[hb];unfold wordB at hwb;simp only[Bool.or_eq_true,Bool.and_eq_true,decide_eq_true_eq]at hwb⊢;omega
   refine HT_runA ?_;exact⟨k+1,⟨by omega,fun j hj=>(Nat.lt_succ_iff_lt_or_eq.1 hj).elim (hall j) (fun e=>e▸hgood)⟩,by omega,le_mkA (fun n=>n) []⟩
 (try simp only[BN]at h8);have hz:=nameB_good h0 h40 (fun j hj=>hall j (by omega));refine(HT_exit ?_);refine HT_sA ?_;exact HT_rA
theorem hasN_iff (l:List ByteArray) (s:ByteArray):Lt.hasN l s=true↔s∈l:=by
 simp only[Lt.hasN,List.any_eq_true,decide_eq_true_eq];constructor
 · rintro⟨x,hx,rfl⟩;exact hx
 intro h;exact⟨s,h,rfl⟩
theorem labR_con (n:Nat) (l:List Lb) (hl:l.length≤1000000) (d:Nat):Con Tryz.prog 142 true [lLb l,li n] (.v (li (labC n [] l))) none d:=by
 obtain⟨res,hres⟩:∃r,labC n [] l=r:=⟨_,rfl⟩;rw[hres];refine con_of_HTA Tryz.func142 ?_;simp only[Tryz.f142];refine HT_sA ?_;refine HT_seq<|HT_seq<|HT_runA ?_;refine HT_block<|(HT_loopU [0,1] (fun(x:Nat)=>[(5,.v (li x))]) (fun x=>[]) (fun x=>x≤l.length∧labC n ((l.take x).map Lb.name) (l.drop x)=res) (fun x=>l.length - x) (0:Nat) ⟨Nat.zero_le _,hres⟩ ?_ ?_)
 · exact le_mkA (fun n=>n) []
 rintro k ⟨hk,hJ⟩;simp only[upS,keepS,insS]
 try simp only[keepS,KN,Nat.reduceBEq,if_true,if_false,ins,Nat.reduceLT]
 clear hres;refine HT_seq<|HT_seq<|HT_runA ?_;refine(HT_cond rfl (fun h4=>HT_skip ?_) (fun h4=>?_))
 · (try simp only[BN]at h4);have hlt:k<l.length:=by omega
   obtain⟨x,he,hd⟩:=at_lt hlt;have hw1:=wrap1 hlt (by omega);have hk1:k+1≤l.length:=hlt;have htk:(l.take (k+1)).map Lb.name=(l.take k).map Lb.name++[x.name]:=by rw[List.take_add_one,he];simp
   rw[hd]at hJ;simp only[labC]at hJ;have he':=get_encL he;obtain⟨nm,lv⟩:=x;have cn:=nameR19_con nm;simp only[Lb.enc]at he' hJ cn htk;clear h4 hd hlt;refine HT_seq<|HT_block<|HT_seq<|HT_seq<|(HT_runcA [⟨true,.v (lb (nameB nm)),none⟩] ?_ ?_)
   · first|exact cn _|exact trivial|simpa[*]using cn _
   refine(HT_cs rfl (fun h6=>?_) fun h6=>?_)
   · (try simp only[BN]at h6);have hnb:nameB nm=false:=by simpa using h6
     rw[if_pos hnb]at hJ;subst hJ;refine HT_sA ?_;exact HT_rA
   (try simp only[BN]at h6);have hnb:nameB nm=true:=by simpa using h6
   rw[if_neg (by rw[hnb];decide)]at hJ;refine HT_seq<|HT_seq<|HT_runA ?_;refine HT_block<|(HT_loopU [0,1,5] (fun(y:Nat)=>[(6,.v (li y))]) (fun y=>[]) (fun y=>y≤k∧∀(j:Nat) (z:Lb),j<y→l[j]? =some z→z.name≠nm) (fun y=>k - y) (0:Nat) ⟨Nat.zero_le _,fun j z hj=>absurd hj (Nat.not_lt_zero _)⟩ ?_ ?_)
   · exact le_mkA (fun n=>n) []
   rintro q ⟨hq,hall⟩;simp only[upS,keepS,insS]
   try simp only[keepS,KN,Nat.reduceBEq,if_true,if_false,ins,Nat.reduceLT]
   refine HT_seq<|HT_seq<|HT_runA ?_;refine(HT_cond rfl (fun h12=>HT_skip ?_) (fun h12=>?_))
   · (try simp only[BN]at h12);have hqk:q<k:=by omega
     obtain⟨z,hz,hzd⟩:=at_lt (show q<l.length by omega);have hwq:=wrap1 (show q<l.length by omega) (by omega);have hz':=get_encL hz;obtain⟨zn,zl⟩:=z;simp only[Lb.enc]at hz';clear hzd h12;refine HT_seq<|HT_block<|HT_seq<|(HT_drun (by kernel_rfl) (by kernel_rfl) (by rfl) (by simp[*];rfl) ?_);refine(HT_cs rfl (fun h14=>?_) fun h14=>?_)
     · (try simp only[BN]at h14);have hzn:zn=nm:=by simpa using h14
       rw[if_pos ((hasN_iff _ _).2 (List.mem_map.2 ⟨⟨zn,zl⟩,List.mem_of_getElem? (by rw[List.getElem?_take_of_lt hqk];exact hz),hzn⟩))]at hJ;subst hJ;refine HT_sA ?_;exact HT_rA
     (try simp only[BN]at h14);have hzn:¬zn=nm:=by simpa using h14
     have hall2:∀(j:Nat) (z:Lb),j<q+1→l[j]? =some z→z.name≠nm:=by
      intro j z hj hz2;rcases Nat.lt_succ_iff_lt_or_eq.1 hj with h|rfl
      · exact hall j z h hz2
      rw[hz]at hz2;cases hz2;exact hzn
     refine HT_runA ?_;exact⟨q+1,⟨by omega,hall2⟩,by omega,le_mkA (fun n=>n) []⟩
   (try simp only[BN]at h12);have hqk:q=k:=by omega
   subst hqk
   have hno:Lt.hasN ((l.take q).map Lb.name) nm=false:=by
    rw[Bool.eq_false_iff];intro h;obtain⟨z,hz,hzn⟩:=List.mem_map.1 ((hasN_iff _ _).1 h);obtain⟨j,hj⟩:=List.mem_iff_getElem?.1 hz
    have hjq:j<q:=by
     have:=(List.getElem?_eq_some_iff.1 hj).1;rw[List.length_take]at this;omega
    rw[List.getElem?_take_of_lt hjq]at hj;exact hall j z hjq hj hzn
   rw[if_neg (by rw[hno];decide)]at hJ;refine(HT_exit ?_);refine HT_sA ?_;refine(HT_cs rfl (fun h20=>?_) fun h20=>?_)
   · (try simp only[BN]at h20);rw[if_pos (by simpa using h20)]at hJ;subst hJ;refine HT_sA ?_;exact HT_rA
   (try simp only[BN]at h20);rw[if_neg (by simpa using h20)]at hJ;refine HT_runA ?_;exact⟨q+1,⟨hk1,by rw[htk];exact hJ⟩,by omega,le_mkA (fun n=>n) []⟩
 (try simp only[BN]at h4);have hkl:k=l.length:=by omega
 rw[hkl,List.drop_length]at hJ;simp only[labC]at hJ;subst hJ;refine(HT_exit ?_);refine HT_sA ?_;exact HT_rA
theorem refnewP_con (names:List ByteArray) (order:List (Int×Int)) (hn:names.length≤14) (hlen:order.length≤60) (d:Nat):
  Con Tryz.prog 43 false [nsP names,orP order] (.tup [Lt.refT names order,li (Lt.newC names order)]) none d:=Lt.refnew_con names hn order hlen d
def smQ (p:Po):Prop:=p.order.length≤60∧p.inputs.length≤1000000∧p.hatches.length≤1000000∧p.levels.length≤14
theorem smQ_smP {p:Po} (h:smQ p):smP p:=⟨Nat.le_trans h.1 (by omega),h.2.1,h.2.2.1,Nat.le_trans h.2.2.2 (by omega)⟩
theorem refT_agg (names:List ByteArray) (order:List (Int×Int)):(Lt.newC names order=0∧∃a b,Lt.refT names order=.agg [.c (.sl 1 a),.c (.sl 1 b)])∨(Lt.newC names order≠0∧Lt.refT names order=.agg [.c (.lit nilS),.c (.lit nilS)]):=by
 unfold Lt.refT;by_cases h:Lt.newC names order=0
 · exact .inl ⟨h,_,_,by rw[if_pos h];rfl⟩
 exact .inr ⟨h,by rw[if_neg h];rfl⟩
theorem polR_con (p:Po) (hs:smQ p) (d:Nat):Con Tryz.prog 96 true [aPo p] (.v (li (polC p))) none d:=by
 obtain⟨hs1,hs2,hs3,hs4⟩:=hs;have cn:=refnewP_con p.levels p.order hs4 hs1;have c1:=labR_con p.levels.length p.inputs hs2;have c2:=labR_con p.levels.length p.hatches hs3;obtain⟨res,hres⟩:∃r,polC p=r:=⟨_,rfl⟩;rw[hres];unfold polC at hres;have hN:=refT_agg p.levels p.order;obtain⟨NT,hNT⟩:∃x,Lt.refT p.levels p.order=x:=⟨_,rfl⟩;obtain⟨C,hC⟩:∃x,Lt.newC p.levels p.order=x:=⟨_,rfl⟩;obtain⟨A,hA⟩:∃x,labC p.levels.length [] p.inputs=x:=⟨_,rfl⟩;obtain⟨B,hB⟩:∃x,labC p.levels.length [] p.hatches=x:=⟨_,rfl⟩;rw[hNT,hC]at cn hN;rw[hA]at c1;rw[hB]at c2;rw[hC,hA,hB]at hres;obtain⟨ls,os,is,hs,ob,tm⟩:=p;simp only at hres cn c1 c2;have hln:(encNs ls).length=ls.length:=by simp[encNs]
 clear hNT hC hA hB;refine con_of_HTA Tryz.func96 ?_;simp only[Tryz.f96];simp only[aPo,Po.enc,List.map_cons,List.map_nil];refine HT_sA ?_;rcases hN with⟨hC0,N1,N2,hN⟩|⟨hC0,hN⟩
 · subst hN;subst hC0;rw[if_neg (by simp)]at hres;refine HT_scA [⟨false,.tup [.agg [.c (.sl 1 N1),.c (.sl 1 N2)],li 0],none⟩] ?_ ?_
   · first|exact cn _|exact trivial|simpa[*]using cn _
   refine HT_seq<|HT_seq<|HT_runA ?_;refine(HT_cs rfl (fun h3=>?_) fun h3=>?_)
   · exact absurd h3 (by simp)
   (try simp only[BN]at h3);refine HT_seq<|HT_seq<|HT_runA ?_;refine(HT_cs rfl (fun h7=>?_) fun h7=>?_)
   · (try simp only[BN]at h7);rw[if_pos (by omega)]at hres;subst hres;refine HT_sA ?_;exact HT_rA
   (try simp only[BN]at h7);rw[if_neg (by omega)]at hres;refine HT_scA [⟨true,.v (li A),none⟩] ?_ ?_
   · first|exact c1 _|exact trivial|simpa[*]using c1 _
   refine HT_seq<|HT_seq<|HT_runA ?_;refine(HT_cs rfl (fun h12=>?_) fun h12=>?_)
   · (try simp only[BN]at h12);rw[if_pos (by simpa using h12)]at hres;subst hres;refine HT_sA ?_;exact HT_rA
   (try simp only[BN]at h12);rw[if_neg (by simpa using h12)]at hres;refine HT_scA [⟨true,.v (li B),none⟩] ?_ ?_
   · first|exact c2 _|exact trivial|simpa[*]using c2 _
   refine HT_seq<|HT_seq<|HT_runA ?_;refine(HT_cs rfl (fun h17=>?_) fun h17=>?_)
   · (try simp only[BN]at h17);rw[if_pos (by simpa using h17)]at hres;subst hres;refine HT_sA ?_;exact HT_rA
   (try simp only[BN]at h17);rw[if_neg (by simpa using h17)]at hres;refine HT_seq<|HT_seq<|HT_runA ?_;refine(HT_cs rfl (fun h21=>?_) fun h21=>?_)
   · (try simp only[BN]at h21);rw[if_pos (by simpa[hln]using h21)]at hres;subst hres;refine HT_sA ?_;exact HT_rA
   (try simp only[BN]at h21);rw[if_neg (by simpa[hln]using h21)]at hres;subst hres;refine HT_sA ?_;exact HT_rA
 subst hN;rw[if_pos hC0]at hres;subst hres;refine HT_scA [⟨false,.tup [.agg [.c (.lit nilS),.c (.lit nilS)],li C],none⟩] ?_ ?_
 · first|exact cn _|exact trivial|simpa[*]using cn _
 refine HT_seq<|HT_seq<|HT_runA ?_;refine(HT_cs rfl (fun h3=>?_) fun h3=>?_)
 · (try simp only[BN]at h3);refine HT_sA ?_;exact HT_rA
 exact absurd h3 (by simpa using hC0)
end Go.Proofs.YtfjidddhehckoaaGreat
