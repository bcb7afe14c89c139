/- HmZD: part of an evaluator of Go code over abstract states, proved sound over the model; used by the proof of the claimed statement. Conditions: none. -/
import Derived.Test.YtdajceakaakdoaaGreatHmZB
import Derived.Test.YtdajceakaakdoaaGreatHmZC
set_option maxRecDepth 100000
set_option maxHeartbeats 2000000
set_option linter.unusedSimpArgs false
set_option linter.unusedVariables false
set_option linter.unusedSimpArgs false
set_option linter.unusedVariables false
namespace Go.Hl
open Go Go.RowKit
def lastB (ops:Array Oper):Bool:=(List.range (ops.size - 1)).all fun j=>X3O ops ops.size (ops.size - 1) j
section
variable {P:Program} {ops:Array Oper}
theorem any_last {hs:List (Nat×Nat)} {w0:World} {B:Nat→Prop} {π:Nat→Option Value} {t:HS} {p:Nat} {o:Oper} {f:FuncId} {d:Nat} {objs objs':List (Nat×Ob)} {args:List TV} {ρ σ:Nat→Nat} {r:RV} {Q:Exit→Act→World→Prop}
  (hd:X2p hs ops=true) (hp:p+1=ops.size) (hlast:∀j,j<p→X3O ops ops.size p j=true) (ho:ops[p]? =some o) (hg:gOfC t o=some (f,args.map (TV.ren ρ []),d)) (hh:HandS ρ σ objs objs' t) (hcon:X4N P f objs args r objs') (hout:X3r (objs'.map (·.1)) r=true):
  ∀(fuel:Nat) (listed:Array Bool) (s:HS) (F:Nat→Prop) (γ:Nat→Value) (a:Act) (w:World),
  listed.size=ops.size→(∀i o,ops[i]? =some o→listed.getD i false=true→∀e∈o.after,Region.binds .any e=true→listed.getD e.on false=true)→p∈Xj ops listed→
  (Xj ops listed).length≤fuel→(∀q∈Qv ops (Xj ops listed),QX s q)→Rel w0 B π F γ s a w→
  X1i P ops hs (Qv ops ((Xj ops listed).filter fun j=>decide (j<p))) s (fun u=>u=t)→
  (∀F' γ' a' w',(∀b,F b→F' b)→(∀b,F' b→F b∨¬B b)→Rel w0 B π F' γ' (({t with objs:=Qf σ objs' (QP (objs.map fun p=>ρ p.1) t.objs)}:HS).put (some d) (r.ren σ [])) a' w'→Q .normal a' w')→wpAny P .any ops Q fuel listed a w:=by
 intro fuel
 induction fuel with
 | zero=>
   intro listed s F γ a w hsz hdc hpr hlen hn hr hw hK;have h0:Xj ops listed=[]:=List.eq_nil_of_length_eq_zero (by omega);rw[h0]at hpr;cases hpr
 | succ fuel ih=>
   intro listed s F γ a w hsz hdc hpr hlen hn hr hw hK
   have unl:∀j,j∈Xj ops listed→¬listed.getD j false=true:=by
    intro j hj hjl;have hjun:=(XM.1 hj).2;have hjs:j<listed.size:=by rw[hsz];exact(XM.1 hj).1
    rw[Array.getD_eq_getD_getElem?,Array.getElem?_eq_getElem hjs]at hjl hjun;simp only[Option.getD_some]at hjl hjun;rw[hjl]at hjun;cases hjun
   have hmono:∀i,i<ops.size→∀x,listed.getD x false=true→(listed.setIfInBounds i true).getD x false=true:=by
    intro i hlt x hx';by_cases ex:x=i
    · subst ex;simp[hsz,hlt]
    rw[Array.getD_eq_getD_getElem?,Array.getElem?_setIfInBounds_ne (Ne.symm ex),←Array.getD_eq_getD_getElem?];exact hx'
   refine⟨fun h0=>?_,fun i hi=>?_⟩
   · exfalso;cases hres:Xj ops listed with
     |nil=>rw[hres]at hpr;cases hpr
     | cons i l=>
       have hi:i∈Xj ops listed:=by rw[hres];simp
       obtain⟨hlt,hun⟩:=XM.1 hi
       have:i∈Region.ready .any ops listed:=by
        refine Qw.2 ⟨hlt,hun,ops[i],by simp[hlt],fun e he hb=>?_⟩;have hon:=(ZF hd (i:=i) (o:=ops[i]) (by simp[hlt])).1 e he hb
        have hnot:e.on∉Xj ops listed:=by
         intro hm;have hs:=Qd (ops:=ops) listed;rw[hres]at hs hm;rcases List.mem_cons.1 hm with e'|hm
         · omega
         have:=(List.pairwise_cons.1 hs).1 _ hm;omega
        rw[XM]at hnot;have hel:e.on<listed.size:=by omega
        rw[Array.getD_eq_getD_getElem?,Array.getElem?_eq_getElem hel]at hnot⊢;simp only[Option.getD_some,not_and,Bool.not_eq_false]at hnot⊢;exact hnot (by omega)
       rw[h0]at this;cases this
   obtain⟨hlt,hun,oi,hoi,hpre⟩:=Qw.1 hi;have hir:i∈Xj ops listed:=XM.2 ⟨hlt,hun⟩;have hset:=X33 hsz hir;by_cases hip:i=p
   · -- the call: nothing is left before it
     subst hip;rw[ho]at hoi;cases hoi
     have hl0:(Xj ops listed).filter (fun j=>decide (j<i))=[]:=by
      rw[List.filter_eq_nil_iff];intro j hj hji;have hji':j<i:=by simpa using hji
      exact unl j hj (X0b hdc ops.size i j o ho hpre (hlast j hji'))
     rw[hl0]at hw;have hst:s=t:=hw;subst hst;refine X78 ho hr hg hh hcon hout fun F' γ' a' w' h3 h4 hr2=>?_
     have hre:Xj ops (listed.setIfInBounds i true)=[]:=by
      rw[hset,List.filter_eq_nil_iff];intro j hj hji;have hji':j≠i:=by simpa using hji
      have hjs:=(XM.1 hj).1;have:j∈(Xj ops listed).filter (fun j=>decide (j<i)):=List.mem_filter.2 ⟨hj,by simp only[decide_eq_true_eq];omega⟩;rw[hl0]at this;cases this
     have hrd:Region.ready .any ops (listed.setIfInBounds i true)=[]:=by
      cases h:Region.ready .any ops (listed.setIfInBounds i true)with
      |nil=>rfl
      | cons k l=>
        exfalso;have hk:k∈Region.ready .any ops (listed.setIfInBounds i true):=by rw[h];simp
        obtain⟨g1,g2,_⟩:=Qw.1 hk;have:k∈Xj ops (listed.setIfInBounds i true):=XM.2 ⟨g1,g2⟩;rw[hre]at this;cases this
     have hq:=hK F' γ' a' w' h3 h4 hr2;cases fuel with
     |zero=>exact⟨hrd,hq⟩
     |succ fuel=>exact⟨fun _=>hq,fun k hk=>by rw[hrd]at hk;cases hk⟩
   have hip':i<p:=by omega
   have hi1:i∈(Xj ops listed).filter (fun j=>decide (j<p)):=List.mem_filter.2 ⟨hir,by simpa using hip'⟩
   have hx:∀k∈Xj ops listed,k<i→∀q,ops[k]? =some q→X2M hs ops q oi=true:=by
    intro k hk hki q hq;refine((ZF hd hoi).2 k q hki hq).1.resolve_left fun hpd=>?_;exact unl k hk (X0b hdc ops.size i k oi hoi hpre hpd)
   have hcl:∀k q,k≠i→ops[k]? =some q→QM oi q=false∧QM q oi=false:=by
    intro k q hki hq;rcases Nat.lt_or_gt_of_ne hki with h|h
    · have:=((ZF hd hoi).2 k q h hq).2;exact⟨this.2,this.1⟩
    exact((ZF hd hq).2 i oi h hoi).2
   have swapf:(Xj ops (listed.setIfInBounds i true)).filter (fun j=>decide (j<p))=((Xj ops listed).filter (fun j=>decide (j<p))).filter (fun j=>decide (j≠i)):=by
    rw[hset,List.filter_filter,List.filter_filter];exact List.filter_congr fun j _=>Bool.and_comm _ _
   obtain⟨x,y,e1,e2,hxl,_⟩:=X1u (List.Pairwise.filter _ (Qd (ops:=ops) listed)) hi1;have e3:(Xj ops (listed.setIfInBounds i true)).filter (fun j=>decide (j<p))=x++y:=by rw[swapf,e2]
   rw[e1,QC,X2B hoi]at hw
   have hin:∀k∈x++y,k∈Xj ops listed∧k≠i:=by
    intro k hk;rw[←e2]at hk;have:=List.mem_filter.1 hk;exact⟨(List.mem_filter.1 this.1).1,by simpa using this.2⟩
   have clq:∀q∈Qv ops x++Qv ops y,QM oi q=false∧QM q oi=false:=by
    intro q hq;rw[←QC]at hq;obtain⟨k,hk,hkq⟩:=Wo.1 hq;exact hcl k q (hin k hk).2 hkq
   have hpw:(Qv ops x++Qv ops y).Pairwise (fun a b=>QM a b=false):=by
    rw[←QC,←e3];exact Wb hd _ (List.Pairwise.filter _ (Qd _))
   obtain⟨s',h1,_,h2,_⟩:=pull (P:=P) (ops:=ops) (hs:=hs) (oi:=oi) (l2:=Qv ops y) (Qv ops x) s (fun q hq=>by
     obtain⟨k,hk,hkq⟩:=Wo.1 hq;exact hx k (hin k (by simp[hk])).1 (hxl k hk) q hkq) (fun q hq=>clq q (by simp[hq])) (fun q hq=>(clq q (by simp[hq])).1) hpw (hn oi (Wo.2 ⟨i,hir,hoi⟩)) (fun q hq=>by
     rw[←QC]at hq;obtain⟨k,hk,hkq⟩:=Wo.1 hq
     exact hn q (Wo.2 ⟨k,(hin k hk).1,hkq⟩)) hw
   refine X4D hoi hr h1 fun F' γ' a' w' h3 h4 hr2=>?_;refine ih (listed.setIfInBounds i true) s' F' γ' a' w' (by simpa using hsz) ?_ ?_ ?_ ?_ hr2 ?_ fun F3 γ3 a3 w3 h5 h6 hr3=>?_
   · intro k q hq hk e' hee hb;by_cases ek:k=i
     · subst ek;rw[hoi]at hq;cases hq;exact hmono k hlt _ (hpre e' hee hb)
     rw[Array.getD_eq_getD_getElem?,Array.getElem?_setIfInBounds_ne (Ne.symm ek),←Array.getD_eq_getD_getElem?]at hk;exact hmono i hlt _ (hdc k q hq hk e' hee hb)
   · rw[hset];exact List.mem_filter.2 ⟨hpr,by simp only[ne_eq,decide_eq_true_eq];omega⟩
   · obtain⟨x2,y2,g1,g2,_,_⟩:=X1u (Qd (ops:=ops) listed) hir;rw[hset,g2];rw[g1]at hlen;simp only[List.length_append,List.length_cons]at hlen⊢;omega
   · intro q hq;obtain⟨k,hk,hkq⟩:=Wo.1 hq;rw[hset]at hk;have hk':=List.mem_filter.1 hk;exact Wd h1 (hcl k q (by simpa using hk'.2) hkq).1 (hn q (Wo.2 ⟨k,hk'.1,hkq⟩))
   · rw[e3,QC];exact h2
   exact hK F3 γ3 a3 w3 (fun b hb=>h5 b (h3 b hb)) (fun b hb=>(h6 b hb).elim (h4 b) .inr) hr3
theorem Xa4 (p:Nat) (hp:p≤ops.size):Qv ops ((List.range ops.size).filter fun j=>decide (j<p))=ops.toList.take p:=by
 have hr:∀m,(List.range m).filter (fun j=>decide (j<p))=(List.range m).take p:=by
  intro m
  induction m with
  |zero=>simp
  | succ m ih=>
    rw[List.range_succ,List.filter_append,ih,List.take_append];simp only[List.length_range];congr 1;by_cases hmp:m<p
    · rw[List.filter_cons_of_pos (by simpa using hmp)];simp only[List.filter_nil];rw[List.take_of_length_le (by simp;omega)]
    rw[List.filter_cons_of_neg (by simpa using hmp)];simp only[List.filter_nil];rw[show p - m=0 by omega,List.take_zero]
 rw[hr]
 have hlen:∀k,k≤ops.size→Qv ops ((List.range ops.size).take k)=ops.toList.take k:=by
  intro k
  induction k with
  |zero=>intro _;simp[Qv]
  | succ k ih=>
    intro hk;have hk':k<ops.size:=hk;rw[List.take_add_one,QC,ih (by omega),List.take_add_one];simp[Qv,hk']
 exact hlen p hp
theorem X8Z {id:Nat} (hs:List (Nat×Nat)) (p:Nat) (cs:List CR) {s t:HS} {p1:Prop} {o:Oper} {f:FuncId} {d:Nat} {objs objs':List (Nat×Ob)} {args:List TV} (ρ σ:Nat→Nat) {r:RV} {Q:Exit→HS→Prop} (hm:P.follows .mixedOrders=true) (hd:X2p hs ops=true) (hp:p+1=ops.size) (hl:lastB ops=true)
  (hc:X0k ops.toList s=true) (h1:evcH P ops hs (ops.toList.take p) s cs=some (t,p1)) (hp1:p1) (ho:ops[p]? =some o) (hg:gOfC t o=some (f,args.map (TV.ren ρ []),d)) (hh:HandS ρ σ objs objs' t) (hcon:X4N P f objs args r objs') (hout:X3r (objs'.map (·.1)) r=true)
  (hq:Q .normal (({t with objs:=Qf σ objs' (QP (objs.map fun p=>ρ p.1) t.objs)}:HS).put (some d) (r.ren σ []))):HT P (.region id ops true) s Q:=by
 intro w0 B π F γ a w hr
 have hrest:Xj ops (Array.replicate ops.size false)=List.range ops.size:=by
  unfold Xj;refine List.filter_eq_self.2 fun i hi=>?_;have:i<ops.size:=by simpa using hi
  simp[this]
 have hopers:Qv ops (List.range ops.size)=ops.toList:=by
  unfold Qv;have:=X43 ops.toList;simpa using this
 have hok:∀o∈ops.toList,QX s o:=by
  intro o ho hn d hdd;unfold X0k at hc;rw[List.all_eq_true]at hc;have:=hc o ho;simpa[hn,hdd]using this
 have hpw:ops.toList.Pairwise (fun a b=>QM a b=false):=by
  rw[←hopers];exact Wb hd _ List.pairwise_lt_range
 have e1:=Xa4 (ops:=ops) p (by omega)
 have hlast:∀j,j<p→X3O ops ops.size p j=true:=by
  intro j hj;unfold lastB at hl;rw[List.all_eq_true]at hl;have e:ops.size - 1=p:=by omega
  rw[e]at hl;exact hl j (by simpa using hj)
 have hruns:X1i P ops hs (ops.toList.take p) s (fun u=>u=t):=
  X1d _ s t cs p1 (List.Pairwise.sublist (List.take_sublist _ _) hpw) (fun o ho=>hok o (List.mem_of_mem_take ho)) h1 hp1 rfl
 refine wp_region_any hm (any_last (P:=P) (ops:=ops) (hs:=hs) (w0:=w0) (B:=B) (π:=π) (p:=p) hd hp hlast ho hg hh hcon hout ops.size (Array.replicate ops.size false) s F γ a {w with drawn:=w.drawn+1} (by simp) ?_ ?_ ?_ ?_ ?_ ?_ fun F' γ' a' w' h1 h2 h3=>⟨_,F',γ',hq,h1,h2,h3⟩)
 · intro i o ho hl;have hi:i<ops.size:=(Array.getElem?_eq_some_iff.1 ho).1;simp[hi]at hl
 · rw[hrest];simp;omega
 · rw[hrest];simp
 · rw[hrest,hopers];exact hok
 · exact⟨hr.heap.drew,hr.defers,hr.nt,fun k r hk=>(hr.regs k r hk).mono (w:=w) (w':={w with drawn:=w.drawn+1}) (fun _ h=>h) fun _ _=>rfl⟩
 rw[hrest,e1];exact hruns
end
end Go.Hl
