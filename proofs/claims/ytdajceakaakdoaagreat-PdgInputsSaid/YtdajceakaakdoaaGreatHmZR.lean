/- HmZR: part of an evaluator of Go code over abstract states, proved sound over the model; used by the proof of the claimed statement. Conditions: none. -/
import Derived.Test.YtdajceakaakdoaaGreatHmZQ
set_option linter.unusedSimpArgs false
set_option linter.unusedVariables false
namespace Go.Hl
open Go Go.RowKit
section
variable {P:Program} {ops:Array Oper}
theorem any_ind {TR:List Nat→Act→World→Prop} {Q:Exit→Act→World→Prop} (hfw:X4F ops=true)
  (hstep:∀(R:List Nat) (i:Nat) (o:Oper),ops[i]? =some o→i∈R→(∀e∈o.after.toList,Region.binds .any e=true→e.on∉R)→∀a w,TR R a w→∀Kc,(∀a' w',TR (Qj R i) a' w'→Kc a' w')→wpOp P ops Q i Kc a w):
  ∀(fuel:Nat) (listed:Array Bool) (a:Act) (w:World),listed.size=ops.size→(Xj ops listed).length≤fuel→TR (Xj ops listed) a w→
  (∀a' w',TR [] a' w'→Q .normal a' w')→wpAny P .any ops Q fuel listed a w:=by
 have hnr:∀listed:Array Bool,Xj ops listed=[]→Region.ready .any ops listed=[]:=by
  intro listed h0;refine List.eq_nil_iff_forall_not_mem.2 fun i hi=>?_;obtain⟨h1,h2,_⟩:=Qw.1 hi;have:=XM.2 ⟨h1,h2⟩;rw[h0]at this;cases this
 have hrn:∀listed:Array Bool,listed.size=ops.size→Region.ready .any ops listed=[]→Xj ops listed=[]:=by
  intro listed hsz h0;cases hres:Xj ops listed with
  |nil=>rfl
  | cons i l=>
    have hi:i∈Xj ops listed:=by rw[hres];simp
    obtain⟨hlt,hun⟩:=XM.1 hi
    have:i∈Region.ready .any ops listed:=by
     refine Qw.2 ⟨hlt,hun,ops[i],by simp[hlt],fun e he hb=>?_⟩
     have hon:e.on<i:=by
      unfold X4F at hfw;rw[List.all_eq_true]at hfw;have h1:=hfw i (by simpa using hlt);rw[Array.getElem?_eq_getElem hlt]at h1;simp only[List.all_eq_true]at h1;have h2:=h1 e (by simpa using he);simp only[hb,Bool.not_true,Bool.false_or,decide_eq_true_eq]at h2;exact h2
     have hnot:e.on∉Xj ops listed:=by
      intro hm;have hs:=Qd (ops:=ops) listed;rw[hres]at hs hm;rcases List.mem_cons.1 hm with e'|hm
      · omega
      have:=(List.pairwise_cons.1 hs).1 _ hm;omega
     rw[XM]at hnot;have hel:e.on<listed.size:=by omega
     rw[Array.getD_eq_getD_getElem?,Array.getElem?_eq_getElem hel]at hnot⊢;simp only[Option.getD_some,not_and,Bool.not_eq_false]at hnot⊢;exact hnot (by omega)
    rw[h0]at this;cases this
 intro fuel
 induction fuel with
 | zero=>
   intro listed a w hsz hlen ht hK;have h0:Xj ops listed=[]:=List.eq_nil_of_length_eq_zero (by omega);rw[h0]at ht;exact⟨hnr listed h0,hK a w ht⟩
 | succ fuel ih=>
   intro listed a w hsz hlen ht hK;refine⟨fun h0=>?_,fun i hi=>?_⟩
   · rw[hrn listed hsz h0]at ht;exact hK a w ht
   obtain⟨hlt,hun,oi,hoi,hpre⟩:=Qw.1 hi;have hir:i∈Xj ops listed:=XM.2 ⟨hlt,hun⟩;have hset:=X33 hsz hir;refine hstep _ i oi hoi hir (fun e he hb hm=>?_) a w ht _ fun a' w' hw=>?_
   · have h1:=hpre e (by simpa using he) hb;have h2:=XM.1 hm;have hel:e.on<listed.size:=by omega
     rw[Array.getD_eq_getD_getElem?,Array.getElem?_eq_getElem hel]at h1;have h3:=h2.2;rw[Array.getD_eq_getD_getElem?,Array.getElem?_eq_getElem hel]at h3;simp only[Option.getD_some]at h1 h3;rw[h1]at h3;cases h3
   refine ih (listed.setIfInBounds i true) a' w' (by simpa using hsz) ?_ (by rw[hset];exact hw) hK;obtain⟨x2,y2,g1,g2,_,_⟩:=X1u (Qd (ops:=ops) listed) hir;rw[hset,g2];rw[g1]at hlen;simp only[List.length_append,List.length_cons]at hlen⊢;omega
theorem wp_ind {id:Nat} {TR:List Nat→Act→World→Prop} {Q:Exit→Act→World→Prop} {a:Act} {w:World} (hm:P.follows .mixedOrders=true) (hfw:X4F ops=true) (h0:TR (List.range ops.size) a {w with drawn:=w.drawn+1})
  (hstep:∀(R:List Nat) (i:Nat) (o:Oper),ops[i]? =some o→i∈R→(∀e∈o.after.toList,Region.binds .any e=true→e.on∉R)→∀a w,TR R a w→∀Kc,(∀a' w',TR (Qj R i) a' w'→Kc a' w')→wpOp P ops Q i Kc a w)
  (hq:∀a' w',TR [] a' w'→Q .normal a' w'):(Code.region id ops true).wp P Q a w:=by
 have hrest:Xj ops (Array.replicate ops.size false)=List.range ops.size:=by
  unfold Xj;refine List.filter_eq_self.2 fun i hi=>?_;have:i<ops.size:=by simpa using hi
  simp[this]
 refine wp_region_any hm (any_ind (P:=P) (ops:=ops) (TR:=TR) hfw hstep ops.size (Array.replicate ops.size false) a {w with drawn:=w.drawn+1} (by simp) (by rw[hrest];simp) (by rw[hrest];exact h0) hq)
end
end Go.Hl
