/- HmZI: part of an evaluator of Go code over abstract states, proved sound over the model; used by the proof of the claimed statement. Conditions: none. -/
import Derived.Test.YtdajceakaakdoaaGreatHmZG
set_option maxRecDepth 100000
set_option linter.unusedSimpArgs false
set_option linter.unusedVariables false
set_option linter.unusedSimpArgs false
set_option linter.unusedVariables false
namespace Go.Hl
open Go Go.RowKit
def XX (P:Program) (ops:Array Oper) (i:Nat) (s:HS) (M:HS→Prop):Prop:=
 ∀(w0:World) (B:Nat→Prop) (π:Nat→Option Value) (F:Nat→Prop) (γ:Nat→Value) (a:Act) (w:World) (Kc:Act→World→Prop) (Q:Exit→Act→World→Prop),Rel w0 B π F γ s a w→
  (∀s' F' γ' a' w',M s'→(∀b,F b→F' b)→(∀b,F' b→F b∨¬B b)→Rel w0 B π F' γ' s' a' w'→Kc a' w')→wpOp P ops Q i Kc a w
section
variable {P:Program} {ops:Array Oper}
theorem XX.ev {i:Nat} {o:Oper} {s s1:HS} {M:HS→Prop} {p:Prop} (cs:List CR) (ho:ops[i]? =some o) (h:evc P ops [o] s cs=some (s1,p)) (hp:p) (hm:M s1):XX P ops i s M:=by
 intro w0 B π F γ a w Kc Q hr hK;refine X2s ho hr (QK (K:=M) [o] s s1 cs p h hp hm) fun s' F' γ' a' w' hw h1 h2 hr2=>?_;exact hK s' F' γ' a' w' hw h1 h2 hr2
theorem XX.mono {i:Nat} {s:HS} {M M':HS→Prop} (h:XX P ops i s M) (hm:∀u,M u→M' u):XX P ops i s M':=
 fun w0 B π F γ a w Kc Q hr hK=>h w0 B π F γ a w Kc Q hr fun s' F' γ' a' w' hw=>hK s' F' γ' a' w' (hm s' hw)
theorem XX.le {i:Nat} {s:HS} {M M':HS→Prop} (h:XX P ops i s M) (hm:∀u,M u→∃t,le u t∧M' t):XX P ops i s M':=by
 intro w0 B π F γ a w Kc Q hr hK;refine h w0 B π F γ a w Kc Q hr fun s' F' γ' a' w' hw h1 h2 hr2=>?_;obtain⟨t,hle,ht⟩:=hm s' hw;obtain⟨F2,γ2,h3,h4,hr3⟩:=hle w0 B π F' γ' a' w' hr2;exact hK t F2 γ2 a' w' ht (fun b hb=>h3 b (h1 b hb)) (fun b hb=>(h4 b hb).elim (h2 b) .inr) hr3
theorem XX.call {i:Nat} {o:Oper} {s:HS} {M:HS→Prop} {X:Type} {f:FuncId} {d:Nat} {pv:Option Value} {objs:List (Nat×Ob)} {args:List TV} (ρ σ:Nat→Nat) {Φ:X→Prop} {r:X→RV} {objs':X→List (Nat×Ob)} (ho:ops[i]? =some o)
  (hg:gOfN s o=some (f,args.map (TV.ren ρ []),d)) (hp:pvOK pv s ρ) (hd0:HandS ρ σ objs [] s) (hd:∀y,Φ y→HandS ρ σ objs (objs' y) s) (hcon:X1g P f pv objs args Φ r objs') (hout:∀y,Φ y→X3r ((objs' y).map (·.1)) (r y)=true)
  (hm:∀y,Φ y→M (({s with objs:=Qf σ (objs' y) (QP (objs.map fun p=>ρ p.1) s.objs)}:HS).put (some d) ((r y).ren σ []))):XX P ops i s M:=by
 intro w0 B π F γ a w Kc Q hr hK;exact Xao ho hr hg hp hd0 hd hcon hout fun y hy F' γ' a' w' h1 h2 hr2=>hK _ F' γ' a' w' (hm y hy) h1 h2 hr2
def Zm (ops:Array Oper) (R:List Nat):List Nat:=
 R.filter fun i=>match ops[i]? with
  |some o=>o.after.toList.all fun e=> !Region.binds .any e|| !R.contains e.on
  |none=>false
def X4F (ops:Array Oper):Bool:=
 (List.range ops.size).all fun i=>match ops[i]? with
  |some o=>o.after.toList.all fun e=> !Region.binds .any e||decide (e.on<i)
  |none=>false
def Qj (R:List Nat) (i:Nat):List Nat:=R.filter fun j=>decide (j≠i)
def clB (ops:Array Oper) (cl:List (List Nat)):Bool:=
 cl.contains (List.range ops.size)&&cl.all fun R=>(Zm ops R).all fun i=>cl.contains (Qj R i)
theorem Xcf {w0:World} {B:Nat→Prop} {π:Nat→Option Value} {TR:List Nat→HS→Prop} {cl:List (List Nat)} {Q:Exit→Act→World→Prop} (hfw:X4F ops=true) (hcl:clB ops cl=true)
  (hstep:∀R∈cl,∀i∈Zm ops R,∀s,TR R s→XX P ops i s (TR (Qj R i))):
  ∀(fuel:Nat) (listed:Array Bool) (s:HS) (F:Nat→Prop) (γ:Nat→Value) (a:Act) (w:World),listed.size=ops.size→Xj ops listed∈cl→(Xj ops listed).length≤fuel→TR (Xj ops listed) s→Rel w0 B π F γ s a w→
  (∀s' F' γ' a' w',TR [] s'→(∀b,F b→F' b)→(∀b,F' b→F b∨¬B b)→Rel w0 B π F' γ' s' a' w'→Q .normal a' w')→wpAny P .any ops Q fuel listed a w:=by
 have hnr:∀listed:Array Bool,Xj ops listed=[]→Region.ready .any ops listed=[]:=by
  intro listed h0;refine List.eq_nil_iff_forall_not_mem.2 fun i hi=>?_;obtain⟨h1,h2,_⟩:=Qw.1 hi;have:=XM.2 ⟨h1,h2⟩;rw[h0]at this;cases this
 have hrn:∀listed:Array Bool,listed.size=ops.size→Region.ready .any ops listed=[]→Xj ops listed=[]:=by
  intro listed hsz h0;cases hres:Xj ops listed with
  |nil=>rfl
  | cons i l=>
    have hi:i∈Xj ops listed:=by rw[hres];simp
    obtain⟨hlt,hun⟩:=XM.1 hi
    have:i∈Region.ready .any ops listed:=by
     refine Qw.2 ⟨hlt,hun,ops[i],by simp[hlt],fun e he hb=>?_⟩
     have hon:e.on<i:=by
      unfold X4F at hfw;rw[List.all_eq_true]at hfw;have h1:=hfw i (by simpa using hlt);rw[Array.getElem?_eq_getElem hlt]at h1;simp only[List.all_eq_true]at h1;have h2:=h1 e (by simpa using he);simp only[hb,Bool.not_true,Bool.false_or,decide_eq_true_eq]at h2;exact h2
     have hnot:e.on∉Xj ops listed:=by
      intro hm;have hs:=Qd (ops:=ops) listed;rw[hres]at hs hm;rcases List.mem_cons.1 hm with e'|hm
      · omega
      have:=(List.pairwise_cons.1 hs).1 _ hm;omega
     rw[XM]at hnot;have hel:e.on<listed.size:=by omega
     rw[Array.getD_eq_getD_getElem?,Array.getElem?_eq_getElem hel]at hnot⊢;simp only[Option.getD_some,not_and,Bool.not_eq_false]at hnot⊢;exact hnot (by omega)
    rw[h0]at this;cases this
 intro fuel
 induction fuel with
 | zero=>
   intro listed s F γ a w hsz hin hlen ht hr hK;have h0:Xj ops listed=[]:=List.eq_nil_of_length_eq_zero (by omega);rw[h0]at ht;exact⟨hnr listed h0,hK s F γ a w ht (fun _ h=>h) (fun _ h=>.inl h) hr⟩
 | succ fuel ih=>
   intro listed s F γ a w hsz hin hlen ht hr hK;refine⟨fun h0=>?_,fun i hi=>?_⟩
   · rw[hrn listed hsz h0]at ht;exact hK s F γ a w ht (fun _ h=>h) (fun _ h=>.inl h) hr
   obtain⟨hlt,hun,oi,hoi,hpre⟩:=Qw.1 hi;have hir:i∈Xj ops listed:=XM.2 ⟨hlt,hun⟩;have hset:=X33 hsz hir
   have hir2:i∈Zm ops (Xj ops listed):=by
    refine List.mem_filter.2 ⟨hir,?_⟩;rw[hoi];simp only[List.all_eq_true,Bool.or_eq_true,Bool.not_eq_true'];intro e he;cases hb:Region.binds .any e with
    |false=>exact .inl rfl
    | true=>
      refine .inr ?_;have h1:=hpre e (by simpa using he) hb;refine Bool.eq_false_iff.2 fun hc=>?_;have h2:=XM.1 (by simpa using hc:e.on∈Xj ops listed);have hel:e.on<listed.size:=by omega
      rw[Array.getD_eq_getD_getElem?,Array.getElem?_eq_getElem hel]at h1;have h3:=h2.2;rw[Array.getD_eq_getD_getElem?,Array.getElem?_eq_getElem hel]at h3;simp only[Option.getD_some]at h1 h3;rw[h1]at h3;cases h3
   have hm:Qj (Xj ops listed) i∈cl:=by
    unfold clB at hcl;simp only[Bool.and_eq_true,List.all_eq_true]at hcl;simpa using hcl.2 _ hin i hir2
   refine hstep _ hin i hir2 s ht w0 B π F γ a w _ Q hr fun s' F' γ' a' w' hw h1 h2 hr2=>?_;refine ih (listed.setIfInBounds i true) s' F' γ' a' w' (by simpa using hsz) (by rw[hset];exact hm) ?_ (by rw[hset];exact hw) hr2 fun s3 F3 γ3 a3 w3 hk h5 h6 hr3=>hK s3 F3 γ3 a3 w3 hk (fun b hb=>h5 b (h1 b hb)) (fun b hb=>(h6 b hb).elim (h2 b) .inr) hr3;obtain⟨x2,y2,g1,g2,_,_⟩:=X1u (Qd (ops:=ops) listed) hir;rw[hset,g2];rw[g1]at hlen;simp only[List.length_append,List.length_cons]at hlen⊢;omega
theorem X8A {id:Nat} (TR:List Nat→HS→Prop) (cl:List (List Nat)) {s:HS} {Q:Exit→HS→Prop} (hm:P.follows .mixedOrders=true) (hfw:X4F ops=true) (hcl:clB ops cl=true)
  (hs:TR (List.range ops.size) s) (hstep:∀R∈cl,∀i∈Zm ops R,∀s,TR R s→XX P ops i s (TR (Qj R i))) (hq:∀s,TR [] s→Q .normal s):HT P (.region id ops true) s Q:=by
 intro w0 B π F γ a w hr
 have hrest:Xj ops (Array.replicate ops.size false)=List.range ops.size:=by
  unfold Xj;refine List.filter_eq_self.2 fun i hi=>?_;have:i<ops.size:=by simpa using hi
  simp[this]
 have hin:List.range ops.size∈cl:=by
  unfold clB at hcl;simp only[Bool.and_eq_true]at hcl;simpa using hcl.1
 refine wp_region_any hm (Xcf (P:=P) (ops:=ops) (w0:=w0) (B:=B) (π:=π) (TR:=TR) (cl:=cl) hfw hcl hstep ops.size (Array.replicate ops.size false) s F γ a {w with drawn:=w.drawn+1} (by simp) (by rw[hrest];exact hin) (by rw[hrest];simp) (by rw[hrest];exact hs) ?_ fun s' F' γ' a' w' hk h1 h2 h3=>⟨s',F',γ',hq s' hk,h1,h2,h3⟩);exact⟨hr.heap.drew,hr.defers,hr.nt,fun k r hk=>(hr.regs k r hk).mono (w:=w) (w':={w with drawn:=w.drawn+1}) (fun _ h=>h) fun _ _=>rfl⟩
theorem XX.evE {i:Nat} {o:Oper} {s t:HS} (ho:ops[i]? =some o) (h:evc P ops [o] s []=some (t,True)):XX P ops i s (fun u=>u=t):=.ev [] ho h trivial rfl
theorem XX.evL {i:Nat} {o:Oper} {s t u:HS} (ho:ops[i]? =some o) (h:evc P ops [o] s []=some (t,True)) (hl:Hl.le t u):XX P ops i s (fun v=>v=u):=.le (.evE ho h) fun v hv=>⟨u,by rw[hv];exact hl,rfl⟩
theorem XX.evN {i:Nat} {o:Oper} {R:List Nat} {nx:List Nat→HS} (nx':List Nat→HS) (ho:ops[i]? =some o) (h:evc P ops [o] (nx R) []=some (nx' (Qj R i),True)) (hl:Hl.le (nx' (Qj R i)) (nx (Qj R i))):
  XX P ops i (nx R) (fun u=>u=nx (Qj R i)):=.evL ho h hl
def stB (ops:Array Oper) (steps:List (List Nat×Nat)):Bool:=steps.all fun p=>(Zm ops p.1).all fun i=>steps.contains (p.1,i)
theorem X6O {id:Nat} (nx:List Nat→HS) (steps:List (List Nat×Nat)) {s:HS} {Q:Exit→HS→Prop} (hm:P.follows .mixedOrders=true) (hfw:X4F ops=true) (hcl:clB ops ([]::steps.map (·.1))=true) (hst:stB ops steps=true)
  (h0:s=nx (List.range ops.size)) (hstep:∀p∈steps,XX P ops p.2 (nx p.1) (fun u=>u=nx (Qj p.1 p.2))) (hq:Q .normal (nx [])):HT P (.region id ops true) s Q:=by
 refine X8A (fun R s=>s=nx R) ([]::steps.map (·.1)) hm hfw hcl h0 (fun R hR i hi u hu=>?_) fun u hu=>by rw[hu];exact hq
 subst hu;rcases List.mem_cons.1 hR with rfl|hR
 · simp[Zm]at hi
 obtain⟨p,hp,rfl⟩:=List.mem_map.1 hR;unfold stB at hst;simp only[List.all_eq_true]at hst;have:=hst p hp i hi;exact hstep (p.1,i) (by simpa using this)
def trS (b:HS) (outs:List (Nat×Nat×RV)) (R:List Nat):HS:={b with regs:=outs.foldl (fun u m=>if R.contains m.1 then u else ins m.2.1 m.2.2 u) b.regs}
end
end Go.Hl
