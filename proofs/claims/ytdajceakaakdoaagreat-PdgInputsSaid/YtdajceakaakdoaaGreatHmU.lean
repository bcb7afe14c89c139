/- HmU: part of an evaluator of Go code over abstract states, proved sound over the model; used by the proof of the claimed statement. Conditions: none. -/
import Derived.Test.YtdajceakaakdoaaGreatHmT
import Derived.ProofKit
set_option linter.unusedSimpArgs false
set_option linter.unusedVariables false
namespace Go.Hl
open Go Go.RowKit Go.ChangeShapes
def aggT (P:Program) (t:TypeId):Bool:=
 match P.underlying t with
 |some (.struct _)=>true
 |some (.array _ _)=>true
 |_=>false
def tvOf (P:Program) (t:TypeId) (ds:List CD):TV:=
 if aggT P t then .agg (ds.map .c)else match ds with
  |[d]=>.one (.c d)
  |_=>.one .any
def X3w (P:Program):List TypeId→List (List CD)→List TV
 |t::ts,ds::dss=>tvOf P t ds::X3w P ts dss
 |_,_=>[]
def X38 (P:Program):List TypeId→List (List CD)→Prop
 |[],[]=>True
 |t::ts,ds::dss=>(∃k,QA P k t ds)∧X38 P ts dss
 |_,_=>False
section
variable {P:Program} {H:Type} {enc:TypeId×Value→H} {W W':World}
theorem X2j (hl:laidOutB P=true) (hb:Below W.heap.size W W'):∀{ts:List TypeId} {vs:List Value} {ds:List (DataW H)} {ps:List MemPlace},(∀t∈ts,P.readableRec t=true∧t<P.types.size)→
  (∀x∈ps,x.block<W.heap.size)→DataW.TrodAll enc P W 0 (fun _=>true) true ts vs ds ps→DataW.TrodAll enc P W' 0 (fun b=>decide (b<W.heap.size)) true ts vs ds ps
 |[],[],[],ps,_,_,h=>h
 | t::ts,v::vs,d::ds,ps,hr,hlt,h=>by
   obtain⟨p,q,h1,h2,rfl⟩:=h;exact⟨p,q,Below.trod hl (hr t (by simp)).1 (hr t (by simp)).2 h1 hb (fun x hx=>hlt x (by simp[hx])),X2j hl hb (fun t ht=>hr t (by simp[ht])) (fun x hx=>hlt x (by simp[hx])) h2,rfl⟩
 |[],_::_,_,_,_,_,h=>h.elim
 |[],[],_::_,_,_,_,h=>h.elim
 |_::_,[],_,_,_,_,h=>h.elim
 |_::_,_::_,[],_,_,_,h=>h.elim
theorem X9o {t:TypeId} {vs:Array Value} {base:Nat} {r:Reach} (h:Cell.okWide P W r base t (.agg vs)):False:=by
 unfold Cell.okWide at h;cases hu:P.underlying t with
 |none=>rw[hu]at h;unfold Cell.ok at h;rw[hu]at h;exact h
 |some d=>rw[hu]at h;cases d<;>(unfold Cell.ok at h;rw[hu]at h;exact h)
theorem X6s (hT:X8R P) {base:Nat}:∀{ts:List TypeId} {vs:List Value} {ds:List (DataW H)} {ps:List MemPlace},(∀t∈ts,t<P.types.size)→DataW.TrodAll enc P W 0 (fun _=>true) true ts vs ds ps→(∀n∈DataW.weightsEach P ts ds,n≤reachBytes)→
  (∀(j:Nat) t v,ts[j]? =some t→vs[j]? =some v→Value.okWide P W .any base t v)→
  ds.length=ts.length∧vs.length=ts.length∧∃dss,X38 P ts dss∧(X3w P ts dss).length=vs.length∧∀(j:Nat) t u,(X3w P ts dss)[j]? =some t→vs[j]? =some u→XD (inMem W) noγ W t u
 |[],[],[],ps,_,h,_,_=>⟨rfl,rfl,[],trivial,rfl,by simp[X3w]⟩
 | t :: ts,v::vs,d::ds,ps,hts,h,hz,hok=>by
   obtain⟨p,q,⟨fuel,h1⟩,h2,rfl⟩:=h;obtain⟨e1,e2,dss,h3,h4,h5⟩:=X6s hT (fun t ht=>hts t (List.mem_cons_of_mem _ ht)) h2 (fun n hn=>hz n (by simp only[DataW.weightsEach,List.mem_append];exact .inr hn)) fun j t v ht hv=>hok (j+1) t v ht hv;obtain⟨cs,hcs⟩:=Zz hT fuel t _ _ (hts t (by simp)) h1 (fun n hn=>hz n (by simp only[DataW.weightsEach,List.mem_append];exact .inl hn));refine⟨by simp[e1],by simp[e2],cs::dss,⟨⟨fuel,hcs.shape⟩,h3⟩,by simp[X3w,h4],fun j t' u ht hu=>?_⟩;cases j with
   |succ j=>exact h5 j t' u ht hu
   | zero=>
     cases hu;simp only[X3w,List.getElem?_cons_zero,Option.some.injEq]at ht;subst ht;have hv:=hok 0 t v rfl rfl;unfold tvOf;by_cases ha:aggT P t=true
     · rw[if_pos ha]
       have:∃vs,v=.agg vs:=by
        unfold aggT at ha;unfold Value.okWide at hv;split at ha
        · rename_i hu;rw[hu]at hv;obtain⟨vs,e,_⟩:=hv;exact⟨vs,e⟩
        · rename_i hu;rw[hu]at hv;obtain⟨vs,e,_⟩:=hv;exact⟨vs,e⟩
        cases ha
       obtain⟨vs',rfl⟩:=this;refine⟨vs',rfl,?_,fun j x u hx hu=>?_⟩
       · have:=hcs.len;simp[Value.cells]at this;simp[this]
       rw[List.getElem?_map]at hx;simp only[Option.map_eq_some_iff]at hx;obtain⟨c,hc,rfl⟩:=hx;exact hcs.rel j c u hc (by simpa[Value.cells]using hu)
     rw[if_neg ha]
     have hna:∀vs,v≠ .agg vs:=by
      rintro vs rfl;unfold aggT at ha;unfold Value.okWide at hv;split at hv
      · rename_i hu;rw[hu]at ha;exact ha rfl
      · rename_i hu;rw[hu]at ha;exact ha rfl
      exact X9o hv
     have hcell:v.cells= #[v]:=by cases v<;>first|rfl|exact absurd rfl (hna _)
     rw[hcell]at hcs;have hl:=hcs.len
     match cs,hl with
     |[c],_=>exact hcs.rel 0 c v rfl rfl
 |[],_::_,_,_,_,h,_,_=>h.elim
 |[],[],_::_,_,_,h,_,_=>h.elim
 |_::_,[],_,_,_,h,_,_=>h.elim
 |_::_,_::_,[],_,_,h,_,_=>h.elim
theorem X9X {C:Checked} {os:Os} {f:FuncId} {fn:Func} {s:ChangeSpec} {tb:TypeId} (own:ownKnob C.prog.godebug=none) (started:os.Started) (noInit:C.prog.inits.idxOf? f=none) (hfn:C.prog.funcs[f]? =some fn)
  (witness:∃(w:World) (tape:Tape) (i:Input),w.os=os∧(w.forCall tape i).Shaped C.prog∧i.vars=[]∧Input.okWide C.prog (w.forCall tape i) .any w.heap.size f i∧
   s.pre6 enc C.prog fn [] false (w.forCall tape i).memory i.args∧({}:Assume).holds C.prog (lone (Frame.enter C.prog f i.args .normal) [] (w.forCall tape i)))
  (hl:laidOutB C.prog=true) (hT:X8R C.prog) (hps:fn.params.toList.all (fun t=>C.prog.readableRec t&&decide (t<C.prog.types.size))=true)
  (hvars:s.vars=[]) (hres:fn.resultTypes= #[tb]) (htb:C.prog.underlying tb=some .bool)
  (hspec:∀ds:List (DataW H),ds.length=fn.params.toList.length→(s.fn H (ds++[])).results=[.lit (.bool true)]∧(s.fn H (ds++[])).args=ds∧(s.fn H (ds++[])).vars=[])
  (law:∀dss,X38 C.prog fn.params.toList dss→Con C.prog f true (X3w C.prog fn.params.toList dss) (lit (.bool true)) none 0):
  ReturnsInHanded {} C os f .any (s.pre6 enc C.prog fn [] false) (s.post enc C.prog fn false true false false):=by
 refine returnsInHanded_of_change_sized own started noInit hfn witness ?_;intro W base args ds gs before hval hW _ hsz _;have hW':=hW;obtain⟨p,q,hA,hV,rfl,hfz,hnd⟩:=hW;rw[hvars]at hV
 obtain⟨rfl,rfl⟩:gs=[]∧q=[]:=by
  cases gs with
  |nil=>exact⟨rfl,hV⟩
  |cons _ _=>exact hV.elim
 obtain⟨e1,e2,dss,h3,h4,h5⟩:=X6s hT (fun t ht=>by rw[List.all_eq_true]at hps;have:=hps t ht;simp only[Bool.and_eq_true,decide_eq_true_eq]at this;exact this.2) hA (fun n hn=>by have:=List.all_eq_true.1 hsz n (X4z hn);simpa using this) fun j t v ht hv=>hval j t v (by simpa using ht) (by simpa using hv);obtain⟨_,hcon⟩:=law dss h3;refine(hcon (inMem W) W args (fun _ h=>h) (by rw[h4];simp) fun j t u ht hu=>h5 j t u ht (by simpa using hu)).mono ?_;rintro e W' ⟨v,N,γ',rfl,hb,hN,hr,_⟩;have hv:v=.bool true:=X9.lit_eq rfl hr;subst hv;obtain⟨s1,s2,s3⟩:=hspec ds e1;refine⟨_,rfl,ds,[],p++[],[],p,[],hW',?_,?_,?_,hb.frame _,fun h=>by cases h⟩
 · rw[s1,hres];exact⟨[],[],⟨1,by unfold DataW.trod;rw[htb];rfl⟩,rfl,rfl⟩
 · rw[s2];rw[List.all_eq_true]at hps;refine X2j hl hb (fun t ht=>by have:=hps t ht;simpa using this) (fun x hx=>hA.lt x hx) hA
 rw[s3,hvars];rfl
end
end Go.Hl
