/- Part of an evaluator that is sound over the model. Conditions: none. -/
import Derived.Test.YtdajceakaakdoaaGreatH4
import Derived.ProofKit
import Derived.Scope
import Derived.IntWalk
set_option linter.unusedSimpArgs false
set_option linter.unusedVariables false
namespace Go.Hl
open Go Go.RowKit Go.ChangeShapes
def aggT (P:Program) (t:TypeId):Bool:=
 match P.underlying t with
 |some (.struct _)=>true
 |some (.array _ _)=>true
 |_=>false
def tvOf (P:Program) (t:TypeId) (ds:List CD):TV:=
 if aggT P t then .agg (ds.map .c)else match ds with
  |[d]=>.one (.c d)
  |_=>.one .any
def X3S (P:Program):List TypeId->List (List CD)->List TV
 |t::ts,ds::dss=>tvOf P t ds::X3S P ts dss
 |_,_=>[]
def X36 (P:Program):List TypeId->List (List CD)->Prop
 |[],[]=>True
 |t::ts,ds::dss=>(∃k,QL P k t ds)/\X36 P ts dss
 |_,_=>False
section
variable {P:Program} {H:Type} {enc:TypeId×Value->H} {W W':World}
theorem X2t (hl:laidOutB P=true) (hb:Below W.heap.size W W'):∀{ts:List TypeId} {vs:List Value} {ds:List (DataW H)} {ps:List MemPlace},(∀t∈ts,P.readableRec t=true/\t<P.types.size)->
  (∀x∈ps,x.block<W.heap.size)->DataW.TrodAll enc P W 0 (fun _=>true) true ts vs ds ps->DataW.TrodAll enc P W' 0 (fun b=>decide (b<W.heap.size)) true ts vs ds ps
 |[],[],[],ps,_,_,h=>h
 | t::ts,v::vs,d::ds,ps,hr,hlt,h=>by
   obtain⟨p,q,h1,h2,rfl⟩:=h;exact⟨p,q,Below.trod hl (hr t (by simp)).1 (hr t (by simp)).2 h1 hb (fun x hx=>hlt x (by simp[hx])),X2t hl hb (fun t ht=>hr t (by simp[ht])) (fun x hx=>hlt x (by simp[hx])) h2,rfl⟩
 |[],_::_,_,_,_,_,h=>h.elim
 |[],[],_::_,_,_,_,h=>h.elim
 |_::_,[],_,_,_,_,h=>h.elim
 |_::_,_::_,[],_,_,_,h=>h.elim
theorem X90 {t:TypeId} {vs:Array Value} {base:Nat} {r:Reach} (h:Cell.okWide P W r base t (.agg vs)):False:=by
 unfold Cell.okWide at h;cases hu:P.underlying t with
 |none=>rw[hu]at h;unfold Cell.ok at h;rw[hu]at h;exact h
 |some d=>rw[hu]at h;cases d<;>(unfold Cell.ok at h;rw[hu]at h;exact h)
theorem X6Y (hT:X8o P) {base:Nat}:∀{ts:List TypeId} {vs:List Value} {ds:List (DataW H)} {ps:List MemPlace},(∀t∈ts,t<P.types.size)->DataW.TrodAll enc P W 0 (fun _=>true) true ts vs ds ps->(∀n∈DataW.weightsEach P ts ds,n<=reachBytes)->
  (∀(j:Nat) t v,ts[j]? =some t->vs[j]? =some v->Value.okWide P W .any base t v)->
  ds.length=ts.length/\vs.length=ts.length/\∃dss,X36 P ts dss/\(X3S P ts dss).length=vs.length/\∀(j:Nat) t u,(X3S P ts dss)[j]? =some t->vs[j]? =some u->XI (inMem W) noγ W t u
 |[],[],[],ps,_,h,_,_=>⟨rfl,rfl,[],trivial,rfl,by simp[X3S]⟩
 | t :: ts,v::vs,d::ds,ps,hts,h,hz,hok=>by
   obtain⟨p,q,⟨fuel,h1⟩,h2,rfl⟩:=h;obtain⟨e1,e2,dss,h3,h4,h5⟩:=X6Y hT (fun t ht=>hts t (NS _ ht)) h2 (fun n hn=>hz n (by simp only[DataW.weightsEach,Ng];exact .inr hn)) fun j t v ht hv=>hok (j+1) t v ht hv;obtain⟨cs,hcs⟩:=ZH hT fuel t _ _ (hts t (by simp)) h1 (fun n hn=>hz n (by simp only[DataW.weightsEach,Ng];exact .inl hn));refine⟨by simp[e1],by simp[e2],cs::dss,⟨⟨fuel,hcs.shape⟩,h3⟩,by simp[X3S,h4],fun j t' u ht hu=>?_⟩;cases j with
   |succ j=>exact h5 j t' u ht hu
   | zero=>
     cases hu;simp only[X3S,List.getElem?_cons_zero,Option.some.injEq]at ht;subst ht;have hv:=hok 0 t v rfl rfl;unfold tvOf;by_cases ha:aggT P t=true
     .rw[Na ha]
      have:∃vs,v=.agg vs:=by
       unfold aggT at ha;unfold Value.okWide at hv;split at ha
       .rename_i hu;rw[hu]at hv;obtain⟨vs,e,_⟩:=hv;exact⟨vs,e⟩
       .rename_i hu;rw[hu]at hv;obtain⟨vs,e,_⟩:=hv;exact⟨vs,e⟩
       cases ha
      obtain⟨vs',rfl⟩:=this;refine⟨vs',rfl,?_,fun j x u hx hu=>?_⟩
      .have:=hcs.len;simp[Value.cells]at this;simp[this]
      rw[Np]at hx;simp only[N8]at hx;obtain⟨c,hc,rfl⟩:=hx;exact hcs.rel j c u hc (by simpa[Value.cells]using hu)
     rw[N7 ha]
     have hna:∀vs,v≠ .agg vs:=by
      rintro vs rfl;unfold aggT at ha;unfold Value.okWide at hv;split at hv
      .rename_i hu;rw[hu]at ha;exact ha rfl
      .rename_i hu;rw[hu]at ha;exact ha rfl
      exact X90 hv
     have hcell:v.cells= #[v]:=by cases v<;>first|rfl|exact absurd rfl (hna _)
     rw[hcell]at hcs;have hl:=hcs.len
     match cs,hl with
     |[c],_=>exact hcs.rel 0 c v rfl rfl
 |[],_::_,_,_,_,h,_,_=>h.elim
 |[],[],_::_,_,_,h,_,_=>h.elim
 |_::_,[],_,_,_,h,_,_=>h.elim
 |_::_,_::_,[],_,_,h,_,_=>h.elim
theorem XaP {C:Checked} {os:Os} {f:FuncId} {fn:Func} {s:ChangeSpec} {tb:TypeId} (own:ownKnob C.prog.godebug=none) (started:os.Started) (noInit:C.prog.inits.idxOf? f=none) (hfn:C.prog.funcs[f]? =some fn)
  (witness:∃(w:World) (tape:Tape) (i:Input),w.os=os/\(w.forCall tape i).Shaped C.prog/\i.vars=[]/\Input.okWide C.prog (w.forCall tape i) .any w.heap.size f i/\
   s.pre6 enc C.prog fn [] false (w.forCall tape i).memory i.args/\({}:Assume).holds C.prog (lone (Frame.enter C.prog f i.args .normal) [] (w.forCall tape i)))
  (hl:laidOutB C.prog=true) (hT:X8o C.prog) (hps:fn.params.toList.all (fun t=>C.prog.readableRec t&&decide (t<C.prog.types.size))=true)
  (hvars:s.vars=[]) (hres:fn.resultTypes= #[tb]) (htb:C.prog.underlying tb=some .bool)
  (hspec:∀ds:List (DataW H),ds.length=fn.params.toList.length->(s.fn H (ds++[])).results=[.lit (.bool true)]/\(s.fn H (ds++[])).args=ds/\(s.fn H (ds++[])).vars=[])
  (law:∀dss,X36 C.prog fn.params.toList dss->Con C.prog f true (X3S C.prog fn.params.toList dss) (lit (.bool true)) none 0):
  ReturnsInHanded {} C os f .any (s.pre6 enc C.prog fn [] false) (s.post enc C.prog fn false true false false):=by
 refine returnsInHanded_of_change_sized own started noInit hfn witness ?_;intro W base args ds gs before hval hW _ hsz _;have hW':=hW;obtain⟨p,q,hA,hV,rfl,hfz,hnd⟩:=hW;rw[hvars]at hV
 obtain⟨rfl,rfl⟩:gs=[]/\q=[]:=by
  cases gs with
  |nil=>exact⟨rfl,hV⟩
  |cons _ _=>exact hV.elim
 obtain⟨e1,e2,dss,h3,h4,h5⟩:=X6Y hT (fun t ht=>by rw[Nm]at hps;have:=hps t ht;simp only[N4,N6]at this;exact this.2) hA (fun n hn=>by have:=Nm.1 hsz n (X4R hn);simpa using this) fun j t v ht hv=>hval j t v (by simpa using ht) (by simpa using hv);obtain⟨_,hcon⟩:=law dss h3;refine(hcon (inMem W) W args (fun _ h=>h) (by rw[h4];simp) fun j t u ht hu=>h5 j t u ht (by simpa using hu)).mono ?_;rintro e W' ⟨v,N,T',rfl,hb,hN,hr,_⟩;have hv:v=.bool true:=Xa.lit_eq rfl hr;subst hv;obtain⟨s1,s2,s3⟩:=hspec ds e1;refine⟨_,rfl,ds,[],p++[],[],p,[],hW',?_,?_,?_,hb.frame _,fun h=>by cases h⟩
 .rw[s1,hres];exact⟨[],[],⟨1,by unfold DataW.trod;rw[htb];rfl⟩,rfl,rfl⟩
 .rw[s2];rw[Nm]at hps;refine X2t hl hb (fun t ht=>by have:=hps t ht;simpa using this) (fun x hx=>hA.lt x hx) hA
 rw[s3,hvars];rfl
end
end Go.Hl
namespace Go.Hl
open Go Go.RowKit
theorem tiled_mk {P:Program} (h:(List.range P.types.size).all (X4q P)=true):X8o P:=by
 intro t ht;rw[Nm]at h;exact h t (by simpa using ht)
section
variable {P:Program} {k:Nat} {t:TypeId} {ds:List CD}
theorem XbN {ik:IntKind} (hu:P.underlying t=some (.int ik)) (h:QL P k t ds):∃n,ds=[.lit (.int ik n)]/\(Lit.int ik n).wf=true:=by
 cases k with
 |zero=>exact h.elim
 |succ k=>unfold QL at h;rw[hu]at h;exact h
theorem Xci (hu:P.underlying t=some .string) (h:QL P k t ds):∃s,ds=[.lit (.string s)]/\s.size<=maxLen:=by
 cases k with
 |zero=>exact h.elim
 |succ k=>unfold QL at h;rw[hu]at h;exact h
theorem X9B {T:Type} {enc:T->List CD}:∀{rows:List (List CD)},(∀r∈rows,∃x,r=enc x)->∃xs:List T,rows=xs.map enc
 |[],_=>⟨[],rfl⟩
 | r::rows,h=>by
   obtain⟨x,hx⟩:=h r (by simp);obtain⟨xs,hxs⟩:=X9B fun r hr=>h r (NS _ hr);exact⟨x::xs,by simp[hx,hxs]⟩
theorem tvOf_agg (ha:aggT P t=true):tvOf P t ds=.agg (ds.map .c):=by
 unfold tvOf;rw[Na ha]
end
def X8w (P:Program) (f:FuncId) (cs:List CD) (args:List TV) (r:RV) (cs':List CD):Prop:=
 Q5 P f=true/\∀(F:Nat->Prop) (w:World) (b:Nat) (e:TypeId) (vs0 vs:Array Value),(∀b,F b->b<w.heap.size)->¬F b->w.heap[b]? =some (.cells vs0 e (0,0))->Xq F noγ w (cs.map .c) vs0->
  vs.size=args.length->(∀(T:Nat->Value) (j:Nat) t u,args[j]? =some t->vs[j]? =some u->XI F T w t u)->
  Calls P f (#[.pointer (some ⟨b,0,none⟩)]++vs) w fun x w'=>∃(v:Value) (N:Nat->Prop) (T':Nat->Value) (e':TypeId) (vs1:Array Value),x=.returned v/\Kept (fun k=>k<w.heap.size/\k≠b) w w'/\
   (∀c,N c->w.heap.size<=c/\c<w'.heap.size)/\Xa (fun c=>F c\/N c) T' w' r v/\w'.heap[b]? =some (.cells vs1 e' (0,0))/\Xq (fun c=>F c\/N c) noγ w' (cs'.map .c) vs1
section
variable {P:Program} {F:Nat->Prop} {T T':Nat->Value} {w w' w0:World} {B:Nat->Prop} {U:Nat->Option Value}
theorem Xq.data {ds:List CD} {vs:Array Value} (h:Xq F T w (ds.map .c) vs):Xq F T' w (ds.map .c) vs:=by
 refine⟨h.1,fun j x u hx hu=>?_⟩;have:=h.2 j x u hx hu;rw[Np]at hx;simp only[N8]at hx;obtain⟨d,_,rfl⟩:=hx;exact this
theorem X3n {f:FuncId} {fn:Func} {c:Code} {cs cs':List CD} {args:List TV} {r:RV} (hf:P.funcs[f]? =some fn) (hb:fn.body=some c) (hcall:Q5 P f=true) (hnt:args.length+1<=fn.ntmps)
  (h:HT P c ⟨fn.ntmps,(0,.v (.one (.at_ 1000000 0)))::QQ 1 args,[(1000000,.box (cs.map .c))]⟩ (fun e s'=>(e=.normal\/e=.ret)/\∃s2,le s' s2/\(∃ts,X34 P s2 fn.results.toList=some ts/\r=XL ts)/\
   lkp s2.objs 1000000=some (.box (cs'.map .c)))):X8w P f cs args r cs':=by
 refine⟨hcall,fun F w b e vs0 vs hF hFb hbk hcells hsz hargs=>?_⟩;have hbl:b<w.heap.size:=Z4 hbk
 let γ0:Nat->Value:=fun n=>if n=1000000 then .pointer (some ⟨b,0,none⟩)else .nilFunc
 let B0:Nat->Prop:=fun k=>k<w.heap.size/\k≠b
 let π0:Nat->Option Value:=fun n=>if n=1000000 then some (.pointer (some ⟨b,0,none⟩))else none
 have hγ0:γ0 1000000=.pointer (some ⟨b,0,none⟩):=rfl
 have hrel:Rel w B0 π0 F γ0 ⟨fn.ntmps,(0,.v (.one (.at_ 1000000 0)))::QQ 1 args,[(1000000,.box (cs.map .c))]⟩ {tmps:=(#[.pointer (some ⟨b,0,none⟩)]++vs)++Array.replicate (fn.ntmps - (#[Value.pointer (some ⟨b,0,none⟩)]++vs).size) undef,defers:=[]} w:=by
  refine⟨⟨Kept.refl _ _,fun _ h=>h.1,hF,fun n o hl=>?_,fun n o hl c hc=>?_,fun n m on om hn hm hne=>?_,fun n v hv=>?_⟩,rfl,by simp;omega,fun k r hl=>?_⟩
  .simp only[lkp]at hl;split at hl
   .rename_i e';cases hl;subst e';exact⟨b,e,vs0,hγ0,fun hx=>hx.2 rfl,hbk,hcells.data⟩
   cases hl
  .simp only[lkp]at hl;split at hl
   .rename_i e';subst e';cases hc;exact hFb
   cases hl
  .simp only[lkp]at hn hm;split at hn
   .split at hm
    .rename_i e1 e2;exact absurd (e1.symm.trans e2) hne
    cases hm
   cases hn
  .simp only[π0]at hv;split at hv
   .rename_i e';cases hv;subst e';exact⟨NK _,rfl⟩
   cases hv
  simp only[lkp]at hl;split at hl
  .rename_i e';cases hl;subst e';refine⟨b,rfl,?_⟩;rw[Nu,D5 (by simp;omega),D5 (by simp)];rfl
  obtain⟨h1,t,ht,rfl⟩:=Ze args 1 k r hl;have hk:k - 1<vs.size:=by rw[hsz];exact(N5.1 ht).1
  have hv:((#[Value.pointer (some ⟨b,0,none⟩)]++vs)++Array.replicate (fn.ntmps - (#[Value.pointer (some ⟨b,0,none⟩)]++vs).size) undef).getD k undef=vs[k - 1]:=by
   rw[Nu,D5 (by simp;omega),Array.getElem?_append_right (by simp;omega)];simp[hk]
  rw[hv];exact hargs γ0 (k - 1) t vs[k - 1] ht (by simp[hk])
 refine calls_of_wp hf hb (wp_mono (h w B0 π0 F γ0 _ w hrel) ?_);rintro x a' w' ⟨s',F1,γ1,⟨he,s2,hle,⟨ts,hts,rfl⟩,hbox⟩,h1,h2,hr'⟩;obtain⟨F2,γ2,h3,h4,hr2⟩:=hle w B0 π0 F1 γ1 a' w' hr';obtain⟨us,hus,hul,huc⟩:=Zz hr2 hts;have hpin:γ2 1000000=.pointer (some ⟨b,0,none⟩):=(hr2.heap.pin 1000000 _ (by simp[π0])).2;obtain⟨b',e',vs1,hγb,_,hh',hc'⟩:=hr2.heap.ob _ _ hbox;rw[hpin]at hγb;cases hγb;have hFb2:¬F2 b:=hr2.heap.apart _ _ hbox b (by rw[hpin];rfl)
 have hFF:∀c,F2 c->F c\/(F2 c/\w.heap.size<=c):=by
  intro c hc
  have key:¬B0 c->F c\/(F2 c/\w.heap.size<=c):=by
   intro hx;refine .inr ⟨hc,D6 fun hlt=>hx ⟨hlt,fun e=>hFb2 (e▸hc)⟩⟩
  rcases h4 c hc with h5|h5
  .rcases h2 c h5 with h6|h6
   .exact .inl h6
   exact key h6
  exact key h5
 have hres:∃v,(results fn a'.tmps).run P w'=.ok v w'/\Xa F2 γ2 w' (XL ts) v:=by
  rw[X07,Sem.run_bind,hus,Result.andThen_ok];refine⟨_,rfl,?_⟩
  match ts,us,hul,huc with
  |[],[],_,_=>exact⟨#[],rfl,rfl,by simp⟩
  |[t],[u],_,hc=>exact hc 0 t u rfl rfl
  |t1::t2::ts,u1::u2::us,hl,hc=>exact⟨(u1::u2::us).toArray,by simp,by simpa using hl,fun j t u ht hu=>hc j t u ht (by simpa using hu)⟩
 obtain⟨v,hv,hvr⟩:=hres
 have key:a'.defers=[]/\∃v,(results fn a'.tmps).run P w'=.ok v w'/\∃(v2:Value) (N:Nat->Prop) (T':Nat->Value) (e':TypeId) (vs1:Array Value),Ending.returned v=.returned v2/\Kept (fun k=>k<w.heap.size/\k≠b) w w'/\
   (∀c,N c->w.heap.size<=c/\c<w'.heap.size)/\Xa (fun c=>F c\/N c) T' w' (XL ts) v2/\w'.heap[b]? =some (.cells vs1 e' (0,0))/\Xq (fun c=>F c\/N c) noγ w' (cs'.map .c) vs1:=
  ⟨hr2.defers,v,hv,v,fun c=>F2 c/\w.heap.size<=c,γ2,e',vs1,rfl,hr2.heap.below,fun c hc=>⟨hc.2,hr2.heap.fsz c hc.1⟩,hvr.mono hFF fun _ _=>rfl,hh',(hc'.mono hFF fun _ _=>rfl).data⟩
 rcases he with rfl|rfl
 .exact key
 exact key
theorem X5j {objs:List (Nat×Ob)} {x y:CV} (h:brw objs x=some y) {v:Value} {T':Nat->Value} (hr:Xs F noγ w y v):Xs F T' w y v:=by
 unfold brw at h;split at h
 .cases h;exact trivial
 .cases h;exact hr
 .cases h;obtain⟨vs,hv,hl,_⟩:=hr;exact⟨vs,hv,hl,by simp⟩
 simp only[N8]at h;obtain⟨d,_,rfl⟩:=h;exact hr
theorem brwT_any {objs:List (Nat×Ob)} (hh:HeapRel w0 B U F T objs w) {r:RV} {t:TV} (h:X22 objs r=some t) {v:Value} {T':Nat->Value} (hr:XI F noγ w t v):XI F T' w t v:=by
 unfold X22 at h;split at h
 .split at h
  .rename_i y hy;cases h;exact X5j hy hr
  cases h
 .split at h
  .rename_i xs _ ys hy;cases h;obtain⟨vs,rfl,hs,hc⟩:=hr;obtain⟨h1,h2⟩:=X0i hh hy;refine⟨vs,rfl,hs,fun j y u hyj hu=>?_⟩;obtain⟨x,hx,hb⟩:=h2 j y hyj;exact X5j hb (hc j y u hyj hu)
  cases h
 cases h
theorem HeapRel.calledIO {objs:List (Nat×Ob)} (h:HeapRel w0 B U F T objs w) {n b:Nat} {cs cs':List CD} {e':TypeId} {vs1:Array Value} (hn:lkp objs n=some (.box (cs.map .c))) (hb:T n=.pointer (some ⟨b,0,none⟩))
  (hk:Kept (fun k=>k<w.heap.size/\k≠b) w w') {N:Nat->Prop} (hN:∀c,N c->w.heap.size<=c/\c<w'.heap.size) (hcell:w'.heap[b]? =some (.cells vs1 e' (0,0))) (hrel:Xq (fun c=>F c\/N c) noγ w' (cs'.map .c) vs1):
  HeapRel w0 B U (fun c=>F c\/N c) T (ins n (.box (cs'.map .c)) objs) w':=by
 have hBn:Blk (T n) b:=by rw[hb];rfl
 have hob:=h.ob n _ hn;have hbB:¬B b:=(hob.blk_lt hBn).1;have hF:∀c,F c->w'.heap[c]? =w.heap[c]? :=fun c hc=>hk.block c ⟨h.fsz c hc,fun e=>h.apart n _ hn b hBn (e▸hc)⟩
 have hlk:∀m o,lkp (ins n (.box (cs'.map .c)) objs) m=some o->(m=n/\o=.box (cs'.map .c))\/(m≠n/\lkp objs m=some o):=by
  intro m o hl;rw[XQ]at hl;split at hl
  .rename_i e;cases hl;exact .inl ⟨e,rfl⟩
  rename_i e;exact .inr ⟨e,hl⟩
 have hex:∀m o,lkp (ins n (.box (cs'.map .c)) objs) m=some o->∃o',lkp objs m=some o':=by
  intro m o hl;rcases hlk m o hl with⟨rfl,_⟩|⟨_,h2⟩
  .exact⟨_,hn⟩
  exact⟨_,h2⟩
 exact {
  below:=h.below.trans ⟨hk.os,hk.tape,hk.output,hk.size,fun c hc=>hk.block c ⟨h.hB c hc,fun e=>hbB (e▸hc)⟩⟩
  hB:=fun c hc=>NJ (h.hB c hc) hk.size
  fsz:=fun c hc=>by
   rcases hc with hc|hc
   .exact NJ (h.fsz c hc) hk.size
   exact(hN c hc).2
  ob:=fun m o hl=>by
   rcases hlk m o hl with⟨rfl,rfl⟩|⟨hne,hl'⟩
   .exact⟨b,e',vs1,hb,hbB,hcell,hrel.data⟩
   have h1:=h.ob m o hl';exact h1.mono (fun _ h=>.inl h) hF fun c hc=>hk.block c ⟨(h1.blk_lt hc).2,fun e=>h.sep m n _ _ hl' hn hne c hc (e▸hBn)⟩
  apart:=fun m o hl c hc hFc=>by
   obtain⟨o',ho'⟩:=hex m o hl;rcases hFc with hFc|hFc
   .exact h.apart m o' ho' c hc hFc
   have:=((h.ob m o' ho').blk_lt hc).2;have:=(hN c hFc).1;omega
  sep:=fun m k om ok hm hk' hne=>by
   obtain⟨o1,h1⟩:=hex m om hm;obtain⟨o2,h2⟩:=hex k ok hk';exact h.sep m k o1 o2 h1 h2 hne
  pin:=h.pin}
def ioOf (s:HS) (o:Oper):Option (FuncId×Nat×List CD×List TV×Nat):=
 match o.guard,o.op,o.dst with
 | none, .call {callee:=.value x,args:=args, .. },some d=>match opd s.regs x,args.toList with
   | .v (.one (.fn f [])),a0::Xr=>match opd s.regs a0,X1w s.objs (opd s.regs) Xr with
     | .v (.one (.at_ n 0)),some ts=>match lkp s.objs n with
       | some (.box xs)=>match W2 xs with
         |some cs=>if(Xr.any fun x=>(opd s.regs x).ownB)=false/\XP s (some d)=true then some (f,n,cs,ts,d)else none
         |none=>none
       |_=>none
     |_,_=>none
   |_,_=>none
 |_,_,_=>none
theorem io_sound {s:HS} {a:Act} {ops:Array Oper} {i:Nat} {o:Oper} {f:FuncId} {n d:Nat} {cs cs':List CD} {ts:List TV} {r:RV} {Kc:Act->World->Prop} {Q:Exit->Act->World->Prop} (hi:ops[i]? =some o) (h:Rel w0 B U F T s a w) (hc:ioOf s o=some (f,n,cs,ts,d)) (hcon:X8w P f cs ts r cs')
  (honly:r.onlyB false 0=true)
  (hK:∀F' a' w',(∀b,F b->F' b)->(∀b,F' b->F b\/¬B b)->Rel w0 B U F' T (({s with objs:=ins n (.box (cs'.map .c)) s.objs}:HS).put (some d) r) a' w'->Kc a' w'):wpOp P ops Q i Kc a w:=by
 unfold ioOf at hc;split at hc
 .rename_i x args ts0 d0 hgd ho hd;split at hc
  .rename_i f0 a0 Xr hf hargs;split at hc
   .rename_i n0 ts1 hg0 hts;split at hc
    .rename_i xs hl;split at hc
     .rename_i cs0 hdo;split at hc
      .rename_i hcond;cases hc;obtain⟨hown,hok⟩:=hcond;have hxs:=ZR _ _ hdo;subst hxs;obtain⟨hcall,hcon⟩:=hcon;have hx:=h.opd x;rw[hf]at hx;obtain⟨cvs,hv,hcl,_⟩:=hx;have:cvs=[]:=Nv (by simpa using hcl);subst this;have hv':a.eval x=.func (.func f) #[] #[]:=hv;have hx0:=h.opd a0;rw[hg0]at hx0;obtain⟨b,hb,hv0⟩:=hx0;have harr:args=(a0::Xr).toArray:=by rw[<-hargs]
       have hrun:(execOp a.eval o).run P w=.ok (.enter f (#[.pointer (some ⟨b,0,none⟩)]++(Xr.map a.eval).toArray)) w:=by
        unfold Q5 at hcall;split at hcall
        .rename_i fn hfn;simp only[N4,Nw]at hcall;have hnm:¬fn.name= "runtime.NumGoroutine" :=by simpa using hcall.1
         have hnb:¬fn.body=none:=by
          intro hb;rw[hb]at hcall;cases hcall.2
         have e1:args.map a.eval= #[.pointer (some ⟨b,0,none⟩)]++(Xr.map a.eval).toArray:=by rw[harr];simp[hv0]
         simp[execOp,ho,resolve,hv',Deferred.ofValue,invoke,callFunc,hfn,hnm,hnb,e1]
        cases hcall
       unfold wpOp;rw[hi];simp only;have hwant:Region.wanted o (yielded ops a.tmps)=true:=by unfold Region.wanted;rw[hgd]
       rw[hwant];simp only[Nf];refine .inl ?_;unfold Oper.wp;rw[hrun,Oper.upon_enter];have hBn:Blk (T n) b:=by rw[hb];rfl
       obtain⟨b',e,vs0,hγ,hB,hh',hcr⟩:=h.heap.ob n _ hl;rw[hb]at hγ;cases hγ;obtain⟨hlen,hts'⟩:=X1d hts;refine(hcon F w b e vs0 (Xr.map a.eval).toArray h.heap.fsz (h.heap.apart n _ hl b hBn) hh' hcr.data (by simp[hlen]) fun T' j t u ht hu=>?_).mono ?_
       .obtain⟨y,hy,hbr⟩:=hts' j t ht
        have hu':u=a.eval y:=by
         simp only[List.getElem?_toArray,Np,hy,Option.map_some,Option.some.injEq]at hu;exact hu.symm
        rw[hu'];refine brwT_any h.heap hbr (X4C h.heap ?_ hbr (h.opd y));rw[Dd]at hown;simpa using hown y (N3 hy)
       rintro x w' ⟨v,N,T',e',vs1,rfl,hk,hN,hr,hcell,hrel⟩;have hh2:=h.heap.calledIO hl hb hk hN hcell hrel;have hFk:∀c,F c->w'.heap[c]? =w.heap[c]? :=fun c hc=>hk.block c ⟨h.heap.fsz c hc,fun e=>h.heap.apart n _ hl b hBn (e▸hc)⟩;refine hK (fun c=>F c\/N c) _ _ (fun _ h=>.inl h) (fun c hc=>hc.imp id fun hc hx=>?_) ?_
       .have:=h.heap.hB c hx;have:=(hN c hc).1;omega
       rw[hd];exact h.step (objs':=ins n (.box (cs'.map .c)) s.objs) hok hh2 (hr.only (ob:=false) (d:=0) honly (by simp)) fun k r v _ hr=>hr.mono (fun _ h=>.inl h) hFk
      cases hc
     cases hc
    cases hc
   cases hc
  cases hc
 cases hc
theorem Zo {ops:Array Oper} {K:HS->Prop} {Q:Exit->Act->World->Prop} {Xr:List Nat}:∀(l:List Oper) (k:Nat) (s:HS) (F:Nat->Prop) (T:Nat->Value) (a:Act) (w:World),(∀j o,l[j]? =some o->ops[k+j]? =some o)->
  Rel w0 B U F T s a w->wpR P ops l s K->
  (∀s' F' T' a' w',K s'->(∀b,F b->F' b)->(∀b,F' b->F b\/¬B b)->Rel w0 B U F' T' s' a' w'->wpOps P ops Q Xr a' w')->
  wpOps P ops Q (List.range' k l.length++Xr) a w
 |[],k,s,F,T,a,w,_,h,hw,hK=>hK s F T a w hw (fun _ h=>h) (fun _ h=>.inl h) h
 | o::l,k,s,F,T,a,w,hd,h,hw,hK=>by
   have hi:ops[k]? =some o:=hd 0 o rfl;rw[List.length_cons,List.range'_succ,List.cons_append,wpOps_cons];refine X2N hi h hw fun s' F' T' a' w' hw' h1 h2 hr=>?_;refine Zo l (k+1) s' F' T' a' w' (fun j o' hj=>by have:=hd (j+1) o' hj;rwa [show k+1+j=k+(j+1) by omega]) hr hw' fun s2 F2 γ2 a2 w2 hk2 h3 h4 hr2=>?_;refine hK s2 F2 γ2 a2 w2 hk2 (fun b hb=>h3 b (h1 b hb)) (fun b hb=>?_) hr2;rcases h4 b hb with h|h
   .exact h2 b h
   exact .inr h
theorem X0R {id:Nat} {ops:Array Oper} (k:Nat) (r:RV) (cs':List CD) {s s1 s3:HS} {o:Oper} {f:FuncId} {n d:Nat} {cs:List CD} {ts:List TV} {Q:Exit->HS->Prop} (ho:ops[k]? =some o) (hpre:evs P ops (ops.toList.take k) s=some s1)
  (hio:ioOf s1 o=some (f,n,cs,ts,d)) (hcon:X8w P f cs ts r cs') (honly:r.onlyB false 0=true)
  (hpost:evs P ops (ops.toList.drop (k+1)) (({s1 with objs:=ins n (.box (cs'.map .c)) s1.objs}:HS).put (some d) r)=some s3) (hq:Q .normal s3):HT P (.region id ops false) s Q:=by
 intro w0 B U F T a w hr;refine wp_region ?_;have hlt:k<ops.size:=(NM.1 ho).1
 have hsplit:List.range ops.size=List.range' 0 (ops.toList.take k).length++(k::List.range' (k+1) (ops.toList.drop (k+1)).length):=by
  rw[List.range_eq_range',NG,Da,Array.length_toList,Nat.min_eq_left (by omega)];apply NN;intro j;by_cases hj:j<k
  .rw[Ns (by simpa using hj)];simp[hj,show j<ops.size by omega]
  rw[Nn (by simp;omega)];simp only[List.length_range'];by_cases hjk:j=k
  .subst hjk;simp[hlt]
  rw[show j - k=(j - (k+1))+1 by omega,List.getElem?_cons_succ];by_cases hjs:j<ops.size
  .rw[Dv (by omega),Dv (by omega)];congr 1;omega
  rw[Nx (by simp;omega),Nx (by simp;omega)]
 rw[hsplit];refine Zo (ops.toList.take k) 0 s F T a w (fun j o' hj=>?_) hr (X1g _ _ _ hpre rfl:wpR P ops (ops.toList.take k) s (fun t=>t=s1)) fun s' F1 γ1 a1 w1 hs' h1 h2 hr1=>?_
 .rw[NE]at hj;split at hj
  .rw[Nat.zero_add];simpa using hj
  cases hj
 subst hs';rw[wpOps_cons];refine io_sound ho hr1 hio hcon honly fun F2 a2 w2 h3 h4 hr2=>?_
 have:=Zo (Q:=fun e a' w'=>∃(s':HS) (F':Nat->Prop) (T':Nat->Value),Q e s'/\(∀b,F b->F' b)/\(∀b,F' b->F b\/¬B b)/\Rel w0 B U F' T' s' a' w') (Xr:=[]) (ops.toList.drop (k+1)) (k+1) _ F2 γ1 a2 w2 (fun j o' hj=>by
   rw[Ny]at hj;simpa using hj) hr2 (X1g _ _ _ hpost rfl:wpR P ops (ops.toList.drop (k+1)) _ (fun t=>t=s3)) fun s4 F4 γ4 a4 w4 hs4 h5 h6 hr4=>?_
 .simpa using this
 subst hs4;exact⟨s4,F4,γ4,hq,fun b hb=>h5 b (h3 b (h1 b hb)),fun b hb=>(h6 b hb).elim (fun hb=>(h4 b hb).elim (h2 b) .inr) .inr,hr4⟩
def evcS (P:Program) (ops:Array Oper):List Oper->HS->List (Option CR)->Option (HS×Prop)
 |[],s,_=>some (s,True)
 | o :: l,s,cs=>match Qj o.op with
   | .call=>match cs with
     | some c::cs=>match evc P ops [o] s [c] with
       | some (s',p)=>match evcS P ops l s' cs with
         |some (s'',q)=>some (s'',p/\q)
         |none=>none
       |none=>none
     | none::cs=>match o.guard,Zi ops o s with
       |some _,some b=>if b=false/\XP s o.dst=true then evcS P ops l (s.put o.dst (.v (.one .any))) cs else none
       |_,_=>none
     |[]=>none
   | _ =>match evc P ops [o] s [] with
     | some (s',p)=>match evcS P ops l s' cs with
       |some (s'',q)=>some (s'',p/\q)
       |none=>none
     |none=>none
theorem wpR_one {ops:Array Oper} {o:Oper} {l:List Oper} {s:HS} {K:HS->Prop} (h:wpR P ops [o] s (fun t=>wpR P ops l t K)):wpR P ops (o::l) s K:=by
 simp only[wpR]at h⊢;exact h
theorem X32 {ops:Array Oper} {K:HS->Prop}:∀(l:List Oper) (s s':HS) (cs:List (Option CR)) (p:Prop),evcS P ops l s cs=some (s',p)->p->K s'->wpR P ops l s K
 |[],s,s',_,p,h,_,hk=>by cases h;exact hk
 | o :: l,s,s',cs,p,h,hp,hk=>by
   have step:∀(cs1:List CR) (cs2:List (Option CR)),(match evc P ops [o] s cs1 with
     | some (s1,p)=>match evcS P ops l s1 cs2 with
       |some (s'',q)=>some (s'',p/\q)
       |none=>none
     |none=>none)=some (s',p)->wpR P ops (o::l) s K:=by
    intro cs1 cs2 h;split at h
    .rename_i s1 p1 he;split at h
     .rename_i s2 q he2;cases h;exact wpR_one (QZ _ _ _ _ _ he hp.1 (X32 l s1 s' cs2 q he2 hp.2 hk))
     cases h
    cases h
   unfold evcS at h;split at h
   .rename_i hc;split at h
    .exact step _ _ h
    .split at h
     .rename_i q b hg hgd;split at h
      .rename_i hb;simp only[wpR,hg,hgd,hc];refine .inl ⟨hb.1,hb.2,?_⟩;exact X32 l _ s' _ p h hp hk
      cases h
     cases h
    cases h
   exact step _ _ h
theorem X37 {id:Nat} {ops:Array Oper} {s s':HS} {p:Prop} {Q:Exit->HS->Prop} (cs:List (Option CR)) (h:evcS P ops ops.toList s cs=some (s',p)) (hp:p) (hq:Q .normal s'):HT P (.region id ops false) s Q:=
 X4d (X32 _ _ _ _ _ h hp hq)
end
section
variable {P:Program}
theorem X2g {id:Nat} {ops:Array Oper} (k:Nat) (cs1 cs2:List CR) {s s1 s2 s3:HS} {p q:Prop} {Q:Exit->HS->Prop} (hpre:evc P ops (ops.toList.take k) s cs1=some (s1,p)) (hp:p) (hle:le s1 s2)
  (hpost:evc P ops (ops.toList.drop k) s2 cs2=some (s3,q)) (hq':q) (hq:Q .normal s3):HT P (.region id ops false) s Q:=by
 intro w0 B U F T a w hr;refine wp_region ?_
 have hsplit:List.range ops.size=List.range' 0 (ops.toList.take k).length++List.range' (min k ops.size) (ops.toList.drop k).length:=by
  rw[List.range_eq_range',NG,Da,Array.length_toList];apply NN;intro j;by_cases hj:j<min k ops.size
  .rw[Ns (by simpa using hj),Dv (by omega),Dv (by omega)]
  rw[Nn (by simp;omega)];simp only[List.length_range'];by_cases hjs:j<ops.size
  .rw[Dv (by omega),Dv (by omega)];congr 1;omega
  rw[Nx (by simp;omega),Nx (by simp;omega)]
 rw[hsplit];refine Zo (ops.toList.take k) 0 s F T a w (fun j o' hj=>?_) hr (QZ _ _ _ _ _ hpre hp rfl:wpR P ops (ops.toList.take k) s (fun t=>t=s1)) fun s' F1 γ1 a1 w1 hs' h1 h2 hr1=>?_
 .rw[NE]at hj;split at hj
  .rw[Nat.zero_add];simpa using hj
  cases hj
 subst hs';obtain⟨F2,γ2,h3,h4,hr2⟩:=hle w0 B U F1 γ1 a1 w1 hr1
 have:=Zo (Q:=fun e a' w'=>∃(s':HS) (F':Nat->Prop) (T':Nat->Value),Q e s'/\(∀b,F b->F' b)/\(∀b,F' b->F b\/¬B b)/\Rel w0 B U F' T' s' a' w') (Xr:=[]) (ops.toList.drop k) (min k ops.size) _ F2 γ2 a1 w1 (fun j o' hj=>by
   rw[Ny]at hj;have:k+j<ops.toList.length:=(N5.1 hj).1;rw[Array.length_toList]at this;rw[Nat.min_eq_left (by omega)]
   simpa using hj) hr2 (QZ _ _ _ _ _ hpost hq' rfl:wpR P ops (ops.toList.drop k) _ (fun t=>t=s3)) fun s4 F4 γ4 a4 w4 hs4 h5 h6 hr4=>?_
 .simpa using this
 subst hs4;exact⟨s4,F4,γ4,hq,fun b hb=>h5 b (h3 b (h1 b hb)),fun b hb=>(h6 b hb).elim (fun hb=>(h4 b hb).elim (h2 b) .inr) .inr,hr4⟩
end
def ownB (T:Nat->Value) (objs:List (Nat×Ob)) (w:World):Nat->Prop:=fun b=>b<w.heap.size/\¬X1Z T objs b
section
variable {P:Program} {F:Nat->Prop} {T T':Nat->Value} {w w' w0:World} {B:Nat->Prop} {U:Nat->Option Value}
def Ob.isRow:Ob->Bool
 | .row _ _ _=>true
 |_=>false
theorem row_B {B':Nat->Prop} {e:TypeId} {s:Nat} {x:Value} {rows:List (List CD)} (h:Xv F w B e s x rows) (hB:∀b,blk x=some b->¬B' b):Xv F w B' e s x rows:=by
 obtain⟨h0,hs,xs,⟨hl,hown⟩,h1,hc⟩:=h;refine⟨h0,hs,xs,⟨hl,hown.imp id ?_⟩,h1,hc⟩;rintro⟨g,oo,cap,cur,rfl,_,Xr⟩;exact⟨g,oo,cap,cur,rfl,hB g rfl,Xr⟩
def XU (ns:List Nat) (objs:List (Nat×Ob)):List (Nat×Ob):=
 match ns with
 |[]=>objs
 |n::ns=>XU ns (del n objs)
theorem X4w (m:Nat):∀(ns:List Nat) (objs:List (Nat×Ob)),lkp (XU ns objs) m=if m∈ns then none else lkp objs m
 |[],objs=>by simp[XU]
 | n::ns,objs=>by
   rw[XU,X4w m ns,X0h];by_cases h1:m∈ns<;>by_cases h2:m=n<;>simp[h1,h2]
def X1Q (g:Operand->RV):List Operand->Option (List TV)
 |[]=>some []
 | x::l=>match g x,X1Q g l with
   | .v t,some ts=>some (t::ts)
   |_,_=>none
def gOf (s:HS) (o:Oper):Option (FuncId×List TV×Nat):=
 match o.guard,o.op,o.dst with
 | none,.call {callee:=.value x,args:=args, .. },some d=>match opd s.regs x,X1Q (opd s.regs) args.toList with
   | .v (.one (.fn f [])),some ts=>if XP s (some d)=true then some (f,ts,d)else none
   |_,_=>none
 |_,_,_=>none
theorem X2C {g:Operand->RV}:∀{l:List Operand} {ts:List TV},X1Q g l=some ts->ts.length=l.length/\∀(j:Nat) t,ts[j]? =some t->∃x,l[j]? =some x/\g x=.v t
 |[],ts,h=>by cases h;simp
 | x ::l,ts,h=>by
   unfold X1Q at h;split at h
   .rename_i t ts' hx hts;cases h;obtain⟨h1,h2⟩:=X2C hts;refine⟨by simp[h1],fun j t' hj=>?_⟩;cases j with
    |zero=>cases hj;exact⟨x,rfl,hx⟩
    |succ j=>exact h2 j t' hj
   cases h
structure Hand (Y:Nat->Nat) (objs sobjs:List (Nat×Ob)):Prop where
 at_:∀n o,lkp objs n=some o->lkp sobjs (Y n)=some o
 row:∀n o,lkp objs n=some o->o.isRow=true
 inj:∀n m on om,lkp objs n=some on->lkp objs m=some om->n≠m->Y n≠Y m
theorem Hand.heap {Y:Nat->Nat} {objs sobjs:List (Nat×Ob)} (hd:Hand Y objs sobjs) (h:HeapRel w0 B U F T sobjs w):
  HeapRel w (ownB (fun n=>T (Y n)) objs w) (fun _=>none) F (fun n=>T (Y n)) objs w where
 below:=Kept.refl _ _
 hB b hb:=hb.1
 fsz:=h.fsz
 ob n o ho:=by
  have h1:=h.ob _ _ (hd.at_ n o ho);have h2:=hd.row n o ho;cases o with
  | row e s rows=>
    exact row_B (show Xv F w B e s (T (Y n)) rows from h1) fun b hb hx=>hx.2 ⟨n,_,ho,(Wg (Xv.sl (show Xv F w B e s (T (Y n)) rows from h1))).2 hb⟩
  |_=>cases h2
 apart n o ho b hb:=h.apart _ _ (hd.at_ n o ho) b hb
 sep n m on om hn hm hne b hb hb':=h.sep _ _ _ _ (hd.at_ n on hn) (hd.at_ m om hm) (hd.inj n m on om hn hm hne) b hb hb'
 pin n v hv:=by cases hv
theorem Hand.after {Y:Nat->Nat} {objs sobjs:List (Nat×Ob)} (hd:Hand Y objs sobjs) (h:HeapRel w0 B U F T sobjs w) (hk:Kept (ownB (fun n=>T (Y n)) objs w) w w') {N:Nat->Prop}
  (hN:∀c,N c->¬ownB (fun n=>T (Y n)) objs w c/\c<w'.heap.size):
  (∀b,N b->¬B b)/\(∀c,F c->w'.heap[c]? =w.heap[c]?)/\HeapRel w0 B U (fun c=>F c\/N c) T (XU (objs.map fun p=>Y p.1) sobjs) w':=by
 have own:∀b,X1Z (fun n=>T (Y n)) objs b->∃n o,lkp objs n=some o/\lkp sobjs (Y n)=some o/\Blk (T (Y n)) b:=by
  rintro b ⟨n,o,ho,hb⟩;exact⟨n,o,ho,hd.at_ n o ho,hb⟩
 have hNB:∀b,N b->¬B b:=by
  intro b hb hx;refine(hN b hb).1 ⟨h.hB b hx,fun ho=>?_⟩;obtain⟨n,o,_,h1,h2⟩:=own b ho;exact((h.ob _ _ h1).blk_lt h2).1 hx
 have hF:∀c,F c->w'.heap[c]? =w.heap[c]? :=fun c hc=>hk.block c ⟨h.fsz c hc,fun ho=>by
  obtain⟨n,o,_,h1,h2⟩:=own c ho
  exact h.apart _ _ h1 c h2 hc⟩
 have hlk:∀m o,lkp (XU (objs.map fun p=>Y p.1) sobjs) m=some o->lkp sobjs m=some o/\∀n o',lkp objs n=some o'->Y n≠m:=by
  intro m o hl;rw[X4w]at hl;split at hl
  .cases hl
  rename_i hm;exact⟨hl,fun n o' ho e=>hm (NF.2 ⟨(n,o'),XC ho,e⟩)⟩
 have hsep:∀m o,lkp (XU (objs.map fun p=>Y p.1) sobjs) m=some o->∀b,Blk (T m) b->¬X1Z (fun n=>T (Y n)) objs b:=by
  intro m o hl b hb ho;obtain⟨h1,h2⟩:=hlk m o hl;obtain⟨n,o',h3,h4,h5⟩:=own b ho;exact h.sep _ _ _ _ h1 h4 (Ne.symm (h2 n o' h3)) b hb h5
 refine⟨hNB,hF,?_⟩
 exact {
  below:=h.below.trans ⟨hk.os,hk.tape,hk.output,hk.size,fun c hc=>hk.block c ⟨h.hB c hc,fun ho=>by
   obtain⟨n,o,_,h1,h2⟩:=own c ho
   exact((h.ob _ _ h1).blk_lt h2).1 hc⟩⟩
  hB:=fun c hc=>NJ (h.hB c hc) hk.size
  fsz:=fun c hc=>by
   rcases hc with hc|hc
   .exact NJ (h.fsz c hc) hk.size
   exact(hN c hc).2
  ob:=fun m o hl=>by
   obtain⟨h1,_⟩:=hlk m o hl;have h2:=h.ob m o h1;exact h2.mono (fun _ h=>.inl h) hF fun c hc=>hk.block c ⟨(h2.blk_lt hc).2,hsep m o hl c hc⟩
  apart:=fun m o hl c hc hFc=>by
   obtain⟨h1,_⟩:=hlk m o hl;rcases hFc with hFc|hFc
   .exact h.apart m o h1 c hc hFc
   exact(hN c hFc).1 ⟨((h.ob m o h1).blk_lt hc).2,hsep m o hl c hc⟩
  sep:=fun m k om ok hm hk' hne=>h.sep m k om ok (hlk m om hm).1 (hlk k ok hk').1 hne
  pin:=h.pin}
end
abbrev iC (n:Int):CD:=.lit (.int .i64 n)
abbrev bC (b:Bool):CD:=.lit (.bool b)
abbrev sC (s:ByteArray):CD:=.lit (.string s)
abbrev li (n:Int):TV:=.one (.c (iC n))
abbrev lb (b:Bool):TV:=.one (.c (bC b))
abbrev sv (s:ByteArray):TV:=.one (.c (sC s))
def X5 (ks:List Nat):List (Nat×RV)->List (Nat×RV)
 |[]=>[]
 |(k,r)::l=>if ks.contains k=true then(k,r)::X5 ks l else X5 ks l
def Xy (us:List (Nat×RV)) (l:List (Nat×RV)):List (Nat×RV):=
 match us with
 |[]=>l
 |(k,r)::us=>ins k r (Xy us l)
def upS (s:HS) (ks:List Nat) (us:List (Nat×RV)) (objs:List (Nat×Ob)):HS:=⟨s.nt,Xy us (X5 ks s.regs),objs⟩
theorem Xd {P:Program} {I:Type} {c:Code} {s:HS} {Q:Exit->HS->Prop} (ks:List Nat) (U:I->List (Nat×RV)) (O:I->List (Nat×Ob)) (J:I->Prop) (μ:I->Nat) (x0:I) (j0:J x0) (h0:le s (upS s ks (U x0) (O x0)))
  (round:∀x,J x->HT P c (upS s ks (U x) (O x)) (X9h (fun s'=>∃x',J x'/\μ x'<μ x/\le s' (upS s ks (U x') (O x'))) Q)):HT P (.loop c) s Q:=
 HT_loop (fun x=>upS s ks (U x) (O x)) J μ x0 j0 h0 round
theorem XM {P:Program} {I:Type} {x y:Code} {s:HS} {Q:Exit->HS->Prop} (ks:List Nat) (U:I->List (Nat×RV)) (O:I->List (Nat×Ob)) (J:I->Prop) (h:HT P x s (X9h (fun s'=>∃z,J z/\le s' (upS s ks (U z) (O z))) Q))
  (h2:∀z,J z->HT P y (upS s ks (U z) (O z)) Q):HT P (.seq x y) s Q:=
 HT_cut (fun z=>upS s ks (U z) (O z)) J h h2
def X4L (P:Program) (ops:Array Oper) (hs:List (Nat×Nat)):List Oper->HS->List CR->Option (HS×Prop)
 |[],s,_=>some (s,True)
 | o ::l,s,cs=>if X4E hs o s=true then match Qj o.op,cs with
   | .call,c::cs=>match evc P ops [o] s [c] with
     | some (s',p)=>match X4L P ops hs l s' cs with
       |some (s'',q)=>some (s'',p/\q)
       |none=>none
     |none=>none
   | _,cs=>match evc P ops [o] s [] with
     | some (s',p)=>match X4L P ops hs l s' cs with
       |some (s'',q)=>some (s'',p/\q)
       |none=>none
     |none=>none
   else none
theorem X14 {P:Program} {ops:Array Oper} {hs:List (Nat×Nat)} {K:HS->Prop}:∀(l:List Oper) (s s':HS) (cs:List CR) (p:Prop),l.Pairwise (fun a b=>QY a b=false)->(∀o∈l,W8 s o)->X4L P ops hs l s cs=some (s',p)->p->K s'->X1q P ops hs l s K
 |[],s,s',_,p,_,_,h,_,hk=>by cases h;exact hk
 | o ::l,s,s',cs,p,hp,hn,h,hpp,hk=>by
   have step:∀(cs1 cs2:List CR),X4E hs o s=true->(match evc P ops [o] s cs1 with
     | some (s1,p)=>match X4L P ops hs l s1 cs2 with
       |some (s'',q)=>some (s'',p/\q)
       |none=>none
     |none=>none)=some (s',p)->X1q P ops hs (o::l) s K:=by
    intro cs1 cs2 hb h;split at h
    .rename_i s1 p1 he;split at h
     .rename_i s2 q he2;cases h;have hw:wpR P ops [o] s (fun t=>t=s1):=QZ _ _ _ _ _ he hpp.1 rfl;obtain⟨s3,h1,h2⟩:=X2B (hn o (by simp)) hw;have e:s3=s1:=h2;subst e;have hp':=NQ.1 hp;exact⟨s3,h1,X7d hb,X14 l s3 s' cs2 q hp'.2 (fun p hpl=>Wp h1 (hp'.1 p hpl) (hn p (by simp[hpl]))) he2 hpp.2 hk⟩
     cases h
    cases h
   unfold X4L at h;split at h
   .rename_i hb;split at h
    .exact step _ _ hb h
    exact step _ _ hb h
   cases h
theorem XbW {P:Program} {ops:Array Oper} {id:Nat} (hs:List (Nat×Nat)) (cs:List CR) {s s':HS} {p:Prop} {Q:Exit->HS->Prop} (hm:P.follows .mixedOrders=true) (hd:X2r hs ops=true) (hc:X0B ops.toList s=true) (h:X4L P ops hs ops.toList s cs=some (s',p)) (hp:p) (hq:Q .normal s'):HT P (.region id ops true) s Q:=
 X6e hm hd hc fun hpw hok=>X14 _ _ _ _ _ hpw hok h hp hq
theorem Xj {P:Program} {rs:List ResultVar} {s:HS} {fresh:Bool} {r:RV} {d:Nat} {Q:Exit->HS->Prop} (hQ:(∃s2,le s s2/\RetOK P rs s2 fresh r none d)->Q .ret s) (ts:List TV) (hr:X34 P s rs=some ts) (he:r=XL ts) (hl:fresh=true->r.litB=true):HT P .ret s Q:=
 Qe (hQ ⟨s,le_refl s,⟨ts,hr,he⟩,by simp,fun h=>⟨hl h,by simp⟩⟩)
theorem BN:(∀a b:Bool,((a||b)=true)=(a=true\/b=true))/\(∀a b:Bool,((a&&b)=true)=(a=true/\b=true))/\(∀a b:Bool,((a||b)=false)=(a=false/\b=false))/\
  (∀a b:Bool,((a&&b)=false)=(a=false\/b=false))/\(∀a:Bool,((!a)=true)=(a=false))/\(∀a:Bool,((!a)=false)=(a=true))/\(∀(p:Prop) [Decidable p],(decide p=true)=p)/\(∀(p:Prop) [Decidable p],(decide p=false)=¬p):=by
 refine⟨?_,?_,?_,?_,?_,?_,?_,?_⟩<;>intros<;>first|(simp;done)|(rename_i a b;cases a<;>cases b<;>simp)
theorem KN:(∀(a b:Nat) (l:List Nat),(a::l).contains b=(b==a||l.contains b))/\(∀b:Nat,([]:List Nat).contains b=false)/\(∀a:Bool,(a||false)=a)/\(∀a:Bool,(a||true)=true)/\(∀a:Bool,(true||a)=true)/\(∀a:Bool,(false||a)=a)/\
  (∀a:Nat,(a==a)=true)/\(∀a b:List (Nat×RV),(if True then a else b)=a)/\(∀a b:List (Nat×RV),(if False then a else b)=b)/\((true=true)=True)/\((false=true)=False):=by
 refine⟨fun a b l=>List.contains_cons,?_,?_,?_,?_,?_,?_,?_,?_,?_,?_⟩<;>intros<;>simp
theorem HT_retA {P:Program} {rs:List ResultVar} {s:HS} {fresh:Bool} {r:RV} {d:Nat} {Q:Exit->HS->Prop} (hQ:(∃s2,le s s2/\RetOK P rs s2 fresh r none d)->Q .ret s) {ts:List TV} (hr:X34 P s rs=some ts:=by simp[*];rfl)
  (he:r=XL ts:=by first|rfl|(simp[*];done)|(simp only[XL];(repeat' split)<;>first|rfl|(exfalso;omega)|simp_all)) (hl:fresh=true->r.litB=true:=by simp):HT P .ret s Q:=
 Qe (hQ ⟨s,le_refl s,⟨ts,hr,he⟩,by simp,fun h=>⟨hl h,by simp⟩⟩)
theorem X2 {P:Program} {id:Nat} {ops:Array Oper} {s s':HS} {Q:Exit->HS->Prop} (hq:Q .normal s') (h:evs P ops ops.toList s=some s':=by simp[*];rfl):HT P (.region id ops false) s Q:=Xp h hq
attribute [simp] inR evs evc evcS X6m brw brwL X22 X1w Zl X4n X20 X57 Wu RV.ownB CV.ownB RV.onlyB TV.onlyB CV.onlyB HS.made XcD Xcc XaI impB_one impB_and XbX impB_imp pickB_or Xc6 X5Z X4O Zi Qj X4u stpG ZK gdR XcA XbQ litG_lit litG_gd litG_any litG_sl litG_ptr litG_own litG_at litG_agg evOp evN evA evR evW X6D evUn evStr evNil evAgg X6Q eqFs lkpN dataX XaL X4U noMen XW X1P X0g X0A X0e Zj X77 X2O cellsOf opd lkp ins del HS.put XP Wb QV RV.menB TV.menB CV.menB Ob.menB CV.cell CD.cell Value.oneCell' X8H Xaw X9h X3F X41 Z5 X7J X8O Za Wo Hl.lit WV W2 WU Wq setRow WY RV.okNil TV.okNil CV.okNil Ob.okNil RV.ren TV.ren CV.ren Ob.ren X0m XY CV.frz TV.frz RV.frz Ob.frz HS.frz W9 X0Q X7h nilSl X5C QQ resT X34 XL RV.litB TV.litB CV.litB gOf X1Q XU upS X5 Xy
theorem Xo {P:Program} {id:Nat} {ops:Array Oper} {s s':HS} {p:Prop} {Q:Exit->HS->Prop} (cs:List CR) (hp:p) (hq:Q .normal s') (h:evc P ops ops.toList s cs=some (s',p):=by simp[*];first|exact⟨rfl,Iff.rfl⟩|exact⟨rfl,trivial⟩|rfl):HT P (.region id ops false) s Q:=Wj cs h hp hq
theorem X4 {s s':HS} (Y:Nat->Nat) (nils:List Nat) (hn:s'.nt=s.nt:=by rfl)
  (hr:WY (fun k r=>r.okNil nils=true/\opd s.regs (.tmp k)=r.ren (X0m Y) nils) s'.regs:=by simp[upS,X5, *])
  (ho:WY (fun n o=>if nils.contains n then(match o with| .row _ sz []=>0<sz|_=>False)else o.okNil nils=true/\lkp s.objs (X0m Y n)=some (o.ren (X0m Y) nils)) s'.objs:=by simp[*,upS])
  (hi:WY (fun n _=>WY (fun m _=>n=m\/X0m Y n≠X0m Y m\/nils.contains n=true\/nils.contains m=true) s'.objs) s'.objs:=by simp[upS])
  (hp:nils.all (fun n=>decide (n<1000000))=true:=by rfl):le s s':=Xl Y nils hn hr ho hi hp
theorem X1 {P:Program} {id:Nat} {ops:Array Oper} {y:Code} {s s':HS} {Q:Exit->HS->Prop} (hq:X8H P y Q .normal s') (h:evs P ops ops.toList s=some s':=by simp[*];rfl):HT P (.seq (.region id ops false) y) s Q:=X0 (Xp h hq)
theorem Xk {P:Program} {id:Nat} {ops:Array Oper} {y:Code} {s s':HS} {p:Prop} {Q:Exit->HS->Prop} (cs:List CR) (hp:p) (hq:X8H P y Q .normal s') (h:evc P ops ops.toList s cs=some (s',p):=by simp[*];first|exact⟨rfl,Iff.rfl⟩|exact⟨rfl,trivial⟩|rfl):HT P (.seq (.region id ops false) y) s Q:=X0 (Wj cs h hp hq)
theorem Xf {P:Program} {rs:List ResultVar} {s:HS} {fresh:Bool} {r:RV} {d:Nat} {Q:Exit->HS->Prop} {ts:List TV} (hQ:(∃s2,le s s2/\RetOK P rs s2 fresh r none d)->Q .ret s:=by exact fun h=>⟨.inr rfl,h⟩) (hr:X34 P s rs=some ts:=by simp[*];rfl)
  (he:r=XL ts:=by first|rfl|(simp[*];done)|(simp only[XL];(repeat' split)<;>first|rfl|(exfalso;omega)|simp_all)) (hl:fresh=true->r.litB=true:=by simp):HT P .ret s Q:=HT_retA hQ hr he hl
theorem Xc {P:Program} {c:Operand} {x:Code} {s:HS} {Q:Exit->HS->Prop} {t:Bool} (hc:opd s.regs c=.v (.one (.c (.lit (.bool t))))) (ht:t=true->HT P x s Q) (hf:t=false->Q .normal s):HT P (.cond c x .skip) s Q:=X8 hc ht fun h=>Xb (hf h)
theorem X6 {P:Program} {f:FuncId} {fn:Func} {c:Code} {args:List TV} {fresh:Bool} {r:RV} {ob:Option Ob} {d:Nat} (hf:P.funcs[f]? =some fn)
  (h:HT P c ⟨fn.ntmps,QQ 0 args,[]⟩ (fun e s'=>(e=.normal\/e=.ret)/\∃s2,le s' s2/\RetOK P fn.results.toList s2 fresh r ob d)) (hb:fn.body=some c:=by exact rfl) (hcall:Q5 P f=true:=by kernel_rfl) (hnt:args.length<=fn.ntmps:=by exact NH rfl):Con P f fresh args r ob d:=Xd3 hf hb hcall hnt h
theorem N0 {P:Program} {id:Nat} {ops:Array Oper} {s s':HS} {Q:Exit->HS->Prop} (hq:Q .normal s') (hm:P.follows .mixedOrders=true:=by kernel_rfl) (hd:drawB ops=true:=by kernel_rfl) (hc:X0B ops.toList s=true:=by rfl) (h:evs P ops ops.toList s=some s':=by simp[*];rfl):HT P (.region id ops true) s Q:=Q7 hm hd hc h hq
inductive RunsF (P:Program) (ops:Array Oper):List Oper->HS->(HS->Prop)->Prop
 |done {l:List Oper} {s:HS} {K:HS->Prop}:wpR P ops l s K->RunsF P ops l s K
 |cut {l:List Oper} {s s1 s2:HS} {K:HS->Prop} (k:Nat):wpR P ops (l.take k) s (fun t=>t=s1)->le s1 s2->RunsF P ops (l.drop k) s2 K->RunsF P ops l s K
section
variable {P:Program} {w0:World} {B:Nat->Prop} {U:Nat->Option Value}
theorem X4c (k n m:Nat):List.range' k (n+m)=List.range' k n++List.range' (k+n) m:=by
 apply NN;intro j;by_cases hj:j<n
 .rw[Ns (by simpa using hj),Dv (by omega),Dv (by omega)]
 rw[Nn (by simp;omega)];simp only[List.length_range'];by_cases hm:j<n+m
 .rw[Dv (by omega),Dv (by omega)];congr 1;omega
 rw[Nx (by simp;omega),Nx (by simp;omega)]
theorem RunsF.cutE {ops:Array Oper} {l:List Oper} {s s1 s2:HS} {p:Prop} {K:HS->Prop} (k:Nat) (cs:List CR) (h:evc P ops (l.take k) s cs=some (s1,p)) (hp:p) (hle:le s1 s2) (hr:RunsF P ops (l.drop k) s2 K):RunsF P ops l s K:=
 .cut k (QZ _ _ _ _ _ h hp rfl) hle hr
theorem RunsF.doneE {ops:Array Oper} {l:List Oper} {s s1:HS} {p:Prop} {K:HS->Prop} (cs:List CR) (h:evc P ops l s cs=some (s1,p)) (hp:p) (hq:K s1):RunsF P ops l s K:=
 .done (QZ _ _ _ _ _ h hp hq)
end
theorem CV.menB_frz {d n:Nat} {c:CD} {x:CV} (h:(x.frz n c).menB d=true):x.menB d=true:=by
 induction x with
 |gd b x ih=>exact ih h
 |any=>exact h
 |c e=>exact h
 | own m=>
   simp only[CV.frz]at h;split at h
   .simp[CV.menB]at h
   exact h
 | at_ m off=>
   simp only[CV.frz]at h;split at h
   .split at h<;>simp[CV.menB]at h
   exact h
 | el m s' i off=>
   simp only[CV.frz]at h;split at h
   .simp[CV.menB]at h
   exact h
 | sub m i=>
   simp only[CV.frz]at h;split at h
   .simp[CV.menB]at h
   exact h
 | el2 m s' i j off=>
   simp only[CV.frz]at h;split at h
   .simp[CV.menB]at h
   exact h
 | fn f caps=>
   simp only[CV.frz]at h;split at h
   .simp[CV.menB]at h
   exact h
theorem TV.menB_frz {d n:Nat} {c:CD} {x:TV} (h:(x.frz n c).menB d=true):x.menB d=true:=by
 cases x with
 |one x=>exact CV.menB_frz h
 | agg xs=>
   simp only[TV.frz,TV.menB,List.any_map,List.any_eq_true,Function.comp]at h⊢;obtain⟨y,h1,h2⟩:=h;exact⟨y,h1,CV.menB_frz h2⟩
theorem RV.menB_frz {d n:Nat} {c:CD} {x:RV} (h:(x.frz n c).menB d=true):x.menB d=true:=by
 cases x with
 |v x=>exact TV.menB_frz h
 | tup xs=>
   simp only[RV.frz,RV.menB,List.any_map,List.any_eq_true,Function.comp]at h⊢;obtain⟨y,h1,h2⟩:=h;exact⟨y,h1,TV.menB_frz h2⟩
theorem Ob.menB_frz {d n:Nat} {c:CD} {x:Ob} (h:(x.frz n c).menB d=true):x.menB d=true:=by
 cases x with
 | box xs=>
   simp only[Ob.frz,Ob.menB,List.any_map,List.any_eq_true,Function.comp]at h⊢;obtain⟨y,h1,h2⟩:=h;exact⟨y,h1,CV.menB_frz h2⟩
 |row _ _ _=>exact h
 |mp _=>exact h
 |mat _ _ _ _=>exact h
 |refs _ _=>exact h
 |mps _ _=>exact h
 |it _ _=>exact h
section
variable {P:Program} {ops:Array Oper}
theorem X1y {l:List Nat} {i:Nat} (hs:l.Pairwise (· < ·)) (hi:i∈l):∃a b,l=a++i::b/\l.filter (fun j=>decide (j≠i))=a++b/\(∀j∈a,j<i)/\∀j∈b,i<j:=by
 obtain⟨a,b,rfl⟩:=List.append_of_mem hi;obtain⟨h1,h2,h3⟩:=List.pairwise_append.1 hs;have h2':=(NQ.1 h2).1;have h3':∀j∈a,j<i:=fun j hj=>h3 j hj i (by simp);refine⟨a,b,rfl,?_,h3',h2'⟩;rw[Dl,List.filter_cons];simp only[ne_eq,not_true_eq_false,decide_false,Nz,Nc];rw[DB.2 fun j hj=>by simp;exact Nat.ne_of_lt (h3' j hj),DB.2 fun j hj=>by simp;exact Nat.ne_of_gt (h2' j hj)]
theorem X3w {listed:Array Bool} {i:Nat} (hsz:listed.size=ops.size) (hi:i∈Xr ops listed):Xr ops (listed.setIfInBounds i true)=(Xr ops listed).filter (fun j=>decide (j≠i)):=by
 have hii:i<listed.size:=by rw[hsz];exact(XR.1 hi).1
 unfold Xr;rw[List.filter_filter];apply List.filter_congr;intro j hj;by_cases e:j=i
 .subst e;simp[hii]
 simp only[Nu,NI (Ne.symm e)];simp[e]
end
def rbB:Ob->Bool
 | .box _=>true
 | .row _ _ _=>true
 | .mp _=>true
 | .mat _ _ _ _=>true
 |_=>false
def Qc (dom:List Nat):CV->Bool
 | .any=>true
 | .c _=>true
 | .own n=>dom.contains n
 | .at_ n _=>dom.contains n
 | .fn _ caps=>caps.all fun p=>dom.contains p.1
 |_=>false
def QR (dom:List Nat):Ob->Bool
 | .box cs=>cs.all (Qc dom)
 | .row _ _ _=>true
 | .mp _=>true
 | .mat _ _ _ _=>true
 |_=>false
def okTV (dom:List Nat):TV->Bool
 | .one x=>Qc dom x
 | .agg xs=>xs.all (Qc dom)
def X38 (dom:List Nat):RV->Bool
 | .v t=>okTV dom t
 | .tup ts=>ts.all (okTV dom)
def X46 (P:Program) (f:FuncId) (objs:List (Nat×Ob)) (args:List TV) (r:RV) (objs':List (Nat×Ob)):Prop:=
 Q5 P f=true/\∀(F:Nat->Prop) (T:Nat->Value) (w:World) (vs:Array Value),HeapRel w (ownB T objs w) (fun _=>none) F T objs w->vs.size=args.length->
  (∀(j:Nat) t u,args[j]? =some t->vs[j]? =some u->XI F T w t u)->
  Calls P f vs w fun x w'=>∃(v:Value) (N:Nat->Prop) (T':Nat->Value),x=.returned v/\Kept (ownB T objs w) w w'/\(∀c,N c->¬ownB T objs w c/\c<w'.heap.size)/\Xa (fun c=>F c\/N c) T' w' r v/\
   HeapRel w (ownB T objs w) (fun _=>none) (fun c=>F c\/N c) T' objs' w'/\∀n cs,lkp objs n=some (.box cs)->T' n=T n
section
variable {P:Program} {F:Nat->Prop} {T T':Nat->Value} {w w' w0:World} {B:Nat->Prop} {U:Nat->Option Value}
theorem HeapRel.nopin {objs:List (Nat×Ob)} (h:HeapRel w0 B U F T objs w):HeapRel w0 B (fun _=>none) F T objs w:=
 ⟨h.below,h.hB,h.fsz,h.ob,h.apart,h.sep,fun n v hv=>by cases hv⟩
theorem X8L {f:FuncId} {fn:Func} {c:Code} {objs objs':List (Nat×Ob)} {args:List TV} {r:RV} (hf:P.funcs[f]? =some fn) (hb:fn.body=some c) (hcall:Q5 P f=true) (hnt:args.length<=fn.ntmps)
  (hpin:∀n cs,lkp objs n=some (.box cs)->1000000<=n)
  (h:HT P c ⟨fn.ntmps,QQ 0 args,objs⟩ (fun e s'=>(e=.normal\/e=.ret)/\∃s2,le s' s2/\(∃ts,X34 P s2 fn.results.toList=some ts/\r=XL ts)/\∀n o,lkp objs' n=some o->lkp s2.objs n=some o)):X46 P f objs args r objs':=by
 refine⟨hcall,fun F T w vs hh hsz hargs=>?_⟩
 let π0:Nat->Option Value:=fun n=>match lkp objs n with
  |some (.box _)=>some (T n)
  |_=>none
 have hh0:HeapRel w (ownB T objs w) π0 F T objs w:=⟨hh.below,hh.hB,hh.fsz,hh.ob,hh.apart,hh.sep,fun n v hv=>by
  simp only[π0]at hv;split at hv
  .rename_i cs hl;cases hv;exact⟨hpin n cs hl,rfl⟩
  cases hv⟩
 have hrel:Rel w (ownB T objs w) π0 F T ⟨fn.ntmps,QQ 0 args,objs⟩ {tmps:=vs++Array.replicate (fn.ntmps - vs.size) undef,defers:=[]} w:=by
  refine⟨hh0,rfl,by simp;omega,fun k r hl=>?_⟩;obtain⟨h1,t,ht,rfl⟩:=Ze args 0 k r hl;have hk:k<vs.size:=by rw[hsz];exact(N5.1 ht).1
  have hv:(vs++Array.replicate (fn.ntmps - vs.size) undef).getD k undef=vs[k]:=by
   rw[Nu,D5 hk];simp[hk]
  rw[hv];exact hargs (k - 0) t vs[k] ht (by simp[hk])
 refine calls_of_wp hf hb (wp_mono (h w _ _ F T _ w hrel) ?_);rintro x a' w' ⟨s',F1,γ1,⟨he,s2,hle,⟨ts,hts,rfl⟩,hobjs⟩,h1,h2,hr'⟩;obtain⟨F2,γ2,h3,h4,hr2⟩:=hle w _ _ F1 γ1 a' w' hr';obtain⟨us,hus,hul,huc⟩:=Zz hr2 hts
 have hFF:∀c,F2 c->F c\/(F2 c/\¬ownB T objs w c):=by
  intro c hc;rcases h4 c hc with h5|h5
  .rcases h2 c h5 with h6|h6
   .exact .inl h6
   exact .inr ⟨hc,h6⟩
  exact .inr ⟨hc,h5⟩
 have hEq:(fun c=>F c\/(F2 c/\¬ownB T objs w c))=F2:=by
  funext c
  refine propext ⟨fun h=>?_,hFF c⟩;rcases h with h|h
  .exact h3 c (h1 c h)
  exact h.1
 have hres:∃v,(results fn a'.tmps).run P w'=.ok v w'/\Xa F2 γ2 w' (XL ts) v:=by
  rw[X07,Sem.run_bind,hus,Result.andThen_ok];refine⟨_,rfl,?_⟩
  match ts,us,hul,huc with
  |[],[],_,_=>exact⟨#[],rfl,rfl,by simp⟩
  |[t],[u],_,hc=>exact hc 0 t u rfl rfl
  |t1::t2::ts,u1::u2::us,hl,hc=>exact⟨(u1::u2::us).toArray,by simp,by simpa using hl,fun j t u ht hu=>hc j t u ht (by simpa using hu)⟩
 obtain⟨v,hv,hvr⟩:=hres
 have key:a'.defers=[]/\∃v,(results fn a'.tmps).run P w'=.ok v w'/\∃(v2:Value) (N:Nat->Prop) (T':Nat->Value),Ending.returned v=.returned v2/\Kept (ownB T objs w) w w'/\
   (∀c,N c->¬ownB T objs w c/\c<w'.heap.size)/\Xa (fun c=>F c\/N c) T' w' (XL ts) v2/\
   HeapRel w (ownB T objs w) (fun _=>none) (fun c=>F c\/N c) T' objs' w'/\∀n cs,lkp objs n=some (.box cs)->T' n=T n:=by
  refine⟨hr2.defers,v,hv,v,fun c=>F2 c/\¬ownB T objs w c,γ2,rfl,hr2.heap.below,fun c hc=>⟨hc.2,hr2.heap.fsz c hc.1⟩,hvr.mono hFF fun _ _=>rfl,?_,fun n cs hl=>?_⟩
  .rw[hEq];exact(hr2.heap.less hobjs).nopin
  exact(hr2.heap.pin n (T n) (by simp only[π0,hl])).2
 rcases he with rfl|rfl
 .exact key
 exact key
theorem Xs.agree {x:CV} {v:Value} (hm:∀n,x.men n->T' n=T n) (h:Xs F T w x v):Xs F T' w x v:=by
 induction x with
 |gd b x ih=>exact⟨fun hb=>ih hm (h.1 hb),h.2⟩
 |any=>exact h
 |c d=>exact h
 |own n=>simp only[Xs]at*;rw[hm n rfl];exact h
 |at_ n off=>simp only[Xs]at*;rw[hm n rfl];exact h
 |el n s i off=>simp only[Xs]at*;rw[hm n rfl];exact h
 |sub n i=>simp only[Xs]at*;rw[hm n rfl];exact h
 |el2 n s i j off=>simp only[Xs]at*;rw[hm n rfl];exact h
 | fn f caps=>
   obtain⟨vs,hv,hl,hc⟩:=h;refine⟨vs,hv,hl,fun j p u hp hu=>?_⟩;rw[hm p.1 ⟨p,N3 hp,rfl⟩];exact hc j p u hp hu
theorem Xq.agree {xs:List CV} {vs:Array Value} (hm:∀n,(∃x∈xs,x.men n)->T' n=T n) (h:Xq F T w xs vs):Xq F T' w xs vs:=
 ⟨h.1,fun j x u hx hu=>(h.2 j x u hx hu).agree fun n hn=>hm n ⟨x,N3 hx,hn⟩⟩
theorem XI.agree {x:TV} {v:Value} (hm:∀n,x.men n->T' n=T n) (h:XI F T w x v):XI F T' w x v:=by
 cases x with
 |one x=>exact Xs.agree hm h
 |agg xs=>obtain⟨vs,rfl,hc⟩:=h;exact⟨vs,rfl,hc.agree hm⟩
theorem Xa.agree {x:RV} {v:Value} (hm:∀n,x.men n->T' n=T n) (h:Xa F T w x v):Xa F T' w x v:=by
 cases x with
 |v t=>exact XI.agree hm h
 | tup ts=>
   obtain⟨vs,rfl,hs,hc⟩:=h;exact⟨vs,rfl,hs,fun j t u ht hu=>(hc j t u ht hu).agree fun n hn=>hm n ⟨t,N3 ht,hn⟩⟩
theorem Q0.agree {x:Value} {o:Ob} (hm:∀n,o.men n->T' n=T n) (h:Q0 F T w B x o):Q0 F T' w B x o:=by
 cases o with
 |box cs=>obtain⟨b,e,vs,rfl,hb,hh,hc⟩:=h;exact⟨b,e,vs,rfl,hb,hh,hc.agree hm⟩
 |row e s rows=>exact h
 |mp l=>exact h
 |mat e e' s rows=>exact h
 | refs e ns=>
   obtain⟨b,rfl,hb,hh⟩:=h;refine⟨b,rfl,hb,?_⟩;rw[hh];congr 3;refine List.map_congr_left fun n hn=>?_;rw[hm n hn]
 |mps e ms=>exact h
 |it l seen=>exact h
theorem X0S (x:CV):x.okNil []=true:=by
 induction x with
 |gd b x ih=>exact ih
 |_=>simp[CV.okNil]
theorem X75 {Y:Nat->Nat} {cs:List CV} {vs:Array Value} (h:Xq F T w (cs.map (CV.ren Y [])) vs):Xq F (fun n=>T (Y n)) w cs vs:=by
 refine⟨by simpa using h.1,fun j x u hx hu=>?_⟩;exact Xs.ren (Y:=Y) (nils:=[]) (fun n _=>rfl) (fun n hn=>by cases hn) (X0S x) (h.2 j (x.ren Y []) u (by simp[hx]) hu)
theorem X5L {I:Nat->Nat} {dom:List Nat} {x:CV} {v:Value} (hd:∀n,dom.contains n=true->T' (I n)=T n) (ho:Qc dom x=true) (h:Xs F T w x v):Xs F T' w (x.ren I []) v:=by
 cases x with
 |any=>trivial
 |c d=>exact h
 | own n=>
   simp only[Qc]at ho;simp only[CV.ren,List.contains_nil,Nz,Nc,Xs]at*;rw[hd n ho];exact h
 | at_ n off=>
   simp only[Qc]at ho;simp only[CV.ren,List.contains_nil,Nz,Nc,Xs]at*;rw[hd n ho];exact h
 | fn f caps=>
   simp only[Qc,Nm]at ho;obtain⟨vs,hv,hl,hc⟩:=h;refine⟨vs,hv,by simpa using hl,fun j p u hp hu=>?_⟩;rw[Np]at hp;simp only[N8]at hp;obtain⟨q,hq,rfl⟩:=hp;simp only;rw[hd q.1 (ho q (N3 hq))];exact hc j q u hq hu
 |_=>cases ho
theorem tv_out {I:Nat->Nat} {dom:List Nat} {x:TV} {v:Value} (hd:∀n,dom.contains n=true->T' (I n)=T n) (ho:okTV dom x=true) (h:XI F T w x v):XI F T' w (x.ren I []) v:=by
 cases x with
 |one x=>exact X5L hd ho h
 | agg xs=>
   obtain⟨vs,rfl,hs,hc⟩:=h;refine⟨vs,rfl,by simpa using hs,fun j y u hy hu=>?_⟩;rw[Np]at hy;simp only[N8]at hy;obtain⟨z,hz,rfl⟩:=hy;simp only[okTV,Nm]at ho;exact X5L hd (ho z (N3 hz)) (hc j z u hz hu)
theorem rv_out {I:Nat->Nat} {dom:List Nat} {x:RV} {v:Value} (hd:∀n,dom.contains n=true->T' (I n)=T n) (ho:X38 dom x=true) (h:Xa F T w x v):Xa F T' w (x.ren I []) v:=by
 cases x with
 |v t=>exact tv_out hd ho h
 | tup ts=>
   obtain⟨vs,rfl,hs,hc⟩:=h;refine⟨vs,rfl,by simpa using hs,fun j y u hy hu=>?_⟩;rw[Np]at hy;simp only[N8]at hy;obtain⟨z,hz,rfl⟩:=hy;simp only[X38,Nm]at ho;exact tv_out hd (ho z (N3 hz)) (hc j z u hz hu)
theorem mat_B {B':Nat->Prop} {e e':TypeId} {s:Nat} {x:Value} {rows:List (Option (List (List CD)))} (h:Q0 F T w B x (.mat e e' s rows)) (hB:∀b,Blk x b->¬B' b):Q0 F T' w B' x (.mat e e' s rows):=by
 obtain⟨o,is,rfl,h0,hl,⟨xs,⟨hxl,hown⟩,hxs⟩,hin,hd1,hd2⟩:=h;have hbk:∀v∈o::is,∀b,blk v=some b->¬B' b:=fun v hv b hb=>hB b ⟨v,by simpa using hv,hb⟩;refine⟨o,is,rfl,h0,hl,⟨xs,⟨hxl,hown.imp id ?_⟩,hxs⟩,fun i v r hv hr=>?_,hd1,hd2⟩
 .rintro⟨g,oo,cap,cur,rfl,_,Xr⟩;exact⟨g,oo,cap,cur,rfl,hbk _ List.mem_cons_self g rfl,Xr⟩
 have h1:=hin i v r hv hr;cases r with
 |none=>exact h1
 |some rr=>exact row_B h1 (hbk v (NS _ (N3 hv)))
theorem ob_out {I:Nat->Nat} {dom:List Nat} {B':Nat->Prop} {x:Value} {o:Ob} (hd:∀n,dom.contains n=true->T' (I n)=T n) (ho:QR dom o=true) (hB:∀b,¬B b->¬B' b) (h:Q0 F T w B x o):Q0 F T' w B' x (o.ren I []):=by
 cases o with
 | box cs=>
   obtain⟨b,e,vs,rfl,hb,hh,hc⟩:=h;refine⟨b,e,vs,rfl,hB b hb,hh,by simpa using hc.1,fun j y u hy hu=>?_⟩;rw[Np]at hy;simp only[N8]at hy;obtain⟨z,hz,rfl⟩:=hy;simp only[QR,Nm]at ho;exact X5L hd (ho z (N3 hz)) (hc.2 j z u hz hu)
 | row e s rows=>
   have hrow:Xv F w B e s x rows:=h;obtain⟨xs,hown⟩:=Xv.own hrow;exact row_B hrow fun b hb=>hB b (hown.blk_lt hb).1
 | mp l=>
   obtain⟨b,es,clock,h1,h2,h3⟩:=h;exact⟨b,es,clock,h1,hB b h2,h3⟩
 |mat e e' s rows=>exact mat_B h fun b hb=>hB b (h.blk_lt hb).1
 |_=>cases ho
def XJ (I:Nat->Nat):List (Nat×Ob)->List (Nat×Ob)->List (Nat×Ob)
 |[],b=>b
 |(n,o)::l,b=>ins (I n) (o.ren I []) (XJ I l b)
theorem X01 {I:Nat->Nat} {b:List (Nat×Ob)} {m:Nat} {o:Ob}:∀{l:List (Nat×Ob)},lkp (XJ I l b) m=some o->
  (∃n o',lkp l n=some o'/\I n=m/\o=o'.ren I [])\/((∀n o',lkp l n=some o'->I n≠m)/\lkp b m=some o)
 |[],h=>.inr ⟨fun n o' h=>(by cases h),h⟩
 | (k,x)::l,h=>by
   simp only[XJ]at h;rw[XQ]at h;split at h
   .rename_i e;cases h;exact .inl ⟨k,x,by simp[lkp],e.symm,rfl⟩
   rename_i e;rcases X01 h with⟨n,o',h1,h2,h3⟩|⟨h1,h2⟩
   .refine .inl ⟨n,o',?_,h2,h3⟩;have:¬k=n:=fun hk=>e (by rw[hk,h2]);simp[lkp,this,h1]
   refine .inr ⟨fun n o' hn=>?_,h2⟩;simp only[lkp]at hn;split at hn
   .rename_i hk;rw[<-hk];exact fun h=>e h.symm
   exact h1 n o' hn
def invS (I:Nat->Nat):List (Nat×Ob)->Nat->Option Nat
 |[],_=>none
 |(n,_)::l,m=>if I n=m then some n else invS I l m
theorem X92 {I:Nat->Nat} {m n:Nat}:∀{l:List (Nat×Ob)},invS I l m=some n->I n=m/\∃o,lkp l n=some o
 |[],h=>by cases h
 | (k,x)::l,h=>by
   simp only[invS]at h;split at h
   .rename_i e;cases h;exact⟨e,x,by simp[lkp]⟩
   obtain⟨h1,o,h2⟩:=X92 h;refine⟨h1,?_⟩;by_cases e:k=n
   .exact⟨x,by simp[lkp,e]⟩
   exact⟨o,by simp[lkp,e,h2]⟩
theorem Xbd {I:Nat->Nat} {n:Nat} {o:Ob}:∀{l:List (Nat×Ob)},(∀a b oa ob,lkp l a=some oa->lkp l b=some ob->a≠b->I a≠I b)->lkp l n=some o->invS I l (I n)=some n
 |[],_,h=>by cases h
 | (k,x)::l,hi,h=>by
   simp only[invS];split
   .rename_i e;by_cases hk:k=n
    .rw[hk]
    exact absurd e (hi k n x o (by simp[lkp]) h hk)
   rename_i e;have hk:¬k=n:=fun hk=>e (by rw[hk]);have h':lkp l n=some o:=by simpa[lkp,hk]using h
   refine Xbd (fun a b oa ob ha hb hne=>?_) h'
   obtain⟨oa',ha'⟩:∃o,lkp ((k,x)::l) a=some o:=by
    by_cases e:k=a
    .exact⟨x,by simp[lkp,e]⟩
    exact⟨oa,by simp[lkp,e,ha]⟩
   obtain⟨ob',hb'⟩:∃o,lkp ((k,x)::l) b=some o:=by
    by_cases e:k=b
    .exact⟨x,by simp[lkp,e]⟩
    exact⟨ob,by simp[lkp,e,hb]⟩
   exact hi a b oa' ob' ha' hb' hne
structure HandS (Y I:Nat->Nat) (objs objs':List (Nat×Ob)) (s:HS):Prop where
 at_:∀n o,lkp objs n=some o->lkp s.objs (Y n)=some (o.ren Y [])
 rb:∀n o,lkp objs n=some o->rbB o=true
 inj:∀n m on om,lkp objs n=some on->lkp objs m=some om->n≠m->Y n≠Y m
 inj':∀n m on om,lkp objs' n=some on->lkp objs' m=some om->n≠m->I n≠I m
 out:∀n o,lkp objs' n=some o->QR (objs'.map (·.1)) o=true
 box:∀n cs,lkp objs' n=some (.box cs)->(I n=Y n/\∃cs0,lkp objs n=some (.box cs0))\/Wb (I n) s=true
 oth:∀n o,lkp objs' n=some o->(∀cs,o≠ .box cs)->Wb (I n) s=true
theorem QG {Y I:Nat->Nat} {objs objs':List (Nat×Ob)} {s:HS} (h1:∀p∈objs,lkp s.objs (Y p.1)=some (p.2.ren Y [])/\rbB p.2=true) (h2:∀p∈objs,∀q∈objs,p.1≠q.1->Y p.1≠Y q.1) (h3:∀p∈objs',∀q∈objs',p.1≠q.1->I p.1≠I q.1)
  (h4:∀p∈objs',QR (objs'.map (·.1)) p.2=true) (h5:∀p∈objs',match p.2 with| .box _=>(I p.1=Y p.1/\∃cs0,lkp objs p.1=some (.box cs0))\/Wb (I p.1) s=true|_=>Wb (I p.1) s=true):HandS Y I objs objs' s where
 at_ n o h:=(h1 _ (XC h)).1
 rb n o h:=(h1 _ (XC h)).2
 inj n m on om hn hm hne:=h2 _ (XC hn) _ (XC hm) hne
 inj' n m on om hn hm hne:=h3 _ (XC hn) _ (XC hm) hne
 out n o h:=h4 _ (XC h)
 box n cs h:=h5 _ (XC h)
 oth n o h hb:=by
  have:=h5 _ (XC h);cases o with
  |box cs=>exact absurd rfl (hb cs)
  |_=>exact this
theorem HandS.heap {Y I:Nat->Nat} {objs objs':List (Nat×Ob)} {s:HS} (hd:HandS Y I objs objs' s) (h:HeapRel w0 B U F T s.objs w):
  HeapRel w (ownB (fun n=>T (Y n)) objs w) (fun _=>none) F (fun n=>T (Y n)) objs w where
 below:=Kept.refl _ _
 hB b hb:=hb.1
 fsz:=h.fsz
 ob n o ho:=by
  have h1:=h.ob _ _ (hd.at_ n o ho);have h2:=hd.rb n o ho;cases o with
  | row e s rows=>
    have h1:Xv F w B e s (T (Y n)) rows:=h1;exact row_B h1 fun b hb hx=>hx.2 ⟨n,_,ho,(Wg (Xv.sl h1)).2 hb⟩
  | box cs=>
    obtain⟨b,e,vs,hx,hB,hh,hc⟩:=h1;exact⟨b,e,vs,hx,fun hb=>hb.2 ⟨n,_,ho,by rw[show(fun n=>T (Y n)) n=T (Y n) from rfl,hx];rfl⟩,hh,X75 hc⟩
  | mp l=>
    obtain⟨b,es,clock,hx,hB,h3⟩:=h1;exact⟨b,es,clock,hx,fun hb=>hb.2 ⟨n,_,ho,by rw[show(fun n=>T (Y n)) n=T (Y n) from rfl,hx];rfl⟩,h3⟩
  |mat e e' s rows=>exact mat_B h1 fun b hb hx=>hx.2 ⟨n,_,ho,hb⟩
  |_=>cases h2
 apart n o ho b hb:=h.apart _ _ (hd.at_ n o ho) b hb
 sep n m on om hn hm hne b hb hb':=h.sep _ _ _ _ (hd.at_ n on hn) (hd.at_ m om hm) (hd.inj n m on om hn hm hne) b hb hb'
 pin n v hv:=by cases hv
theorem HandS.after {Y I:Nat->Nat} {objs objs':List (Nat×Ob)} {s:HS} (hd:HandS Y I objs objs' s) (h:HeapRel w0 B U F T s.objs w) (hk:Kept (ownB (fun n=>T (Y n)) objs w) w w') {N:Nat->Prop}
  (hN:∀c,N c->¬ownB (fun n=>T (Y n)) objs w c/\c<w'.heap.size) (hh:HeapRel w (ownB (fun n=>T (Y n)) objs w) (fun _=>none) (fun c=>F c\/N c) T' objs' w') (hbx:∀n cs,lkp objs n=some (.box cs)->T' n=T (Y n)):
  (∀b,N b->¬B b)/\(∀c,F c->w'.heap[c]? =w.heap[c]?)/\∃γ2:Nat->Value,HeapRel w0 B U (fun c=>F c\/N c) γ2 (XJ I objs' (XU (objs.map fun p=>Y p.1) s.objs)) w'/\(∀n,(objs'.map (·.1)).contains n=true->γ2 (I n)=T' n)/\∀r:RV,(∃k,lkp s.regs k=some r)->∀n,r.men n->γ2 n=T n:=by
 have own:∀b,X1Z (fun n=>T (Y n)) objs b->∃n o,lkp objs n=some o/\lkp s.objs (Y n)=some (o.ren Y [])/\Blk (T (Y n)) b:=by
  rintro b ⟨n,o,ho,hb⟩;exact⟨n,o,ho,hd.at_ n o ho,hb⟩
 have hBo:∀b,B b->ownB (fun n=>T (Y n)) objs w b:=by
  intro b hb;refine⟨h.hB b hb,fun ho=>?_⟩;obtain⟨n,o,_,h1,h2⟩:=own b ho;exact((h.ob _ _ h1).blk_lt h2).1 hb
 have hNB:∀b,N b->¬B b:=fun b hb hx=>(hN b hb).1 (hBo b hx)
 have hF:∀c,F c->w'.heap[c]? =w.heap[c]? :=fun c hc=>hk.block c ⟨h.fsz c hc,fun ho=>by
  obtain⟨n,o,_,h1,h2⟩:=own c ho
  exact h.apart _ _ h1 c h2 hc⟩
 let γ2:Nat->Value:=fun m=>match invS I objs' m with
  |some n=>T' n
  |none=>T m
 have hin:∀n o,lkp objs' n=some o->γ2 (I n)=T' n:=by
  intro n o hl;simp only[γ2,Xbd hd.inj' hl]
 have hinD:∀n,(objs'.map (·.1)).contains n=true->γ2 (I n)=T' n:=by
  intro n hn
  have hex:∀l:List (Nat×Ob),(l.map (·.1)).contains n=true->∃o,lkp l n=some o:=by
   intro l
   induction l with
   |nil=>intro h;simp at h
   | cons p l ih=>
     intro h;by_cases e:p.1=n
     .exact⟨p.2,by simp[lkp,e]⟩
     have:(l.map (·.1)).contains n=true:=by
      simp only[Ni,List.contains_cons,Nl,beq_iff_eq]at h;exact h.resolve_left (fun h=>e h.symm)
     obtain⟨o,ho⟩:=ih this;exact⟨o,by simp[lkp,e,ho]⟩
  obtain⟨o,ho⟩:=hex _ hn;exact hin n o ho
 -- where the names differ, nothing old is mentioned
 have hout:∀m,γ2 m=T m\/Wb m s=true:=by
  intro m;simp only[γ2];split
  .rename_i n hn;obtain⟨h1,o,h2⟩:=X92 hn;cases o with
   | box cs=>
     rcases hd.box n cs h2 with⟨h3,cs0,h4⟩|h3
     .exact .inl (by rw[hbx n cs0 h4,<-h3,h1])
     exact .inr (by rw[<-h1];exact h3)
   |_=>exact .inr (by rw[<-h1];exact hd.oth n _ h2 (by simp))
  exact .inl rfl
 have hold:∀m o,lkp s.objs m=some o->γ2 m=T m/\∀n,o.men n->γ2 n=T n:=by
  intro m o hl;refine⟨(hout m).resolve_right fun hu=>(X04 hu m o (XC hl)).1 rfl,fun n hn=>(hout n).resolve_right fun hu=>(X04 hu m o (XC hl)).2 hn⟩
 have hlk:∀m o,lkp (XU (objs.map fun p=>Y p.1) s.objs) m=some o->lkp s.objs m=some o/\∀n o',lkp objs n=some o'->Y n≠m:=by
  intro m o hl;rw[X4w]at hl;split at hl
  .cases hl
  rename_i hm;exact⟨hl,fun n o' ho e=>hm (NF.2 ⟨(n,o'),XC ho,e⟩)⟩
 have hsep:∀m o,lkp (XU (objs.map fun p=>Y p.1) s.objs) m=some o->∀b,Blk (T m) b->ownB (fun n=>T (Y n)) objs w b:=by
  intro m o hl b hb;obtain⟨h1,h2⟩:=hlk m o hl;refine⟨((h.ob m o h1).blk_lt hb).2,fun ho=>?_⟩;obtain⟨n,o',h3,h4,h5⟩:=own b ho;exact h.sep _ _ _ _ h1 h4 (Ne.symm (h2 n o' h3)) b hb h5
 refine⟨hNB,hF,γ2,?_,hinD,fun r ⟨k,hr⟩ n hn=>(hout n).resolve_right fun hu=>X0X hu (XC hr) hn⟩
 exact {
  below:=h.below.trans ⟨hk.os,hk.tape,hk.output,hk.size,fun c hc=>hk.block c (hBo c hc)⟩
  hB:=fun c hc=>NJ (h.hB c hc) hk.size
  fsz:=fun c hc=>by
   rcases hc with hc|hc
   .exact NJ (h.fsz c hc) hk.size
   exact(hN c hc).2
  ob:=fun m o hl=>by
   rcases X01 hl with⟨n,o',h1,rfl,rfl⟩|⟨h1,h2⟩
   .rw[hin n o' h1];exact ob_out hinD (hd.out n o' h1) (fun b hb hx=>hb (hBo b hx)) (hh.ob n o' h1)
   obtain⟨h3,_⟩:=hlk m o h2;obtain⟨h4,h5⟩:=hold m o h3;rw[h4];have h6:=h.ob m o h3;refine Q0.agree h5 (h6.mono (fun _ h=>.inl h) hF fun c hc=>hk.block c (hsep m o h2 c hc))
  apart:=fun m o hl c hc hFc=>by
   rcases X01 hl with⟨n,o',h1,rfl,rfl⟩|⟨h1,h2⟩
   .rw[hin n o' h1]at hc;exact hh.apart n o' h1 c hc hFc
   obtain⟨h3,_⟩:=hlk m o h2;rw[(hold m o h3).1]at hc;rcases hFc with hFc|hFc
   .exact h.apart m o h3 c hc hFc
   exact(hN c hFc).1 (hsep m o h2 c hc)
  sep:=fun m k om ok hm hk' hne b hb hb'=>by
   rcases X01 hm with⟨n,o',h1,rfl,rfl⟩|⟨h1,h2⟩
   .rw[hin n o' h1]at hb;rcases X01 hk' with⟨n2,o2,g1,rfl,rfl⟩|⟨g1,g2⟩
    .rw[hin n2 o2 g1]at hb';exact hh.sep n n2 o' o2 h1 g1 (fun e=>hne (by rw[e])) b hb hb'
    rw[(hold k ok (hlk k ok g2).1).1]at hb';exact((hh.ob n o' h1).blk_lt hb).1 (hsep k ok g2 b hb')
   rw[(hold m om (hlk m om h2).1).1]at hb;rcases X01 hk' with⟨n2,o2,g1,rfl,rfl⟩|⟨g1,g2⟩
   .rw[hin n2 o2 g1]at hb';exact((hh.ob n2 o2 g1).blk_lt hb').1 (hsep m om h2 b hb)
   rw[(hold k ok (hlk k ok g2).1).1]at hb';exact h.sep m k om ok (hlk m om h2).1 (hlk k ok g2).1 hne b hb hb'
  pin:=fun n v hv=>by
   obtain⟨h1,h2⟩:=h.pin n v hv;refine⟨h1,?_⟩;rw[<-h2];refine(hout n).resolve_right fun hu=>?_;unfold Wb at hu;simp only[N4,N6]at hu
   omega}
def capsT:List TV->List (Nat×Nat)->List TV
 |ts,[]=>ts
 |ts,c::cs=>ts++(c::cs).map fun p=>TV.one (.at_ p.1 p.2)
theorem capsT_eq (ts:List TV) (caps:List (Nat×Nat)):capsT ts caps=ts++caps.map fun p=>TV.one (.at_ p.1 p.2):=by
 cases caps<;>simp[capsT]
def gOfC (s:HS) (o:Oper):Option (FuncId×List TV×Nat):=
 match o.guard,o.op,o.dst with
 | none,.call {callee:=.value x,args:=args, .. },some d=>match opd s.regs x,X1Q (opd s.regs) args.toList with
   | .v (.one (.fn f caps)),some ts=>if XP s (some d)=true then some (f,capsT ts caps,d)else none
   |_,_=>none
 |_,_,_=>none
theorem X7K {s:HS} {a:Act} {ops:Array Oper} {i:Nat} {o:Oper} {f:FuncId} {d:Nat} {objs objs':List (Nat×Ob)} {args:List TV} {Y I:Nat->Nat} {r:RV} {Kc:Act->World->Prop} {Q:Exit->Act->World->Prop} (hi:ops[i]? =some o) (h:Rel w0 B U F T s a w)
  (hc:gOfC s o=some (f,args.map (TV.ren Y []),d)) (hd:HandS Y I objs objs' s) (hcon:X46 P f objs args r objs') (hout:X38 (objs'.map (·.1)) r=true)
  (hK:∀F' γ2 a' w',(∀b,F b->F' b)->(∀b,F' b->F b\/¬B b)->Rel w0 B U F' γ2 (({s with objs:=XJ I objs' (XU (objs.map fun p=>Y p.1) s.objs)}:HS).put (some d) (r.ren I [])) a' w'->Kc a' w'):wpOp P ops Q i Kc a w:=by
 unfold gOfC at hc;split at hc
 .rename_i x as0 ts0 d0 hgd ho hdst;split at hc
  .rename_i f0 caps0 ts hf hts;split at hc
   .rename_i hokd;simp only[Option.some.injEq,Prod.mk.injEq]at hc;obtain⟨rfl,hca,rfl⟩:=hc;obtain⟨hcall,hcon⟩:=hcon;have hx:=h.opd x;rw[hf]at hx;obtain⟨cvs,hv,hcl,hcc⟩:=hx;have hv':a.eval x=.func (.func f0) #[] cvs.toArray:=hv
    have hrun:(execOp a.eval o).run P w=.ok (.enter f0 (as0.map a.eval++cvs.toArray)) w:=by
     unfold Q5 at hcall;split at hcall
     .rename_i fn hfn;simp only[N4,Nw]at hcall;have hnm:¬fn.name= "runtime.NumGoroutine" :=by simpa using hcall.1
      have hnb:¬fn.body=none:=by
       intro hb;rw[hb]at hcall;cases hcall.2
      simp[execOp,ho,resolve,hv',Deferred.ofValue,invoke,callFunc,hfn,hnm,hnb]
     cases hcall
    unfold wpOp;rw[hi];simp only;have hwant:Region.wanted o (yielded ops a.tmps)=true:=by unfold Region.wanted;rw[hgd]
    rw[hwant];simp only[Nf];refine .inl ?_;unfold Oper.wp;rw[hrun,Oper.upon_enter];obtain⟨hlen,hget⟩:=X2C hts;rw[capsT_eq]at hca;have hsz:(as0.map a.eval).size=ts.length:=by rw[Array.size_map,hlen,Array.length_toList]
    refine(hcon F (fun n=>T (Y n)) w (as0.map a.eval++cvs.toArray) (hd.heap h.heap) ?_ fun j t u ht hu=>?_).mono ?_
    .have:=congrArg List.length hca;simp only[N9,NO]at this;simp only[Array.size_append,hsz,List.size_toArray];omega
    .have key:XI F T w (t.ren Y []) u:=by
      have hm:(ts++caps0.map fun p=>TV.one (.at_ p.1 p.2))[j]? =some (t.ren Y []):=by rw[hca];simp[ht]
      by_cases hj:j<ts.length
      .rw[Ns hj]at hm;rw[D5 (by omega)]at hu;obtain⟨y,hy,hgy⟩:=hget j _ hm
       have hu':u=a.eval y:=by
        rw[Array.getElem?_map,<-Array.getElem?_toList,hy]at hu;exact(Option.some.inj hu).symm
       rw[hu'];have:=h.opd y;rw[hgy]at this;exact this
      rw[Nn (D6 hj),Np]at hm;rw[Array.getElem?_append_right (by omega),hsz]at hu;simp only[N8]at hm;obtain⟨p,hp,hpe⟩:=hm;rw[<-hpe];exact hcc _ p u hp (by simpa using hu)
     refine XI.ren (Y:=Y) (nils:=[]) (fun n _=>rfl) (fun n hn=>by cases hn) ?_ key;cases t with
     |one x=>exact X0S x
     |agg xs=>simp only[TV.okNil,Nm];exact fun x _=>X0S x
    rintro x w' ⟨v,N,T',rfl,hk,hN,hr,hh,hbx⟩;obtain⟨h1,h2,γ2,h3,h5,h4⟩:=hd.after h.heap hk hN hh hbx;refine hK (fun c=>F c\/N c) γ2 _ _ (fun _ h=>.inl h) (fun c hc=>hc.imp id fun hc=>h1 c hc) ?_;rw[hdst];exact h.step (objs':=XJ I objs' (XU (objs.map fun p=>Y p.1) s.objs)) hokd h3 (rv_out h5 hout hr) fun k r v hl hr=>Xa.agree (h4 r ⟨k,hl⟩) (hr.mono (fun _ h=>.inl h) h2)
   cases hc
  cases hc
 cases hc
inductive RunsS (P:Program) (ops:Array Oper):List Oper->HS->(HS->Prop)->Prop
 |done {l:List Oper} {s:HS} {K:HS->Prop}:wpR P ops l s K->RunsS P ops l s K
 |cut {l:List Oper} {s s1 s2:HS} {K:HS->Prop} (k:Nat):wpR P ops (l.take k) s (fun t=>t=s1)->le s1 s2->RunsS P ops (l.drop k) s2 K->RunsS P ops l s K
 | call {l:List Oper} {o:Oper} {s:HS} {K:HS->Prop} {f:FuncId} {d:Nat} {objs objs':List (Nat×Ob)} {args:List TV} (Y I:Nat->Nat) {r:RV}:gOfC s o=some (f,args.map (TV.ren Y []),d)->HandS Y I objs objs' s->X46 P f objs args r objs'->X38 (objs'.map (·.1)) r=true->
   RunsS P ops l (({s with objs:=XJ I objs' (XU (objs.map fun p=>Y p.1) s.objs)}:HS).put (some d) (r.ren I [])) K->RunsS P ops (o::l) s K
 |skip {l:List Oper} {o:Oper} {s:HS} {K:HS->Prop} (y:Value):Zi ops o s=some false->XP s o.dst=true->RunsS P ops l (s.put o.dst (.v (.one (.gd false (.c (.lit y)))))) K->RunsS P ops (o::l) s K
theorem skipS {ops:Array Oper} {Q:Exit->Act->World->Prop} {i:Nat} {o:Oper} {s:HS} {a:Act} {w:World} {F:Nat->Prop} {T:Nat->Value} {Kc:Act->World->Prop} (y:Value) (hi:ops[i]? =some o) (h:Rel w0 B U F T s a w) (hg:Zi ops o s=some false) (hok:XP s o.dst=true)
  (hK:∀a',Rel w0 B U F T (s.put o.dst (.v (.one (.gd false (.c (.lit y)))))) a' w->Kc a' w):wpOp P ops Q i Kc a w:=by
 unfold wpOp;rw[hi];simp only;rw[X06 h hg];simp only[Nz,Nc];refine hK _ ?_;exact h.step (dst:=o.dst) (r:=.v (.one (.gd false (.c (.lit y))))) (v:=undef) (objs':=s.objs) hok h.heap ⟨(fun hb=>Bool.noConfusion hb),fun _=>rfl⟩ (fun _ _ _ _ h=>h)
theorem Xcn {ops:Array Oper} {K:HS->Prop} {Q:Exit->Act->World->Prop} {l:List Oper} {s:HS} (h:RunsS P ops l s K):∀(Xr:List Nat) (k:Nat) (F:Nat->Prop) (T:Nat->Value) (a:Act) (w:World),(∀j o,l[j]? =some o->ops[k+j]? =some o)->
  Rel w0 B U F T s a w->(∀s' F' T' a' w',K s'->(∀b,F b->F' b)->(∀b,F' b->F b\/¬B b)->Rel w0 B U F' T' s' a' w'->wpOps P ops Q Xr a' w')->wpOps P ops Q (List.range' k l.length++Xr) a w:=by
 induction h with
 |done hw=>exact fun Xr k F T a w hd hr hK=>Zo _ k _ F T a w hd hr hw hK
 | cut n hw hle _ ih=>
   intro Xr k F T a w hd hr hK;rename_i l s s1 s2 K' _;have hl:l.length=(l.take n).length+(l.drop n).length:=by rw[<-List.length_append,List.take_append_drop]
   rw[hl,X4c,Df];refine Zo (l.take n) k s F T a w (fun j o hj=>?_) hr hw fun s' F1 γ1 a1 w1 hs' h1 h2 hr1=>?_
   .rw[NE]at hj;split at hj
    .exact hd j o hj
    cases hj
   subst hs';obtain⟨F2,γ2,h3,h4,hr2⟩:=hle w0 B U F1 γ1 a1 w1 hr1;refine ih Xr (k+(l.take n).length) F2 γ2 a1 w1 (fun j o hj=>?_) hr2 fun s3 F3 γ3 a3 w3 hk3 h5 h6 hr3=>?_
   .rw[Ny]at hj;have hlt:n+j<l.length:=(N5.1 hj).1;have:=hd (n+j) o hj;rw[NG,Nat.min_eq_left (by omega),DI];exact this
   exact hK s3 F3 γ3 a3 w3 hk3 (fun b hb=>h5 b (h3 b (h1 b hb))) (fun b hb=>(h6 b hb).elim (fun hb=>(h4 b hb).elim (h2 b) .inr) .inr) hr3
 | call Y I hg hd hcon honly _ ih=>
   intro Xr k F T a w hdd hr hK;rename_i l o s K' _ _ _ _ _ _ _;rw[List.length_cons,List.range'_succ,List.cons_append,wpOps_cons];have hi:ops[k]? =some o:=hdd 0 o rfl;refine X7K hi hr hg hd hcon honly fun F2 γ2 a2 w2 h3 h4 hr2=>?_;refine ih Xr (k+1) F2 γ2 a2 w2 (fun j o' hj=>by have:=hdd (j+1) o' hj;rwa [show k+1+j=k+(j+1) by omega]) hr2 fun s3 F3 γ3 a3 w3 hk3 h5 h6 hr3=>?_;exact hK s3 F3 γ3 a3 w3 hk3 (fun b hb=>h5 b (h3 b hb)) (fun b hb=>(h6 b hb).elim (h4 b) .inr) hr3
 | skip y hg hok _ ih=>
   intro Xr k F T a w hdd hr hK;rename_i l o s K' _;rw[List.length_cons,List.range'_succ,List.cons_append,wpOps_cons];have hi:ops[k]? =some o:=hdd 0 o rfl;refine skipS y hi hr hg hok fun a2 hr2=>?_;exact ih Xr (k+1) F T a2 w (fun j o' hj=>by have:=hdd (j+1) o' hj;rwa [show k+1+j=k+(j+1) by omega]) hr2 hK
theorem HT_runsS {id:Nat} {ops:Array Oper} {s:HS} {Q:Exit->HS->Prop} (h:RunsS P ops ops.toList s (Q .normal)):HT P (.region id ops false) s Q:=by
 intro w0 B U F T a w hr;refine wp_region ?_
 have:=Xcn (w0:=w0) (B:=B) (U:=U) (Q:=fun e a' w'=>∃(s':HS) (F':Nat->Prop) (T':Nat->Value),Q e s'/\(∀b,F b->F' b)/\(∀b,F' b->F b\/¬B b)/\Rel w0 B U F' T' s' a' w') h [] 0 F T a w (by simp) hr
  fun s' F' T' a' w' hk h1 h2 h3=>⟨s',F',T',hk,h1,h2,h3⟩
 rw[List.range_eq_range'];simpa using this
theorem RunsS.cutE {ops:Array Oper} {l:List Oper} {s s1 s2:HS} {p:Prop} {K:HS->Prop} (k:Nat) (cs:List CR) (h:evc P ops (l.take k) s cs=some (s1,p)) (hp:p) (hle:le s1 s2) (hr:RunsS P ops (l.drop k) s2 K):RunsS P ops l s K:=
 .cut k (QZ _ _ _ _ _ h hp rfl) hle hr
theorem RunsS.doneE {ops:Array Oper} {l:List Oper} {s s1:HS} {p:Prop} {K:HS->Prop} (cs:List CR) (h:evc P ops l s cs=some (s1,p)) (hp:p) (hq:K s1):RunsS P ops l s K:=
 .done (QZ _ _ _ _ _ h hp hq)
end
def lastB (ops:Array Oper):Bool:=(List.range (ops.size - 1)).all fun j=>X3b ops ops.size (ops.size - 1) j
section
variable {P:Program} {ops:Array Oper}
theorem any_last {hs:List (Nat×Nat)} {w0:World} {B:Nat->Prop} {U:Nat->Option Value} {t:HS} {p:Nat} {o:Oper} {f:FuncId} {d:Nat} {objs objs':List (Nat×Ob)} {args:List TV} {Y I:Nat->Nat} {r:RV} {Q:Exit->Act->World->Prop}
  (hd:X2r hs ops=true) (hp:p+1=ops.size) (hlast:∀j,j<p->X3b ops ops.size p j=true) (ho:ops[p]? =some o) (hg:gOfC t o=some (f,args.map (TV.ren Y []),d)) (hh:HandS Y I objs objs' t) (hcon:X46 P f objs args r objs') (hout:X38 (objs'.map (·.1)) r=true):
  ∀(fuel:Nat) (listed:Array Bool) (s:HS) (F:Nat->Prop) (T:Nat->Value) (a:Act) (w:World),
  listed.size=ops.size->(∀i o,ops[i]? =some o->listed.getD i false=true->∀e∈o.after,Region.binds .any e=true->listed.getD e.on false=true)->p∈Xr ops listed->
  (Xr ops listed).length<=fuel->(∀q∈QH ops (Xr ops listed),W8 s q)->Rel w0 B U F T s a w->
  X1q P ops hs (QH ops ((Xr ops listed).filter fun j=>decide (j<p))) s (fun u=>u=t)->
  (∀F' T' a' w',(∀b,F b->F' b)->(∀b,F' b->F b\/¬B b)->Rel w0 B U F' T' (({t with objs:=XJ I objs' (XU (objs.map fun p=>Y p.1) t.objs)}:HS).put (some d) (r.ren I [])) a' w'->Q .normal a' w')->wpAny P .any ops Q fuel listed a w:=by
 intro fuel
 induction fuel with
 | zero=>
   intro listed s F T a w hsz hdc hpr hlen hn hr hw hK;have h0:Xr ops listed=[]:=Nv (by omega);rw[h0]at hpr;cases hpr
 | succ fuel ih=>
   intro listed s F T a w hsz hdc hpr hlen hn hr hw hK
   have unl:∀j,j∈Xr ops listed->¬listed.getD j false=true:=by
    intro j hj hjl;have hjun:=(XR.1 hj).2;have hjs:j<listed.size:=by rw[hsz];exact(XR.1 hj).1
    rw[Nu,NC hjs]at hjl hjun;simp only[Option.getD_some]at hjl hjun;rw[hjl]at hjun;cases hjun
   have hmono:∀i,i<ops.size->∀x,listed.getD x false=true->(listed.setIfInBounds i true).getD x false=true:=by
    intro i hlt x hx';by_cases ex:x=i
    .subst ex;simp[hsz,hlt]
    rw[Nu,NI (Ne.symm ex),<-Array.getD_eq_getD_getElem?];exact hx'
   refine⟨fun h0=>?_,fun i hi=>?_⟩
   .exfalso;cases hres:Xr ops listed with
    |nil=>rw[hres]at hpr;cases hpr
    | cons i l=>
      have hi:i∈Xr ops listed:=by rw[hres];simp
      obtain⟨hlt,hun⟩:=XR.1 hi
      have:i∈Region.ready .any ops listed:=by
       refine QI.2 ⟨hlt,hun,ops[i],by simp[hlt],fun e he hb=>?_⟩;have hon:=(ZN hd (i:=i) (o:=ops[i]) (by simp[hlt])).1 e he hb
       have hnot:e.on∉Xr ops listed:=by
        intro hm;have hs:=Qo (ops:=ops) listed;rw[hres]at hs hm;rcases Nh.1 hm with e'|hm
        .omega
        have:=(NQ.1 hs).1 _ hm;omega
       rw[XR]at hnot;have hel:e.on<listed.size:=by omega
       rw[Nu,NC hel]at hnot⊢;simp only[Option.getD_some,not_and,Bool.not_eq_false]at hnot⊢;exact hnot (by omega)
      rw[h0]at this;cases this
   obtain⟨hlt,hun,oi,hoi,hpre⟩:=QI.1 hi;have hir:i∈Xr ops listed:=XR.2 ⟨hlt,hun⟩;have hset:=X3w hsz hir;by_cases hip:i=p
   .-- the call: nothing is left before it
    subst hip;rw[ho]at hoi;cases hoi
    have hl0:(Xr ops listed).filter (fun j=>decide (j<i))=[]:=by
     rw[List.filter_eq_nil_iff];intro j hj hji;have hji':j<i:=by simpa using hji
     exact unl j hj (X0r hdc ops.size i j o ho hpre (hlast j hji'))
    rw[hl0]at hw;have hst:s=t:=hw;subst hst;refine X7K ho hr hg hh hcon hout fun F' T' a' w' h3 h4 hr2=>?_
    have hre:Xr ops (listed.setIfInBounds i true)=[]:=by
     rw[hset,List.filter_eq_nil_iff];intro j hj hji;have hji':j≠i:=by simpa using hji
     have hjs:=(XR.1 hj).1;have:j∈(Xr ops listed).filter (fun j=>decide (j<i)):=NR.2 ⟨hj,by simp only[N6];omega⟩;rw[hl0]at this;cases this
    have hrd:Region.ready .any ops (listed.setIfInBounds i true)=[]:=by
     cases h:Region.ready .any ops (listed.setIfInBounds i true)with
     |nil=>rfl
     | cons k l=>
       exfalso;have hk:k∈Region.ready .any ops (listed.setIfInBounds i true):=by rw[h];simp
       obtain⟨g1,g2,_⟩:=QI.1 hk;have:k∈Xr ops (listed.setIfInBounds i true):=XR.2 ⟨g1,g2⟩;rw[hre]at this;cases this
    have hq:=hK F' T' a' w' h3 h4 hr2;cases fuel with
    |zero=>exact⟨hrd,hq⟩
    |succ fuel=>exact⟨fun _=>hq,fun k hk=>by rw[hrd]at hk;cases hk⟩
   have hip':i<p:=by omega
   have hi1:i∈(Xr ops listed).filter (fun j=>decide (j<p)):=NR.2 ⟨hir,by simpa using hip'⟩
   have hx:∀k∈Xr ops listed,k<i->∀q,ops[k]? =some q->X2F hs ops q oi=true:=by
    intro k hk hki q hq;refine((ZN hd hoi).2 k q hki hq).1.resolve_left fun hpd=>?_;exact unl k hk (X0r hdc ops.size i k oi hoi hpre hpd)
   have hcl:∀k q,k≠i->ops[k]? =some q->QY oi q=false/\QY q oi=false:=by
    intro k q hki hq;rcases Nat.lt_or_gt_of_ne hki with h|h
    .have:=((ZN hd hoi).2 k q h hq).2;exact⟨this.2,this.1⟩
    exact((ZN hd hq).2 i oi h hoi).2
   have swapf:(Xr ops (listed.setIfInBounds i true)).filter (fun j=>decide (j<p))=((Xr ops listed).filter (fun j=>decide (j<p))).filter (fun j=>decide (j≠i)):=by
    rw[hset,List.filter_filter,List.filter_filter];exact List.filter_congr fun j _=>Bool.and_comm _ _
   obtain⟨x,y,e1,e2,hxl,_⟩:=X1y (List.Pairwise.filter _ (Qo (ops:=ops) listed)) hi1;have e3:(Xr ops (listed.setIfInBounds i true)).filter (fun j=>decide (j<p))=x++y:=by rw[swapf,e2]
   rw[e1,QO,X2x hoi]at hw
   have hin:∀k∈x++y,k∈Xr ops listed/\k≠i:=by
    intro k hk;rw[<-e2]at hk;have:=NR.1 hk;exact⟨(NR.1 this.1).1,by simpa using this.2⟩
   have clq:∀q∈QH ops x++QH ops y,QY oi q=false/\QY q oi=false:=by
    intro q hq;rw[<-QO]at hq;obtain⟨k,hk,hkq⟩:=WB.1 hq;exact hcl k q (hin k hk).2 hkq
   have hpw:(QH ops x++QH ops y).Pairwise (fun a b=>QY a b=false):=by
    rw[<-QO,<-e3];exact Wn hd _ (List.Pairwise.filter _ (Qo _))
   obtain⟨s',h1,_,h2,_⟩:=pull (P:=P) (ops:=ops) (hs:=hs) (oi:=oi) (l2:=QH ops y) (QH ops x) s (fun q hq=>by
     obtain⟨k,hk,hkq⟩:=WB.1 hq;exact hx k (hin k (by simp[hk])).1 (hxl k hk) q hkq) (fun q hq=>clq q (by simp[hq])) (fun q hq=>(clq q (by simp[hq])).1) hpw (hn oi (WB.2 ⟨i,hir,hoi⟩)) (fun q hq=>by
     rw[<-QO]at hq;obtain⟨k,hk,hkq⟩:=WB.1 hq
     exact hn q (WB.2 ⟨k,(hin k hk).1,hkq⟩)) hw
   refine X4M hoi hr h1 fun F' T' a' w' h3 h4 hr2=>?_;refine ih (listed.setIfInBounds i true) s' F' T' a' w' (by simpa using hsz) ?_ ?_ ?_ ?_ hr2 ?_ fun F3 γ3 a3 w3 h5 h6 hr3=>?_
   .intro k q hq hk e' hee hb;by_cases ek:k=i
    .subst ek;rw[hoi]at hq;cases hq;exact hmono k hlt _ (hpre e' hee hb)
    rw[Nu,NI (Ne.symm ek),<-Array.getD_eq_getD_getElem?]at hk;exact hmono i hlt _ (hdc k q hq hk e' hee hb)
   .rw[hset];exact NR.2 ⟨hpr,by simp only[ne_eq,N6];omega⟩
   .obtain⟨x2,y2,g1,g2,_,_⟩:=X1y (Qo (ops:=ops) listed) hir;rw[hset,g2];rw[g1]at hlen;simp only[N9,List.length_cons]at hlen⊢;omega
   .intro q hq;obtain⟨k,hk,hkq⟩:=WB.1 hq;rw[hset]at hk;have hk':=NR.1 hk;exact Wp h1 (hcl k q (by simpa using hk'.2) hkq).1 (hn q (WB.2 ⟨k,hk'.1,hkq⟩))
   .rw[e3,QO];exact h2
   exact hK F3 γ3 a3 w3 (fun b hb=>h5 b (h3 b hb)) (fun b hb=>(h6 b hb).elim (h4 b) .inr) hr3
theorem Xa1 (p:Nat) (hp:p<=ops.size):QH ops ((List.range ops.size).filter fun j=>decide (j<p))=ops.toList.take p:=by
 have hr:∀m,(List.range m).filter (fun j=>decide (j<p))=(List.range m).take p:=by
  intro m
  induction m with
  |zero=>simp
  | succ m ih=>
    rw[List.range_succ,Dl,ih,List.take_append];simp only[List.length_range];congr 1;by_cases hmp:m<p
    .rw[DH (by simpa using hmp)];simp only[List.filter_nil];rw[List.take_of_length_le (by simp;omega)]
    rw[DG (by simpa using hmp)];simp only[List.filter_nil];rw[show p - m=0 by omega,List.take_zero]
 rw[hr]
 have hlen:∀k,k<=ops.size->QH ops ((List.range ops.size).take k)=ops.toList.take k:=by
  intro k
  induction k with
  |zero=>intro _;simp[QH]
  | succ k ih=>
    intro hk;have hk':k<ops.size:=hk;rw[List.take_add_one,QO,ih (by omega),List.take_add_one];simp[QH,hk']
 exact hlen p hp
theorem X1X {id:Nat} (hs:List (Nat×Nat)) (p:Nat) (cs:List CR) {s t:HS} {p1:Prop} {o:Oper} {f:FuncId} {d:Nat} {objs objs':List (Nat×Ob)} {args:List TV} (Y I:Nat->Nat) {r:RV} {Q:Exit->HS->Prop} (hm:P.follows .mixedOrders=true) (hd:X2r hs ops=true) (hp:p+1=ops.size) (hl:lastB ops=true)
  (hc:X0B ops.toList s=true) (h1:X4L P ops hs (ops.toList.take p) s cs=some (t,p1)) (hp1:p1) (ho:ops[p]? =some o) (hg:gOfC t o=some (f,args.map (TV.ren Y []),d)) (hh:HandS Y I objs objs' t) (hcon:X46 P f objs args r objs') (hout:X38 (objs'.map (·.1)) r=true)
  (hq:Q .normal (({t with objs:=XJ I objs' (XU (objs.map fun p=>Y p.1) t.objs)}:HS).put (some d) (r.ren I []))):HT P (.region id ops true) s Q:=by
 intro w0 B U F T a w hr
 have hrest:Xr ops (Array.replicate ops.size false)=List.range ops.size:=by
  unfold Xr;refine DB.2 fun i hi=>?_;have:i<ops.size:=by simpa using hi
  simp[this]
 have hopers:QH ops (List.range ops.size)=ops.toList:=by
  unfold QH;have:=X47 ops.toList;simpa using this
 have hok:∀o∈ops.toList,W8 s o:=by
  intro o ho hn d hdd;unfold X0B at hc;rw[Nm]at hc;have:=hc o ho;simpa[hn,hdd]using this
 have hpw:ops.toList.Pairwise (fun a b=>QY a b=false):=by
  rw[<-hopers];exact Wn hd _ List.pairwise_lt_range
 have e1:=Xa1 (ops:=ops) p (by omega)
 have hlast:∀j,j<p->X3b ops ops.size p j=true:=by
  intro j hj;unfold lastB at hl;rw[Nm]at hl;have e:ops.size - 1=p:=by omega
  rw[e]at hl;exact hl j (by simpa using hj)
 have hruns:X1q P ops hs (ops.toList.take p) s (fun u=>u=t):=
  X14 _ s t cs p1 (List.Pairwise.sublist (List.take_sublist _ _) hpw) (fun o ho=>hok o (DE ho)) h1 hp1 rfl
 refine wp_region_any hm (any_last (P:=P) (ops:=ops) (hs:=hs) (w0:=w0) (B:=B) (U:=U) (p:=p) hd hp hlast ho hg hh hcon hout ops.size (Array.replicate ops.size false) s F T a {w with drawn:=w.drawn+1} (by simp) ?_ ?_ ?_ ?_ ?_ ?_ fun F' T' a' w' h1 h2 h3=>⟨_,F',T',hq,h1,h2,h3⟩)
 .intro i o ho hl;have hi:i<ops.size:=(NM.1 ho).1;simp[hi]at hl
 .rw[hrest];simp;omega
 .rw[hrest];simp
 .rw[hrest,hopers];exact hok
 .exact⟨hr.heap.drew,hr.defers,hr.nt,fun k r hk=>(hr.regs k r hk).mono (w:=w) (w':={w with drawn:=w.drawn+1}) (fun _ h=>h) fun _ _=>rfl⟩
 rw[hrest,e1];exact hruns
end
section
variable {P:Program} {ops:Array Oper}
end
end Go.Hl
