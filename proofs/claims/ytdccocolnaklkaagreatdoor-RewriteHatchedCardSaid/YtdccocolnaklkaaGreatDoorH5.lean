/- Part of an evaluator that is sound over the model. Conditions: none. -/
import Derived.Test.YtdccocolnaklkaaGreatDoorH4
import Derived.IntWalk
import Derived.Maps.RangeRun
import Derived.Laws.Entries
set_option linter.unusedSimpArgs false
set_option linter.unusedVariables false
namespace Go.Hl
open Go Go.RowKit
def ownB (T:Nat->Value) (objs:List (Nat×Ob)) (w:World):Nat->Prop:=fun b=>b<w.heap.size/\¬X0Q T objs b
def ConG (P:Program) (f:FuncId) (objs:List (Nat×Ob)) (args:List TV) (r:RV):Prop:=
 XZ P f=true/\∀(F:Nat->Prop) (T:Nat->Value) (w:World) (vs:Array Value),HeapRel w (ownB T objs w) (fun _=>none) F T objs w->vs.size=args.length->
  (∀(j:Nat) t u,args[j]? =some t->vs[j]? =some u->XJ F T w t u)->
  Calls P f vs w fun x w'=>∃(v:Value) (N:Nat->Prop) (T':Nat->Value),x=.returned v/\Kept (ownB T objs w) w w'/\(∀c,N c->¬ownB T objs w c/\c<w'.heap.size)/\X9 (fun c=>F c\/N c) T' w' r v
section
variable {P:Program} {F:Nat->Prop} {T T':Nat->Value} {w w' w0:World} {B:Nat->Prop} {U:Nat->Option Value}
theorem X80 {f:FuncId} {fn:Func} {c:Code} {objs:List (Nat×Ob)} {args:List TV} {r:RV} (hf:P.funcs[f]? =some fn) (hb:fn.body=some c) (hcall:XZ P f=true) (hnt:args.length<=fn.ntmps)
  (h:HT P c ⟨fn.ntmps,Wx 0 args,objs⟩ (fun e s'=>(e=.normal\/e=.ret)/\∃s2,le s' s2/\∃ts,X0Z P s2 fn.results.toList=some ts/\r=Xl ts)):ConG P f objs args r:=by
 refine⟨hcall,fun F T w vs hh hsz hargs=>?_⟩
 have hrel:Rel w (ownB T objs w) (fun _=>none) F T ⟨fn.ntmps,Wx 0 args,objs⟩ {tmps:=vs++Array.replicate (fn.ntmps - vs.size) undef,defers:=[]} w:=by
  refine⟨hh,rfl,by simp;omega,fun k r hl=>?_⟩;obtain⟨h1,t,ht,rfl⟩:=WC args 0 k r hl;have hk:k<vs.size:=by rw[hsz];exact(N5.1 ht).1
  have hv:(vs++Array.replicate (fn.ntmps - vs.size) undef).getD k undef=vs[k]:=by
   rw[Nq,NQ hk];simp[hk]
  rw[hv];exact hargs (k - 0) t vs[k] ht (by simp[hk])
 refine calls_of_wp hf hb (wp_mono (h w _ _ F T _ w hrel) ?_);rintro x a' w' ⟨s',F1,γ1,⟨he,s2,hle,ts,hts,rfl⟩,h1,h2,hr'⟩;obtain⟨F2,γ2,h3,h4,hr2⟩:=hle w _ _ F1 γ1 a' w' hr';obtain⟨us,hus,hul,huc⟩:=Z0 hr2 hts
 have hFF:∀c,F2 c->F c\/(F2 c/\¬ownB T objs w c):=by
  intro c hc;rcases h4 c hc with h5|h5
  .rcases h2 c h5 with h6|h6
   .exact .inl h6
   exact .inr ⟨hc,h6⟩
  exact .inr ⟨hc,h5⟩
 have hres:∃v,(results fn a'.tmps).run P w'=.ok v w'/\X9 F2 γ2 w' (Xl ts) v:=by
  rw[ZG,Sem.run_bind,hus,Result.andThen_ok];refine⟨_,rfl,?_⟩
  match ts,us,hul,huc with
  |[],[],_,_=>exact⟨#[],rfl,rfl,by simp⟩
  |[t],[u],_,hc=>exact hc 0 t u rfl rfl
  |t1::t2::ts,u1::u2::us,hl,hc=>exact⟨(u1::u2::us).toArray,by simp,by simpa using hl,fun j t u ht hu=>hc j t u ht (by simpa using hu)⟩
 obtain⟨v,hv,hvr⟩:=hres
 have key:a'.defers=[]/\∃v,(results fn a'.tmps).run P w'=.ok v w'/\∃(v2:Value) (N:Nat->Prop) (T':Nat->Value),Ending.returned v=.returned v2/\Kept (ownB T objs w) w w'/\
   (∀c,N c->¬ownB T objs w c/\c<w'.heap.size)/\X9 (fun c=>F c\/N c) T' w' (Xl ts) v2:=
  ⟨hr2.defers,v,hv,v,fun c=>F2 c/\¬ownB T objs w c,γ2,rfl,hr2.heap.below,fun c hc=>⟨hc.2,hr2.heap.fsz c hc.1⟩,hvr.mono hFF fun _ _=>rfl⟩
 rcases he with rfl|rfl
 .exact key
 exact key
def Ob.isRow:Ob->Bool
 | .row _ _ _=>true
 |_=>false
theorem X8b {B':Nat->Prop} {e:TypeId} {s:Nat} {x:Value} {rows:List (List CD)} (h:Xm F w B e s x rows) (hB:∀b,blk x=some b->¬B' b):Xm F w B' e s x rows:=by
 obtain⟨h0,hs,xs,⟨hl,hown⟩,h1,hc⟩:=h;refine⟨h0,hs,xs,⟨hl,hown.imp id ?_⟩,h1,hc⟩;rintro⟨g,oo,cap,cur,rfl,_,Xy⟩;exact⟨g,oo,cap,cur,rfl,hB g rfl,Xy⟩
def Zl (ns:List Nat) (objs:List (Nat×Ob)):List (Nat×Ob):=
 match ns with
 |[]=>objs
 |n::ns=>Zl ns (del n objs)
theorem X3o (m:Nat):∀(ns:List Nat) (objs:List (Nat×Ob)),lkp (Zl ns objs) m=if m∈ns then none else lkp objs m
 |[],objs=>by simp[Zl]
 | n::ns,objs=>by
   rw[Zl,X3o m ns,ZA];by_cases h1:m∈ns<;>by_cases h2:m=n<;>simp[h1,h2]
def X2h (g:Operand->RV):List Operand->Option (List TV)
 |[]=>some []
 | x::l=>match g x,X2h g l with
   | .v t,some ts=>some (t::ts)
   |_,_=>none
def gOf (s:HS) (o:Oper):Option (FuncId×List TV×Nat):=
 match o.guard,o.op,o.dst with
 | none,.call {callee:=.value x,args:=args, .. },some d=>match opd s.regs x,X2h (opd s.regs) args.toList with
   | .v (.one (.fn f [])),some ts=>if Q3 s (some d)=true then some (f,ts,d)else none
   |_,_=>none
 |_,_,_=>none
theorem ZN {g:Operand->RV}:∀{l:List Operand} {ts:List TV},X2h g l=some ts->ts.length=l.length/\∀(j:Nat) t,ts[j]? =some t->∃x,l[j]? =some x/\g x=.v t
 |[],ts,h=>by cases h;simp
 | x ::l,ts,h=>by
   unfold X2h at h;split at h
   .rename_i t ts' hx hts;cases h;obtain⟨h1,h2⟩:=ZN hts;refine⟨by simp[h1],fun j t' hj=>?_⟩;cases j with
    |zero=>cases hj;exact⟨x,rfl,hx⟩
    |succ j=>exact h2 j t' hj
   cases h
structure Hand (Y:Nat->Nat) (objs sobjs:List (Nat×Ob)):Prop where
 at_:∀n o,lkp objs n=some o->lkp sobjs (Y n)=some o
 row:∀n o,lkp objs n=some o->o.isRow=true
 inj:∀n m on om,lkp objs n=some on->lkp objs m=some om->n≠m->Y n≠Y m
theorem X2Q {Y:Nat->Nat} {objs sobjs:List (Nat×Ob)} (h1:∀p∈objs,lkp sobjs (Y p.1)=some p.2/\p.2.isRow=true) (h2:∀p∈objs,∀q∈objs,p.1≠q.1->Y p.1≠Y q.1):Hand Y objs sobjs where
 at_ n o h:=(h1 _ (XE h)).1
 row n o h:=(h1 _ (XE h)).2
 inj n m on om hn hm hne:=h2 _ (XE hn) _ (XE hm) hne
theorem Hand.heap {Y:Nat->Nat} {objs sobjs:List (Nat×Ob)} (hd:Hand Y objs sobjs) (h:HeapRel w0 B U F T sobjs w):
  HeapRel w (ownB (fun n=>T (Y n)) objs w) (fun _=>none) F (fun n=>T (Y n)) objs w where
 below:=Kept.refl _ _
 hB b hb:=hb.1
 fsz:=h.fsz
 ob n o ho:=by
  have h1:=h.ob _ _ (hd.at_ n o ho);have h2:=hd.row n o ho;cases o with
  | row e s rows=>
    exact X8b (show Xm F w B e s (T (Y n)) rows from h1) fun b hb hx=>hx.2 ⟨n,_,ho,(W6 (Xm.sl (show Xm F w B e s (T (Y n)) rows from h1))).2 hb⟩
  |_=>cases h2
 apart n o ho b hb:=h.apart _ _ (hd.at_ n o ho) b hb
 sep n m on om hn hm hne b hb hb':=h.sep _ _ _ _ (hd.at_ n on hn) (hd.at_ m om hm) (hd.inj n m on om hn hm hne) b hb hb'
 pin n v hv:=by cases hv
theorem Hand.after {Y:Nat->Nat} {objs sobjs:List (Nat×Ob)} (hd:Hand Y objs sobjs) (h:HeapRel w0 B U F T sobjs w) (hk:Kept (ownB (fun n=>T (Y n)) objs w) w w') {N:Nat->Prop}
  (hN:∀c,N c->¬ownB (fun n=>T (Y n)) objs w c/\c<w'.heap.size):
  (∀b,N b->¬B b)/\(∀c,F c->w'.heap[c]? =w.heap[c]?)/\HeapRel w0 B U (fun c=>F c\/N c) T (Zl (objs.map fun p=>Y p.1) sobjs) w':=by
 have own:∀b,X0Q (fun n=>T (Y n)) objs b->∃n o,lkp objs n=some o/\lkp sobjs (Y n)=some o/\Blk (T (Y n)) b:=by
  rintro b ⟨n,o,ho,hb⟩;exact⟨n,o,ho,hd.at_ n o ho,hb⟩
 have hNB:∀b,N b->¬B b:=by
  intro b hb hx;refine(hN b hb).1 ⟨h.hB b hx,fun ho=>?_⟩;obtain⟨n,o,_,h1,h2⟩:=own b ho;exact((h.ob _ _ h1).blk_lt h2).1 hx
 have hF:∀c,F c->w'.heap[c]? =w.heap[c]? :=fun c hc=>hk.block c ⟨h.fsz c hc,fun ho=>by
  obtain⟨n,o,_,h1,h2⟩:=own c ho
  exact h.apart _ _ h1 c h2 hc⟩
 have hlk:∀m o,lkp (Zl (objs.map fun p=>Y p.1) sobjs) m=some o->lkp sobjs m=some o/\∀n o',lkp objs n=some o'->Y n≠m:=by
  intro m o hl;rw[X3o]at hl;split at hl
  .cases hl
  rename_i hm;exact⟨hl,fun n o' ho e=>hm (NN.2 ⟨(n,o'),XE ho,e⟩)⟩
 have hsep:∀m o,lkp (Zl (objs.map fun p=>Y p.1) sobjs) m=some o->∀b,Blk (T m) b->¬X0Q (fun n=>T (Y n)) objs b:=by
  intro m o hl b hb ho;obtain⟨h1,h2⟩:=hlk m o hl;obtain⟨n,o',h3,h4,h5⟩:=own b ho;exact h.sep _ _ _ _ h1 h4 (Ne.symm (h2 n o' h3)) b hb h5
 refine⟨hNB,hF,?_⟩
 exact {
  below:=h.below.trans ⟨hk.os,hk.tape,hk.output,hk.size,fun c hc=>hk.block c ⟨h.hB c hc,fun ho=>by
   obtain⟨n,o,_,h1,h2⟩:=own c ho
   exact((h.ob _ _ h1).blk_lt h2).1 hc⟩⟩
  hB:=fun c hc=>NA (h.hB c hc) hk.size
  fsz:=fun c hc=>by
   rcases hc with hc|hc
   .exact NA (h.fsz c hc) hk.size
   exact(hN c hc).2
  ob:=fun m o hl=>by
   obtain⟨h1,_⟩:=hlk m o hl;have h2:=h.ob m o h1;exact h2.mono (fun _ h=>.inl h) hF fun c hc=>hk.block c ⟨(h2.blk_lt hc).2,hsep m o hl c hc⟩
  apart:=fun m o hl c hc hFc=>by
   obtain⟨h1,_⟩:=hlk m o hl;rcases hFc with hFc|hFc
   .exact h.apart m o h1 c hc hFc
   exact(hN c hFc).1 ⟨((h.ob m o h1).blk_lt hc).2,hsep m o hl c hc⟩
  sep:=fun m k om ok hm hk' hne=>h.sep m k om ok (hlk m om hm).1 (hlk k ok hk').1 hne
  pin:=h.pin}
theorem g_sound {s:HS} {a:Act} {ops:Array Oper} {i:Nat} {o:Oper} {f:FuncId} {d:Nat} {objs:List (Nat×Ob)} {args:List TV} {Y:Nat->Nat} {r:RV} {Kc:Act->World->Prop} {Q:Exit->Act->World->Prop} (hi:ops[i]? =some o) (h:Rel w0 B U F T s a w)
  (hc:gOf s o=some (f,args.map (TV.ren Y []),d)) (hd:Hand Y objs s.objs) (hok:∀t∈args,t.okNil []=true) (hcon:ConG P f objs args r) (honly:r.onlyB false 0=true)
  (hK:∀F' a' w',(∀b,F b->F' b)->(∀b,F' b->F b\/¬B b)->Rel w0 B U F' T (({s with objs:=Zl (objs.map fun p=>Y p.1) s.objs}:HS).put (some d) r) a' w'->Kc a' w'):wpOp P ops Q i Kc a w:=by
 unfold gOf at hc;split at hc
 .rename_i x as0 ts0 d0 hgd ho hdst;split at hc
  .rename_i f0 ts hf hts;split at hc
   .rename_i hokd;cases hc;obtain⟨hcall,hcon⟩:=hcon;have hx:=h.opd x;rw[hf]at hx;obtain⟨cvs,hv,hcl,_⟩:=hx;have:cvs=[]:=Np (by simpa using hcl);subst this;have hv':a.eval x=.func (.func f) #[] #[]:=hv
    have hrun:(execOp a.eval o).run P w=.ok (.enter f (as0.map a.eval)) w:=by
     unfold XZ at hcall;split at hcall
     .rename_i fn hfn;simp only[N4,Nk]at hcall;have hnm:¬fn.name= "runtime.NumGoroutine" :=by simpa using hcall.1
      have hnb:¬fn.body=none:=by
       intro hb;rw[hb]at hcall;cases hcall.2
      simp[execOp,ho,resolve,hv',Deferred.ofValue,invoke,callFunc,hfn,hnm,hnb]
     cases hcall
    unfold wpOp;rw[hi];simp only;have hwant:Region.wanted o (yielded ops a.tmps)=true:=by unfold Region.wanted;rw[hgd]
    rw[hwant];simp only[NG];refine .inl ?_;unfold Oper.wp;rw[hrun,Oper.upon_enter];obtain⟨hlen,hget⟩:=ZN hts;refine(hcon F (fun n=>T (Y n)) w (as0.map a.eval) (hd.heap h.heap) (by simpa using hlen.symm) fun j t u ht hu=>?_).mono ?_
    .obtain⟨y,hy,hgy⟩:=hget j (t.ren Y []) (by simp[ht])
     have hu':u=a.eval y:=by
      rw[Array.getElem?_map,<-Array.getElem?_toList,hy]at hu;exact(Option.some.inj hu).symm
     rw[hu'];have:=h.opd y;rw[hgy]at this;exact XJ.ren (Y:=Y) (nils:=[]) (fun n _=>rfl) (fun n hn=>by cases hn) (hok t (N3 ht)) this
    rintro x w' ⟨v,N,T',rfl,hk,hN,hr⟩;obtain⟨h1,h2,h3⟩:=hd.after h.heap hk hN;refine hK (fun c=>F c\/N c) _ _ (fun _ h=>.inl h) (fun c hc=>hc.imp id fun hc=>h1 c hc) ?_;rw[hdst];exact h.step (objs':=Zl (objs.map fun p=>Y p.1) s.objs) hokd h3 (hr.only (ob:=false) (d:=0) honly (by simp)) fun k r v _ hr=>hr.mono (fun _ h=>.inl h) h2
   cases hc
  cases hc
 cases hc
theorem X3N {ops:Array Oper} {k:Nat} {o:Oper} (ho:ops[k]? =some o):List.range ops.size=List.range' 0 (ops.toList.take k).length++(k::List.range' (k+1) (ops.toList.drop (k+1)).length):=by
 have hlt:k<ops.size:=(NO.1 ho).1;rw[List.range_eq_range',Ns,D2,Array.length_toList,Nat.min_eq_left (by omega)];apply NP;intro j;by_cases hj:j<k
 .rw[Nm (by simpa using hj)];simp[hj,show j<ops.size by omega]
 rw[Nl (by simp;omega)];simp only[List.length_range'];by_cases hjk:j=k
 .subst hjk;simp[hlt]
 rw[show j - k=(j - (k+1))+1 by omega,List.getElem?_cons_succ];by_cases hjs:j<ops.size
 .rw[D0 (by omega),D0 (by omega)];congr 1;omega
 rw[NB (by simp;omega),NB (by simp;omega)]
theorem HT_runG {id:Nat} {ops:Array Oper} (k:Nat) (objs:List (Nat×Ob)) (args:List TV) (Y:Nat->Nat) (r:RV) (cs1 cs2:List CR) {s s1 s3:HS} {p q:Prop} {o:Oper} {f:FuncId} {d:Nat} {Q:Exit->HS->Prop} (ho:ops[k]? =some o)
  (hpre:evc P ops (ops.toList.take k) s cs1=some (s1,p)) (hp:p)
  (hg:gOf s1 o=some (f,args.map (TV.ren Y []),d)) (hd:Hand Y objs s1.objs) (hok:∀t∈args,t.okNil []=true) (hcon:ConG P f objs args r) (honly:r.onlyB false 0=true)
  (hpost:evc P ops (ops.toList.drop (k+1)) (({s1 with objs:=Zl (objs.map fun p=>Y p.1) s1.objs}:HS).put (some d) r) cs2=some (s3,q)) (hq':q) (hq:Q .normal s3):HT P (.region id ops false) s Q:=by
 intro w0 B U F T a w hr;refine wp_region ?_;rw[X3N ho];refine QS (ops.toList.take k) 0 s F T a w (fun j o' hj=>?_) hr (Qn _ _ _ _ _ hpre hp rfl:wpR P ops (ops.toList.take k) s (fun t=>t=s1)) fun s' F1 γ1 a1 w1 hs' h1 h2 hr1=>?_
 .rw[Nv]at hj;split at hj
  .rw[Nat.zero_add];simpa using hj
  cases hj
 subst hs';rw[wpOps_cons];refine g_sound ho hr1 hg hd hok hcon honly fun F2 a2 w2 h3 h4 hr2=>?_
 have:=QS (Q:=fun e a' w'=>∃(s':HS) (F':Nat->Prop) (T':Nat->Value),Q e s'/\(∀b,F b->F' b)/\(∀b,F' b->F b\/¬B b)/\Rel w0 B U F' T' s' a' w') (Xy:=[]) (ops.toList.drop (k+1)) (k+1) _ F2 γ1 a2 w2 (fun j o' hj=>by
   rw[No]at hj;simpa using hj) hr2 (Qn _ _ _ _ _ hpost hq' rfl:wpR P ops (ops.toList.drop (k+1)) _ (fun t=>t=s3)) fun s4 F4 γ4 a4 w4 hs4 h5 h6 hr4=>?_
 .simpa using this
 subst hs4;exact⟨s4,F4,γ4,hq,fun b hb=>h5 b (h3 b (h1 b hb)),fun b hb=>(h6 b hb).elim (fun hb=>(h4 b hb).elim (h2 b) .inr) .inr,hr4⟩
end
abbrev iC (n:Int):CD:=.lit (.int .i64 n)
abbrev bC (b:Bool):CD:=.lit (.bool b)
abbrev sC (s:ByteArray):CD:=.lit (.string s)
abbrev li (n:Int):TV:=.one (.c (iC n))
abbrev lb (b:Bool):TV:=.one (.c (bC b))
abbrev sv (s:ByteArray):TV:=.one (.c (sC s))
def Ql (ks:List Nat):List (Nat×RV)->List (Nat×RV)
 |[]=>[]
 |(k,r)::l=>if ks.contains k=true then(k,r)::Ql ks l else Ql ks l
def insS (us:List (Nat×RV)) (l:List (Nat×RV)):List (Nat×RV):=
 match us with
 |[]=>l
 |(k,r)::us=>ins k r (insS us l)
def upS (s:HS) (ks:List Nat) (us:List (Nat×RV)) (objs:List (Nat×Ob)):HS:=⟨s.nt,insS us (Ql ks s.regs),objs⟩
theorem HT_loopU {P:Program} {I:Type} {c:Code} {s:HS} {Q:Exit->HS->Prop} (ks:List Nat) (U:I->List (Nat×RV)) (O:I->List (Nat×Ob)) (J:I->Prop) (μ:I->Nat) (x0:I) (j0:J x0) (h0:le s (upS s ks (U x0) (O x0)))
  (round:∀x,J x->HT P c (upS s ks (U x) (O x)) (X5N (fun s'=>∃x',J x'/\μ x'<μ x/\le s' (upS s ks (U x') (O x'))) Q)):HT P (.loop c) s Q:=
 HT_loop (fun x=>upS s ks (U x) (O x)) J μ x0 j0 h0 round
theorem XY {P:Program} {I:Type} {x y:Code} {s:HS} {Q:Exit->HS->Prop} (ks:List Nat) (U:I->List (Nat×RV)) (O:I->List (Nat×Ob)) (J:I->Prop) (h:HT P x s (X5N (fun s'=>∃z,J z/\le s' (upS s ks (U z) (O z))) Q))
  (h2:∀z,J z->HT P y (upS s ks (U z) (O z)) Q):HT P (.seq x y) s Q:=
 HT_cut (fun z=>upS s ks (U z) (O z)) J h h2
def evcH (P:Program) (ops:Array Oper) (hs:List (Nat×Nat)):List Oper->HS->List CR->Option (HS×Prop)
 |[],s,_=>some (s,True)
 | o ::l,s,cs=>if hokB hs o s=true then match Q9 o.op,cs with
   | .call,c::cs=>match evc P ops [o] s [c] with
     | some (s',p)=>match evcH P ops hs l s' cs with
       |some (s'',q)=>some (s'',p/\q)
       |none=>none
     |none=>none
   | _,cs=>match evc P ops [o] s [] with
     | some (s',p)=>match evcH P ops hs l s' cs with
       |some (s'',q)=>some (s'',p/\q)
       |none=>none
     |none=>none
   else none
theorem X2N {P:Program} {ops:Array Oper} {hs:List (Nat×Nat)} {K:HS->Prop}:∀(l:List Oper) (s s':HS) (cs:List CR) (p:Prop),l.Pairwise (fun a b=>W7 a b=false)->(∀o∈l,QP s o)->evcH P ops hs l s cs=some (s',p)->p->K s'->X1D P ops hs l s K
 |[],s,s',_,p,_,_,h,_,hk=>by cases h;exact hk
 | o ::l,s,s',cs,p,hp,hn,h,hpp,hk=>by
   have step:∀(cs1 cs2:List CR),hokB hs o s=true->(match evc P ops [o] s cs1 with
     | some (s1,p)=>match evcH P ops hs l s1 cs2 with
       |some (s'',q)=>some (s'',p/\q)
       |none=>none
     |none=>none)=some (s',p)->X1D P ops hs (o::l) s K:=by
    intro cs1 cs2 hb h;split at h
    .rename_i s1 p1 he;split at h
     .rename_i s2 q he2;cases h;have hw:wpR P ops [o] s (fun t=>t=s1):=Qn _ _ _ _ _ he hpp.1 rfl;obtain⟨s3,h1,h2⟩:=X1Q (hn o (by simp)) hw;have e:s3=s1:=h2;subst e;have hp':=NV.1 hp;exact⟨s3,h1,X5v hb,X2N l s3 s' cs2 q hp'.2 (fun p hpl=>Wd h1 (hp'.1 p hpl) (hn p (by simp[hpl]))) he2 hpp.2 hk⟩
     cases h
    cases h
   unfold evcH at h;split at h
   .rename_i hb;split at h
    .exact step _ _ hb h
    exact step _ _ hb h
   cases h
theorem XaH {P:Program} {ops:Array Oper} {id:Nat} (hs:List (Nat×Nat)) (cs:List CR) {s s':HS} {p:Prop} {Q:Exit->HS->Prop} (hm:P.follows .mixedOrders=true) (hd:X3P hs ops=true) (hc:X1H ops.toList s=true) (h:evcH P ops hs ops.toList s cs=some (s',p)) (hp:p) (hq:Q .normal s'):HT P (.region id ops true) s Q:=
 X4Q hm hd hc fun hpw hok=>X2N _ _ _ _ _ hpw hok h hp hq
theorem Xh {P:Program} {rs:List ResultVar} {s:HS} {fresh:Bool} {r:RV} {d:Nat} {Q:Exit->HS->Prop} (hQ:(∃s2,le s s2/\RetOK P rs s2 fresh r none d)->Q .ret s) (ts:List TV) (hr:X0Z P s rs=some ts) (he:r=Xl ts) (hl:fresh=true->r.litB=true):HT P .ret s Q:=
 Xn (hQ ⟨s,le_refl s,⟨ts,hr,he⟩,by simp,fun h=>⟨hl h,by simp⟩⟩)
theorem BN:(∀a b:Bool,((a||b)=true)=(a=true\/b=true))/\(∀a b:Bool,((a&&b)=true)=(a=true/\b=true))/\(∀a b:Bool,((a||b)=false)=(a=false/\b=false))/\
  (∀a b:Bool,((a&&b)=false)=(a=false\/b=false))/\(∀a:Bool,((!a)=true)=(a=false))/\(∀a:Bool,((!a)=false)=(a=true))/\(∀(p:Prop) [Decidable p],(decide p=true)=p)/\(∀(p:Prop) [Decidable p],(decide p=false)=¬p):=by
 refine⟨?_,?_,?_,?_,?_,?_,?_,?_⟩<;>intros<;>first|(simp;done)|(rename_i a b;cases a<;>cases b<;>simp)
theorem KN:(∀(a b:Nat) (l:List Nat),(a::l).contains b=(b==a||l.contains b))/\(∀b:Nat,([]:List Nat).contains b=false)/\(∀a:Bool,(a||false)=a)/\(∀a:Bool,(a||true)=true)/\(∀a:Bool,(true||a)=true)/\(∀a:Bool,(false||a)=a)/\
  (∀a:Nat,(a==a)=true)/\(∀a b:List (Nat×RV),(if True then a else b)=a)/\(∀a b:List (Nat×RV),(if False then a else b)=b)/\((true=true)=True)/\((false=true)=False):=by
 refine⟨fun a b l=>List.contains_cons,?_,?_,?_,?_,?_,?_,?_,?_,?_,?_⟩<;>intros<;>simp
theorem Xa5 {P:Program} {rs:List ResultVar} {s:HS} {fresh:Bool} {r:RV} {d:Nat} {Q:Exit->HS->Prop} (hQ:(∃s2,le s s2/\RetOK P rs s2 fresh r none d)->Q .ret s) {ts:List TV} (hr:X0Z P s rs=some ts:=by simp[*];rfl)
  (he:r=Xl ts:=by first|rfl|(simp[*];done)|(simp only[Xl];(repeat' split)<;>first|rfl|(exfalso;omega)|simp_all)) (hl:fresh=true->r.litB=true:=by simp):HT P .ret s Q:=
 Xn (hQ ⟨s,le_refl s,⟨ts,hr,he⟩,by simp,fun h=>⟨hl h,by simp⟩⟩)
theorem X1 {P:Program} {id:Nat} {ops:Array Oper} {s s':HS} {Q:Exit->HS->Prop} (hq:Q .normal s') (h:evs P ops ops.toList s=some s':=by simp[*];rfl):HT P (.region id ops false) s Q:=XF h hq
attribute [simp] inR evs evc evcS X4m brw brwL X3k X1w WS X3a X1J matC Wh RV.ownB CV.ownB RV.onlyB TV.onlyB CV.onlyB HS.made Xav Xb4 X8z impB_one impB_and Xb2 impB_imp pickB_or XaN X4s X3G ZV Q9 X2Y stpG Ze gdR Xaf XaE litG_lit litG_gd litG_any litG_sl litG_ptr litG_own litG_at litG_agg evOp evN evA evR evW X5V evUn X7T evNil evAgg X5L eqFs lkpN dataX X9b X3O noMen XX X0U ZK ZW ZR X0O Wt X5y X1E cellsOf opd lkp ins del HS.put Q3 QV Qi RV.menB TV.menB CV.menB Ob.menB CV.cell CD.cell CD.ofMap Value.oneCell' X5C X8s X5N X2a X2T Z4 X6j X86 Ws W9 Hl.lit WE WG WT Zm setRow ZM RV.okNil TV.okNil CV.okNil Ob.okNil RV.ren TV.ren CV.ren Ob.ren WN XR CV.frz TV.frz RV.frz Ob.frz HS.frz X0R X0C X68 nilSl X4y Wx resT X0Z Xl RV.litB TV.litB CV.litB gOf X2h Zl upS Ql insS
theorem X75 {P:Program} {id:Nat} {ops:Array Oper} {s s':HS} {p:Prop} {Q:Exit->HS->Prop} (cs:List CR) (hp:p) (hq:Q .normal s') (h:evc P ops ops.toList s cs=some (s',p):=by simp[*];first|exact⟨rfl,Iff.rfl⟩|exact⟨rfl,trivial⟩|rfl):HT P (.region id ops false) s Q:=Wk cs h hp hq
theorem X1c {s s':HS} (Y:Nat->Nat) (nils:List Nat) (hn:s'.nt=s.nt:=by rfl)
  (hr:ZM (fun k r=>r.okNil nils=true/\opd s.regs (.tmp k)=r.ren (WN Y) nils) s'.regs:=by simp[upS,Ql, *])
  (ho:ZM (fun n o=>if nils.contains n then(match o with| .row _ sz []=>0<sz|_=>False)else o.okNil nils=true/\lkp s.objs (WN Y n)=some (o.ren (WN Y) nils)) s'.objs:=by simp[*,upS])
  (hi:ZM (fun n _=>ZM (fun m _=>n=m\/WN Y n≠WN Y m\/nils.contains n=true\/nils.contains m=true) s'.objs) s'.objs:=by simp[upS])
  (hp:nils.all (fun n=>decide (n<1000000))=true:=by rfl):le s s':=QJ Y nils hn hr ho hi hp
theorem X4 {P:Program} {id:Nat} {ops:Array Oper} {y:Code} {s s':HS} {Q:Exit->HS->Prop} (hq:X5C P y Q .normal s') (h:evs P ops ops.toList s=some s':=by simp[*];rfl):HT P (.seq (.region id ops false) y) s Q:=X0 (XF h hq)
theorem ZY {P:Program} {id:Nat} {ops:Array Oper} {y:Code} {s s':HS} {p:Prop} {Q:Exit->HS->Prop} (cs:List CR) (hp:p) (hq:X5C P y Q .normal s') (h:evc P ops ops.toList s cs=some (s',p):=by simp[*];first|exact⟨rfl,Iff.rfl⟩|exact⟨rfl,trivial⟩|rfl):HT P (.seq (.region id ops false) y) s Q:=X0 (Wk cs h hp hq)
theorem Qd {P:Program} {rs:List ResultVar} {s:HS} {fresh:Bool} {r:RV} {d:Nat} {Q:Exit->HS->Prop} {ts:List TV} (hQ:(∃s2,le s s2/\RetOK P rs s2 fresh r none d)->Q .ret s:=by exact fun h=>⟨.inr rfl,h⟩) (hr:X0Z P s rs=some ts:=by simp[*];rfl)
  (he:r=Xl ts:=by first|rfl|(simp[*];done)|(simp only[Xl];(repeat' split)<;>first|rfl|(exfalso;omega)|simp_all)) (hl:fresh=true->r.litB=true:=by simp):HT P .ret s Q:=Xa5 hQ hr he hl
theorem HT_cs {P:Program} {c:Operand} {x:Code} {s:HS} {Q:Exit->HS->Prop} {t:Bool} (hc:opd s.regs c=.v (.one (.c (.lit (.bool t))))) (ht:t=true->HT P x s Q) (hf:t=false->Q .normal s):HT P (.cond c x .skip) s Q:=X6w hc ht fun h=>X6 (hf h)
theorem X2 {P:Program} {f:FuncId} {fn:Func} {c:Code} {args:List TV} {fresh:Bool} {r:RV} {ob:Option Ob} {d:Nat} (hf:P.funcs[f]? =some fn)
  (h:HT P c ⟨fn.ntmps,Wx 0 args,[]⟩ (fun e s'=>(e=.normal\/e=.ret)/\∃s2,le s' s2/\RetOK P fn.results.toList s2 fresh r ob d)) (hb:fn.body=some c:=by exact rfl) (hcall:XZ P f=true:=by kernel_rfl) (hnt:args.length<=fn.ntmps:=by exact Da rfl):Con P f fresh args r ob d:=Xai hf hb hcall hnt h
theorem N0 {P:Program} {id:Nat} {ops:Array Oper} {s s':HS} {Q:Exit->HS->Prop} (hq:Q .normal s') (hm:P.follows .mixedOrders=true:=by kernel_rfl) (hd:drawB ops=true:=by kernel_rfl) (hc:X1H ops.toList s=true:=by rfl) (h:evs P ops ops.toList s=some s':=by simp[*];rfl):HT P (.region id ops true) s Q:=Q1 hm hd hc h hq
inductive RunsF (P:Program) (ops:Array Oper):List Oper->HS->(HS->Prop)->Prop
 |done {l:List Oper} {s:HS} {K:HS->Prop}:wpR P ops l s K->RunsF P ops l s K
 |cut {l:List Oper} {s s1 s2:HS} {K:HS->Prop} (k:Nat):wpR P ops (l.take k) s (fun t=>t=s1)->le s1 s2->RunsF P ops (l.drop k) s2 K->RunsF P ops l s K
section
variable {P:Program} {w0:World} {B:Nat->Prop} {U:Nat->Option Value}
theorem X5i (k n m:Nat):List.range' k (n+m)=List.range' k n++List.range' (k+n) m:=by
 apply NP;intro j;by_cases hj:j<n
 .rw[Nm (by simpa using hj),D0 (by omega),D0 (by omega)]
 rw[Nl (by simp;omega)];simp only[List.length_range'];by_cases hm:j<n+m
 .rw[D0 (by omega),D0 (by omega)];congr 1;omega
 rw[NB (by simp;omega),NB (by simp;omega)]
theorem XaU {ops:Array Oper} {K:HS->Prop} {Q:Exit->Act->World->Prop} {l:List Oper} {s:HS} (h:RunsF P ops l s K):∀(Xy:List Nat) (k:Nat) (F:Nat->Prop) (T:Nat->Value) (a:Act) (w:World),(∀j o,l[j]? =some o->ops[k+j]? =some o)->
  Rel w0 B U F T s a w->(∀s' F' T' a' w',K s'->(∀b,F b->F' b)->(∀b,F' b->F b\/¬B b)->Rel w0 B U F' T' s' a' w'->wpOps P ops Q Xy a' w')->wpOps P ops Q (List.range' k l.length++Xy) a w:=by
 induction h with
 |done hw=>exact fun Xy k F T a w hd hr hK=>QS _ k _ F T a w hd hr hw hK
 | cut n hw hle _ ih=>
   intro Xy k F T a w hd hr hK;rename_i l s s1 s2 K' _;have hl:l.length=(l.take n).length+(l.drop n).length:=by rw[<-List.length_append,List.take_append_drop]
   rw[hl,X5i,D7];refine QS (l.take n) k s F T a w (fun j o hj=>?_) hr hw fun s' F1 γ1 a1 w1 hs' h1 h2 hr1=>?_
   .rw[Nv]at hj;split at hj
    .exact hd j o hj
    cases hj
   subst hs';obtain⟨F2,γ2,h3,h4,hr2⟩:=hle w0 B U F1 γ1 a1 w1 hr1;refine ih Xy (k+(l.take n).length) F2 γ2 a1 w1 (fun j o hj=>?_) hr2 fun s3 F3 γ3 a3 w3 hk3 h5 h6 hr3=>?_
   .rw[No]at hj;have hlt:n+j<l.length:=(N5.1 hj).1;have:=hd (n+j) o hj;rw[Ns,Nat.min_eq_left (by omega),Df];exact this
   exact hK s3 F3 γ3 a3 w3 hk3 (fun b hb=>h5 b (h3 b (h1 b hb))) (fun b hb=>(h6 b hb).elim (fun hb=>(h4 b hb).elim (h2 b) .inr) .inr) hr3
theorem X0d {id:Nat} {ops:Array Oper} {s:HS} {Q:Exit->HS->Prop} (h:RunsF P ops ops.toList s (Q .normal)):HT P (.region id ops false) s Q:=by
 intro w0 B U F T a w hr;refine wp_region ?_
 have:=XaU (w0:=w0) (B:=B) (U:=U) (Q:=fun e a' w'=>∃(s':HS) (F':Nat->Prop) (T':Nat->Value),Q e s'/\(∀b,F b->F' b)/\(∀b,F' b->F b\/¬B b)/\Rel w0 B U F' T' s' a' w') h [] 0 F T a w (by simp) hr
  fun s' F' T' a' w' hk h1 h2 h3=>⟨s',F',T',hk,h1,h2,h3⟩
 rw[List.range_eq_range'];simpa using this
theorem RunsF.cutE {ops:Array Oper} {l:List Oper} {s s1 s2:HS} {p:Prop} {K:HS->Prop} (k:Nat) (cs:List CR) (h:evc P ops (l.take k) s cs=some (s1,p)) (hp:p) (hle:le s1 s2) (hr:RunsF P ops (l.drop k) s2 K):RunsF P ops l s K:=
 .cut k (Qn _ _ _ _ _ h hp rfl) hle hr
theorem RunsF.doneE {ops:Array Oper} {l:List Oper} {s s1:HS} {p:Prop} {K:HS->Prop} (cs:List CR) (h:evc P ops l s cs=some (s1,p)) (hp:p) (hq:K s1):RunsF P ops l s K:=
 .done (Qn _ _ _ _ _ h hp hq)
end
theorem CV.menB_frz {d n:Nat} {c:CD} {x:CV} (h:(x.frz n c).menB d=true):x.menB d=true:=by
 induction x with
 |gd b x ih=>exact ih h
 |any=>exact h
 |c e=>exact h
 | own m=>
   simp only[CV.frz]at h;split at h
   .simp[CV.menB]at h
   exact h
 | at_ m off=>
   simp only[CV.frz]at h;split at h
   .split at h<;>simp[CV.menB]at h
   exact h
 | el m s' i off=>
   simp only[CV.frz]at h;split at h
   .simp[CV.menB]at h
   exact h
 | sub m i=>
   simp only[CV.frz]at h;split at h
   .simp[CV.menB]at h
   exact h
 | el2 m s' i j off=>
   simp only[CV.frz]at h;split at h
   .simp[CV.menB]at h
   exact h
 | fn f caps=>
   simp only[CV.frz]at h;split at h
   .simp[CV.menB]at h
   exact h
theorem TV.menB_frz {d n:Nat} {c:CD} {x:TV} (h:(x.frz n c).menB d=true):x.menB d=true:=by
 cases x with
 |one x=>exact CV.menB_frz h
 | agg xs=>
   simp only[TV.frz,TV.menB,List.any_map,List.any_eq_true,Function.comp]at h⊢;obtain⟨y,h1,h2⟩:=h;exact⟨y,h1,CV.menB_frz h2⟩
theorem RV.menB_frz {d n:Nat} {c:CD} {x:RV} (h:(x.frz n c).menB d=true):x.menB d=true:=by
 cases x with
 |v x=>exact TV.menB_frz h
 | tup xs=>
   simp only[RV.frz,RV.menB,List.any_map,List.any_eq_true,Function.comp]at h⊢;obtain⟨y,h1,h2⟩:=h;exact⟨y,h1,TV.menB_frz h2⟩
theorem Ob.menB_frz {d n:Nat} {c:CD} {x:Ob} (h:(x.frz n c).menB d=true):x.menB d=true:=by
 cases x with
 | box xs=>
   simp only[Ob.frz,Ob.menB,List.any_map,List.any_eq_true,Function.comp]at h⊢;obtain⟨y,h1,h2⟩:=h;exact⟨y,h1,CV.menB_frz h2⟩
 |row _ _ _=>exact h
 |mp _=>exact h
 |mat _ _ _ _=>exact h
 |refs _ _=>exact h
 |mps _ _=>exact h
 |it _ _=>exact h
section
variable {P:Program} {ops:Array Oper}
theorem split_at {l:List Nat} {i:Nat} (hs:l.Pairwise (· < ·)) (hi:i∈l):∃a b,l=a++i::b/\l.filter (fun j=>decide (j≠i))=a++b/\(∀j∈a,j<i)/\∀j∈b,i<j:=by
 obtain⟨a,b,rfl⟩:=List.append_of_mem hi;obtain⟨h1,h2,h3⟩:=List.pairwise_append.1 hs;have h2':=(NV.1 h2).1;have h3':∀j∈a,j<i:=fun j hj=>h3 j hj i (by simp);refine⟨a,b,rfl,?_,h3',h2'⟩;rw[Dp,List.filter_cons];simp only[ne_eq,not_true_eq_false,decide_false,Nz,NW];rw[Dl.2 fun j hj=>by simp;exact Nat.ne_of_lt (h3' j hj),Dl.2 fun j hj=>by simp;exact Nat.ne_of_gt (h2' j hj)]
theorem rest_set {listed:Array Bool} {i:Nat} (hsz:listed.size=ops.size) (hi:i∈Xy ops listed):Xy ops (listed.setIfInBounds i true)=(Xy ops listed).filter (fun j=>decide (j≠i)):=by
 have hii:i<listed.size:=by rw[hsz];exact(QN.1 hi).1
 unfold Xy;rw[List.filter_filter];apply List.filter_congr;intro j hj;by_cases e:j=i
 .subst e;simp[hii]
 simp only[Nq,Ny (Ne.symm e)];simp[e]
end
def rbB:Ob->Bool
 | .box _=>true
 | .row _ _ _=>true
 | .mp _=>true
 | .mat _ _ _ _=>true
 |_=>false
def Zk (dom:List Nat):CV->Bool
 | .any=>true
 | .c _=>true
 | .own n=>dom.contains n
 | .at_ n _=>dom.contains n
 | .fn _ caps=>caps.all fun p=>dom.contains p.1
 |_=>false
def X2x (dom:List Nat):Ob->Bool
 | .box cs=>cs.all (Zk dom)
 | .row _ _ _=>true
 | .mp _=>true
 | .mat _ _ _ _=>true
 |_=>false
def okTV (dom:List Nat):TV->Bool
 | .one x=>Zk dom x
 | .agg xs=>xs.all (Zk dom)
def X3T (dom:List Nat):RV->Bool
 | .v t=>okTV dom t
 | .tup ts=>ts.all (okTV dom)
def X2U (P:Program) (f:FuncId) (objs:List (Nat×Ob)) (args:List TV) (r:RV) (objs':List (Nat×Ob)):Prop:=
 XZ P f=true/\∀(F:Nat->Prop) (T:Nat->Value) (w:World) (vs:Array Value),HeapRel w (ownB T objs w) (fun _=>none) F T objs w->vs.size=args.length->
  (∀(j:Nat) t u,args[j]? =some t->vs[j]? =some u->XJ F T w t u)->
  Calls P f vs w fun x w'=>∃(v:Value) (N:Nat->Prop) (T':Nat->Value),x=.returned v/\Kept (ownB T objs w) w w'/\(∀c,N c->¬ownB T objs w c/\c<w'.heap.size)/\X9 (fun c=>F c\/N c) T' w' r v/\
   HeapRel w (ownB T objs w) (fun _=>none) (fun c=>F c\/N c) T' objs' w'/\∀n cs,lkp objs n=some (.box cs)->T' n=T n
section
variable {P:Program} {F:Nat->Prop} {T T':Nat->Value} {w w' w0:World} {B:Nat->Prop} {U:Nat->Option Value}
theorem HeapRel.nopin {objs:List (Nat×Ob)} (h:HeapRel w0 B U F T objs w):HeapRel w0 B (fun _=>none) F T objs w:=
 ⟨h.below,h.hB,h.fsz,h.ob,h.apart,h.sep,fun n v hv=>by cases hv⟩
theorem X3y {f:FuncId} {fn:Func} {c:Code} {objs objs':List (Nat×Ob)} {args:List TV} {r:RV} (hf:P.funcs[f]? =some fn) (hb:fn.body=some c) (hcall:XZ P f=true) (hnt:args.length<=fn.ntmps)
  (hpin:∀n cs,lkp objs n=some (.box cs)->1000000<=n)
  (h:HT P c ⟨fn.ntmps,Wx 0 args,objs⟩ (fun e s'=>(e=.normal\/e=.ret)/\∃s2,le s' s2/\(∃ts,X0Z P s2 fn.results.toList=some ts/\r=Xl ts)/\∀n o,lkp objs' n=some o->lkp s2.objs n=some o)):X2U P f objs args r objs':=by
 refine⟨hcall,fun F T w vs hh hsz hargs=>?_⟩
 let π0:Nat->Option Value:=fun n=>match lkp objs n with
  |some (.box _)=>some (T n)
  |_=>none
 have hh0:HeapRel w (ownB T objs w) π0 F T objs w:=⟨hh.below,hh.hB,hh.fsz,hh.ob,hh.apart,hh.sep,fun n v hv=>by
  simp only[π0]at hv;split at hv
  .rename_i cs hl;cases hv;exact⟨hpin n cs hl,rfl⟩
  cases hv⟩
 have hrel:Rel w (ownB T objs w) π0 F T ⟨fn.ntmps,Wx 0 args,objs⟩ {tmps:=vs++Array.replicate (fn.ntmps - vs.size) undef,defers:=[]} w:=by
  refine⟨hh0,rfl,by simp;omega,fun k r hl=>?_⟩;obtain⟨h1,t,ht,rfl⟩:=WC args 0 k r hl;have hk:k<vs.size:=by rw[hsz];exact(N5.1 ht).1
  have hv:(vs++Array.replicate (fn.ntmps - vs.size) undef).getD k undef=vs[k]:=by
   rw[Nq,NQ hk];simp[hk]
  rw[hv];exact hargs (k - 0) t vs[k] ht (by simp[hk])
 refine calls_of_wp hf hb (wp_mono (h w _ _ F T _ w hrel) ?_);rintro x a' w' ⟨s',F1,γ1,⟨he,s2,hle,⟨ts,hts,rfl⟩,hobjs⟩,h1,h2,hr'⟩;obtain⟨F2,γ2,h3,h4,hr2⟩:=hle w _ _ F1 γ1 a' w' hr';obtain⟨us,hus,hul,huc⟩:=Z0 hr2 hts
 have hFF:∀c,F2 c->F c\/(F2 c/\¬ownB T objs w c):=by
  intro c hc;rcases h4 c hc with h5|h5
  .rcases h2 c h5 with h6|h6
   .exact .inl h6
   exact .inr ⟨hc,h6⟩
  exact .inr ⟨hc,h5⟩
 have hEq:(fun c=>F c\/(F2 c/\¬ownB T objs w c))=F2:=by
  funext c
  refine propext ⟨fun h=>?_,hFF c⟩;rcases h with h|h
  .exact h3 c (h1 c h)
  exact h.1
 have hres:∃v,(results fn a'.tmps).run P w'=.ok v w'/\X9 F2 γ2 w' (Xl ts) v:=by
  rw[ZG,Sem.run_bind,hus,Result.andThen_ok];refine⟨_,rfl,?_⟩
  match ts,us,hul,huc with
  |[],[],_,_=>exact⟨#[],rfl,rfl,by simp⟩
  |[t],[u],_,hc=>exact hc 0 t u rfl rfl
  |t1::t2::ts,u1::u2::us,hl,hc=>exact⟨(u1::u2::us).toArray,by simp,by simpa using hl,fun j t u ht hu=>hc j t u ht (by simpa using hu)⟩
 obtain⟨v,hv,hvr⟩:=hres
 have key:a'.defers=[]/\∃v,(results fn a'.tmps).run P w'=.ok v w'/\∃(v2:Value) (N:Nat->Prop) (T':Nat->Value),Ending.returned v=.returned v2/\Kept (ownB T objs w) w w'/\
   (∀c,N c->¬ownB T objs w c/\c<w'.heap.size)/\X9 (fun c=>F c\/N c) T' w' (Xl ts) v2/\
   HeapRel w (ownB T objs w) (fun _=>none) (fun c=>F c\/N c) T' objs' w'/\∀n cs,lkp objs n=some (.box cs)->T' n=T n:=by
  refine⟨hr2.defers,v,hv,v,fun c=>F2 c/\¬ownB T objs w c,γ2,rfl,hr2.heap.below,fun c hc=>⟨hc.2,hr2.heap.fsz c hc.1⟩,hvr.mono hFF fun _ _=>rfl,?_,fun n cs hl=>?_⟩
  .rw[hEq];exact(hr2.heap.less hobjs).nopin
  exact(hr2.heap.pin n (T n) (by simp only[π0,hl])).2
 rcases he with rfl|rfl
 .exact key
 exact key
theorem Xo.agree {x:CV} {v:Value} (hm:∀n,x.men n->T' n=T n) (h:Xo F T w x v):Xo F T' w x v:=by
 induction x with
 |gd b x ih=>exact⟨fun hb=>ih hm (h.1 hb),h.2⟩
 |any=>exact h
 |c d=>exact h
 |own n=>simp only[Xo]at*;rw[hm n rfl];exact h
 |at_ n off=>simp only[Xo]at*;rw[hm n rfl];exact h
 |el n s i off=>simp only[Xo]at*;rw[hm n rfl];exact h
 |sub n i=>simp only[Xo]at*;rw[hm n rfl];exact h
 |el2 n s i j off=>simp only[Xo]at*;rw[hm n rfl];exact h
 | fn f caps=>
   obtain⟨vs,hv,hl,hc⟩:=h;refine⟨vs,hv,hl,fun j p u hp hu=>?_⟩;rw[hm p.1 ⟨p,N3 hp,rfl⟩];exact hc j p u hp hu
theorem Xi.agree {xs:List CV} {vs:Array Value} (hm:∀n,(∃x∈xs,x.men n)->T' n=T n) (h:Xi F T w xs vs):Xi F T' w xs vs:=
 ⟨h.1,fun j x u hx hu=>(h.2 j x u hx hu).agree fun n hn=>hm n ⟨x,N3 hx,hn⟩⟩
theorem XJ.agree {x:TV} {v:Value} (hm:∀n,x.men n->T' n=T n) (h:XJ F T w x v):XJ F T' w x v:=by
 cases x with
 |one x=>exact Xo.agree hm h
 |agg xs=>obtain⟨vs,rfl,hc⟩:=h;exact⟨vs,rfl,hc.agree hm⟩
theorem X9.agree {x:RV} {v:Value} (hm:∀n,x.men n->T' n=T n) (h:X9 F T w x v):X9 F T' w x v:=by
 cases x with
 |v t=>exact XJ.agree hm h
 | tup ts=>
   obtain⟨vs,rfl,hs,hc⟩:=h;exact⟨vs,rfl,hs,fun j t u ht hu=>(hc j t u ht hu).agree fun n hn=>hm n ⟨t,N3 ht,hn⟩⟩
theorem Q4.agree {x:Value} {o:Ob} (hm:∀n,o.men n->T' n=T n) (h:Q4 F T w B x o):Q4 F T' w B x o:=by
 cases o with
 |box cs=>obtain⟨b,e,vs,rfl,hb,hh,hc⟩:=h;exact⟨b,e,vs,rfl,hb,hh,hc.agree hm⟩
 |row e s rows=>exact h
 |mp l=>exact h
 |mat e e' s rows=>exact h
 | refs e ns=>
   obtain⟨b,rfl,hb,hh⟩:=h;refine⟨b,rfl,hb,?_⟩;rw[hh];congr 3;refine List.map_congr_left fun n hn=>?_;rw[hm n hn]
 |mps e ms=>exact h
 |it l seen=>exact h
theorem X0l (x:CV):x.okNil []=true:=by
 induction x with
 |gd b x ih=>exact ih
 |_=>simp[CV.okNil]
theorem Xao {Y:Nat->Nat} {cs:List CV} {vs:Array Value} (h:Xi F T w (cs.map (CV.ren Y [])) vs):Xi F (fun n=>T (Y n)) w cs vs:=by
 refine⟨by simpa using h.1,fun j x u hx hu=>?_⟩;exact Xo.ren (Y:=Y) (nils:=[]) (fun n _=>rfl) (fun n hn=>by cases hn) (X0l x) (h.2 j (x.ren Y []) u (by simp[hx]) hu)
theorem X4o {I:Nat->Nat} {dom:List Nat} {x:CV} {v:Value} (hd:∀n,dom.contains n=true->T' (I n)=T n) (ho:Zk dom x=true) (h:Xo F T w x v):Xo F T' w (x.ren I []) v:=by
 cases x with
 |any=>trivial
 |c d=>exact h
 | own n=>
   simp only[Zk]at ho;simp only[CV.ren,List.contains_nil,Nz,NW,Xo]at*;rw[hd n ho];exact h
 | at_ n off=>
   simp only[Zk]at ho;simp only[CV.ren,List.contains_nil,Nz,NW,Xo]at*;rw[hd n ho];exact h
 | fn f caps=>
   simp only[Zk,Nh]at ho;obtain⟨vs,hv,hl,hc⟩:=h;refine⟨vs,hv,by simpa using hl,fun j p u hp hu=>?_⟩;rw[Nf]at hp;simp only[N8]at hp;obtain⟨q,hq,rfl⟩:=hp;simp only;rw[hd q.1 (ho q (N3 hq))];exact hc j q u hq hu
 |_=>cases ho
theorem tv_out {I:Nat->Nat} {dom:List Nat} {x:TV} {v:Value} (hd:∀n,dom.contains n=true->T' (I n)=T n) (ho:okTV dom x=true) (h:XJ F T w x v):XJ F T' w (x.ren I []) v:=by
 cases x with
 |one x=>exact X4o hd ho h
 | agg xs=>
   obtain⟨vs,rfl,hs,hc⟩:=h;refine⟨vs,rfl,by simpa using hs,fun j y u hy hu=>?_⟩;rw[Nf]at hy;simp only[N8]at hy;obtain⟨z,hz,rfl⟩:=hy;simp only[okTV,Nh]at ho;exact X4o hd (ho z (N3 hz)) (hc j z u hz hu)
theorem rv_out {I:Nat->Nat} {dom:List Nat} {x:RV} {v:Value} (hd:∀n,dom.contains n=true->T' (I n)=T n) (ho:X3T dom x=true) (h:X9 F T w x v):X9 F T' w (x.ren I []) v:=by
 cases x with
 |v t=>exact tv_out hd ho h
 | tup ts=>
   obtain⟨vs,rfl,hs,hc⟩:=h;refine⟨vs,rfl,by simpa using hs,fun j y u hy hu=>?_⟩;rw[Nf]at hy;simp only[N8]at hy;obtain⟨z,hz,rfl⟩:=hy;simp only[X3T,Nh]at ho;exact tv_out hd (ho z (N3 hz)) (hc j z u hz hu)
theorem mat_B {B':Nat->Prop} {e e':TypeId} {s:Nat} {x:Value} {rows:List (Option (List (List CD)))} (h:Q4 F T w B x (.mat e e' s rows)) (hB:∀b,Blk x b->¬B' b):Q4 F T' w B' x (.mat e e' s rows):=by
 obtain⟨o,is,rfl,h0,hl,⟨xs,⟨hxl,hown⟩,hxs⟩,hin,hd1,hd2⟩:=h;have hbk:∀v∈o::is,∀b,blk v=some b->¬B' b:=fun v hv b hb=>hB b ⟨v,by simpa using hv,hb⟩;refine⟨o,is,rfl,h0,hl,⟨xs,⟨hxl,hown.imp id ?_⟩,hxs⟩,fun i v r hv hr=>?_,hd1,hd2⟩
 .rintro⟨g,oo,cap,cur,rfl,_,Xy⟩;exact⟨g,oo,cap,cur,rfl,hbk _ List.mem_cons_self g rfl,Xy⟩
 have h1:=hin i v r hv hr;cases r with
 |none=>exact h1
 |some rr=>exact X8b h1 (hbk v (Nx _ (N3 hv)))
theorem ob_out {I:Nat->Nat} {dom:List Nat} {B':Nat->Prop} {x:Value} {o:Ob} (hd:∀n,dom.contains n=true->T' (I n)=T n) (ho:X2x dom o=true) (hB:∀b,¬B b->¬B' b) (h:Q4 F T w B x o):Q4 F T' w B' x (o.ren I []):=by
 cases o with
 | box cs=>
   obtain⟨b,e,vs,rfl,hb,hh,hc⟩:=h;refine⟨b,e,vs,rfl,hB b hb,hh,by simpa using hc.1,fun j y u hy hu=>?_⟩;rw[Nf]at hy;simp only[N8]at hy;obtain⟨z,hz,rfl⟩:=hy;simp only[X2x,Nh]at ho;exact X4o hd (ho z (N3 hz)) (hc.2 j z u hz hu)
 | row e s rows=>
   have hrow:Xm F w B e s x rows:=h;obtain⟨xs,hown⟩:=Xm.own hrow;exact X8b hrow fun b hb=>hB b (hown.blk_lt hb).1
 | mp l=>
   obtain⟨b,es,clock,h1,h2,h3⟩:=h;exact⟨b,es,clock,h1,hB b h2,h3⟩
 |mat e e' s rows=>exact mat_B h fun b hb=>hB b (h.blk_lt hb).1
 |_=>cases ho
def X0S (I:Nat->Nat):List (Nat×Ob)->List (Nat×Ob)->List (Nat×Ob)
 |[],b=>b
 |(n,o)::l,b=>ins (I n) (o.ren I []) (X0S I l b)
theorem Zv {I:Nat->Nat} {b:List (Nat×Ob)} {m:Nat} {o:Ob}:∀{l:List (Nat×Ob)},lkp (X0S I l b) m=some o->
  (∃n o',lkp l n=some o'/\I n=m/\o=o'.ren I [])\/((∀n o',lkp l n=some o'->I n≠m)/\lkp b m=some o)
 |[],h=>.inr ⟨fun n o' h=>(by cases h),h⟩
 | (k,x)::l,h=>by
   simp only[X0S]at h;rw[Qb]at h;split at h
   .rename_i e;cases h;exact .inl ⟨k,x,by simp[lkp],e.symm,rfl⟩
   rename_i e;rcases Zv h with⟨n,o',h1,h2,h3⟩|⟨h1,h2⟩
   .refine .inl ⟨n,o',?_,h2,h3⟩;have:¬k=n:=fun hk=>e (by rw[hk,h2]);simp[lkp,this,h1]
   refine .inr ⟨fun n o' hn=>?_,h2⟩;simp only[lkp]at hn;split at hn
   .rename_i hk;rw[<-hk];exact fun h=>e h.symm
   exact h1 n o' hn
def invS (I:Nat->Nat):List (Nat×Ob)->Nat->Option Nat
 |[],_=>none
 |(n,_)::l,m=>if I n=m then some n else invS I l m
theorem X7c {I:Nat->Nat} {m n:Nat}:∀{l:List (Nat×Ob)},invS I l m=some n->I n=m/\∃o,lkp l n=some o
 |[],h=>by cases h
 | (k,x)::l,h=>by
   simp only[invS]at h;split at h
   .rename_i e;cases h;exact⟨e,x,by simp[lkp]⟩
   obtain⟨h1,o,h2⟩:=X7c h;refine⟨h1,?_⟩;by_cases e:k=n
   .exact⟨x,by simp[lkp,e]⟩
   exact⟨o,by simp[lkp,e,h2]⟩
theorem X9Z {I:Nat->Nat} {n:Nat} {o:Ob}:∀{l:List (Nat×Ob)},(∀a b oa ob,lkp l a=some oa->lkp l b=some ob->a≠b->I a≠I b)->lkp l n=some o->invS I l (I n)=some n
 |[],_,h=>by cases h
 | (k,x)::l,hi,h=>by
   simp only[invS];split
   .rename_i e;by_cases hk:k=n
    .rw[hk]
    exact absurd e (hi k n x o (by simp[lkp]) h hk)
   rename_i e;have hk:¬k=n:=fun hk=>e (by rw[hk]);have h':lkp l n=some o:=by simpa[lkp,hk]using h
   refine X9Z (fun a b oa ob ha hb hne=>?_) h'
   obtain⟨oa',ha'⟩:∃o,lkp ((k,x)::l) a=some o:=by
    by_cases e:k=a
    .exact⟨x,by simp[lkp,e]⟩
    exact⟨oa,by simp[lkp,e,ha]⟩
   obtain⟨ob',hb'⟩:∃o,lkp ((k,x)::l) b=some o:=by
    by_cases e:k=b
    .exact⟨x,by simp[lkp,e]⟩
    exact⟨ob,by simp[lkp,e,hb]⟩
   exact hi a b oa' ob' ha' hb' hne
structure HandS (Y I:Nat->Nat) (objs objs':List (Nat×Ob)) (s:HS):Prop where
 at_:∀n o,lkp objs n=some o->lkp s.objs (Y n)=some (o.ren Y [])
 rb:∀n o,lkp objs n=some o->rbB o=true
 inj:∀n m on om,lkp objs n=some on->lkp objs m=some om->n≠m->Y n≠Y m
 inj':∀n m on om,lkp objs' n=some on->lkp objs' m=some om->n≠m->I n≠I m
 out:∀n o,lkp objs' n=some o->X2x (objs'.map (·.1)) o=true
 box:∀n cs,lkp objs' n=some (.box cs)->(I n=Y n/\∃cs0,lkp objs n=some (.box cs0))\/QV (I n) s=true
 oth:∀n o,lkp objs' n=some o->(∀cs,o≠ .box cs)->QV (I n) s=true
theorem ZD {Y I:Nat->Nat} {objs objs':List (Nat×Ob)} {s:HS} (h1:∀p∈objs,lkp s.objs (Y p.1)=some (p.2.ren Y [])/\rbB p.2=true) (h2:∀p∈objs,∀q∈objs,p.1≠q.1->Y p.1≠Y q.1) (h3:∀p∈objs',∀q∈objs',p.1≠q.1->I p.1≠I q.1)
  (h4:∀p∈objs',X2x (objs'.map (·.1)) p.2=true) (h5:∀p∈objs',match p.2 with| .box _=>(I p.1=Y p.1/\∃cs0,lkp objs p.1=some (.box cs0))\/QV (I p.1) s=true|_=>QV (I p.1) s=true):HandS Y I objs objs' s where
 at_ n o h:=(h1 _ (XE h)).1
 rb n o h:=(h1 _ (XE h)).2
 inj n m on om hn hm hne:=h2 _ (XE hn) _ (XE hm) hne
 inj' n m on om hn hm hne:=h3 _ (XE hn) _ (XE hm) hne
 out n o h:=h4 _ (XE h)
 box n cs h:=h5 _ (XE h)
 oth n o h hb:=by
  have:=h5 _ (XE h);cases o with
  |box cs=>exact absurd rfl (hb cs)
  |_=>exact this
theorem HandS.heap {Y I:Nat->Nat} {objs objs':List (Nat×Ob)} {s:HS} (hd:HandS Y I objs objs' s) (h:HeapRel w0 B U F T s.objs w):
  HeapRel w (ownB (fun n=>T (Y n)) objs w) (fun _=>none) F (fun n=>T (Y n)) objs w where
 below:=Kept.refl _ _
 hB b hb:=hb.1
 fsz:=h.fsz
 ob n o ho:=by
  have h1:=h.ob _ _ (hd.at_ n o ho);have h2:=hd.rb n o ho;cases o with
  | row e s rows=>
    have h1:Xm F w B e s (T (Y n)) rows:=h1;exact X8b h1 fun b hb hx=>hx.2 ⟨n,_,ho,(W6 (Xm.sl h1)).2 hb⟩
  | box cs=>
    obtain⟨b,e,vs,hx,hB,hh,hc⟩:=h1;exact⟨b,e,vs,hx,fun hb=>hb.2 ⟨n,_,ho,by rw[show(fun n=>T (Y n)) n=T (Y n) from rfl,hx];rfl⟩,hh,Xao hc⟩
  | mp l=>
    obtain⟨b,es,clock,hx,hB,h3⟩:=h1;exact⟨b,es,clock,hx,fun hb=>hb.2 ⟨n,_,ho,by rw[show(fun n=>T (Y n)) n=T (Y n) from rfl,hx];rfl⟩,h3⟩
  |mat e e' s rows=>exact mat_B h1 fun b hb hx=>hx.2 ⟨n,_,ho,hb⟩
  |_=>cases h2
 apart n o ho b hb:=h.apart _ _ (hd.at_ n o ho) b hb
 sep n m on om hn hm hne b hb hb':=h.sep _ _ _ _ (hd.at_ n on hn) (hd.at_ m om hm) (hd.inj n m on om hn hm hne) b hb hb'
 pin n v hv:=by cases hv
theorem HandS.after {Y I:Nat->Nat} {objs objs':List (Nat×Ob)} {s:HS} (hd:HandS Y I objs objs' s) (h:HeapRel w0 B U F T s.objs w) (hk:Kept (ownB (fun n=>T (Y n)) objs w) w w') {N:Nat->Prop}
  (hN:∀c,N c->¬ownB (fun n=>T (Y n)) objs w c/\c<w'.heap.size) (hh:HeapRel w (ownB (fun n=>T (Y n)) objs w) (fun _=>none) (fun c=>F c\/N c) T' objs' w') (hbx:∀n cs,lkp objs n=some (.box cs)->T' n=T (Y n)):
  (∀b,N b->¬B b)/\(∀c,F c->w'.heap[c]? =w.heap[c]?)/\∃γ2:Nat->Value,HeapRel w0 B U (fun c=>F c\/N c) γ2 (X0S I objs' (Zl (objs.map fun p=>Y p.1) s.objs)) w'/\(∀n,(objs'.map (·.1)).contains n=true->γ2 (I n)=T' n)/\∀r:RV,(∃k,lkp s.regs k=some r)->∀n,r.men n->γ2 n=T n:=by
 have own:∀b,X0Q (fun n=>T (Y n)) objs b->∃n o,lkp objs n=some o/\lkp s.objs (Y n)=some (o.ren Y [])/\Blk (T (Y n)) b:=by
  rintro b ⟨n,o,ho,hb⟩;exact⟨n,o,ho,hd.at_ n o ho,hb⟩
 have hBo:∀b,B b->ownB (fun n=>T (Y n)) objs w b:=by
  intro b hb;refine⟨h.hB b hb,fun ho=>?_⟩;obtain⟨n,o,_,h1,h2⟩:=own b ho;exact((h.ob _ _ h1).blk_lt h2).1 hb
 have hNB:∀b,N b->¬B b:=fun b hb hx=>(hN b hb).1 (hBo b hx)
 have hF:∀c,F c->w'.heap[c]? =w.heap[c]? :=fun c hc=>hk.block c ⟨h.fsz c hc,fun ho=>by
  obtain⟨n,o,_,h1,h2⟩:=own c ho
  exact h.apart _ _ h1 c h2 hc⟩
 let γ2:Nat->Value:=fun m=>match invS I objs' m with
  |some n=>T' n
  |none=>T m
 have hin:∀n o,lkp objs' n=some o->γ2 (I n)=T' n:=by
  intro n o hl;simp only[γ2,X9Z hd.inj' hl]
 have hinD:∀n,(objs'.map (·.1)).contains n=true->γ2 (I n)=T' n:=by
  intro n hn
  have hex:∀l:List (Nat×Ob),(l.map (·.1)).contains n=true->∃o,lkp l n=some o:=by
   intro l
   induction l with
   |nil=>intro h;simp at h
   | cons p l ih=>
     intro h;by_cases e:p.1=n
     .exact⟨p.2,by simp[lkp,e]⟩
     have:(l.map (·.1)).contains n=true:=by
      simp only[Na,List.contains_cons,Ng,beq_iff_eq]at h;exact h.resolve_left (fun h=>e h.symm)
     obtain⟨o,ho⟩:=ih this;exact⟨o,by simp[lkp,e,ho]⟩
  obtain⟨o,ho⟩:=hex _ hn;exact hin n o ho
 -- where the names differ, nothing old is mentioned
 have hout:∀m,γ2 m=T m\/QV m s=true:=by
  intro m;simp only[γ2];split
  .rename_i n hn;obtain⟨h1,o,h2⟩:=X7c hn;cases o with
   | box cs=>
     rcases hd.box n cs h2 with⟨h3,cs0,h4⟩|h3
     .exact .inl (by rw[hbx n cs0 h4,<-h3,h1])
     exact .inr (by rw[<-h1];exact h3)
   |_=>exact .inr (by rw[<-h1];exact hd.oth n _ h2 (by simp))
  exact .inl rfl
 have hold:∀m o,lkp s.objs m=some o->γ2 m=T m/\∀n,o.men n->γ2 n=T n:=by
  intro m o hl;refine⟨(hout m).resolve_right fun hu=>(Zu hu m o (XE hl)).1 rfl,fun n hn=>(hout n).resolve_right fun hu=>(Zu hu m o (XE hl)).2 hn⟩
 have hlk:∀m o,lkp (Zl (objs.map fun p=>Y p.1) s.objs) m=some o->lkp s.objs m=some o/\∀n o',lkp objs n=some o'->Y n≠m:=by
  intro m o hl;rw[X3o]at hl;split at hl
  .cases hl
  rename_i hm;exact⟨hl,fun n o' ho e=>hm (NN.2 ⟨(n,o'),XE ho,e⟩)⟩
 have hsep:∀m o,lkp (Zl (objs.map fun p=>Y p.1) s.objs) m=some o->∀b,Blk (T m) b->ownB (fun n=>T (Y n)) objs w b:=by
  intro m o hl b hb;obtain⟨h1,h2⟩:=hlk m o hl;refine⟨((h.ob m o h1).blk_lt hb).2,fun ho=>?_⟩;obtain⟨n,o',h3,h4,h5⟩:=own b ho;exact h.sep _ _ _ _ h1 h4 (Ne.symm (h2 n o' h3)) b hb h5
 refine⟨hNB,hF,γ2,?_,hinD,fun r ⟨k,hr⟩ n hn=>(hout n).resolve_right fun hu=>X05 hu (XE hr) hn⟩
 exact {
  below:=h.below.trans ⟨hk.os,hk.tape,hk.output,hk.size,fun c hc=>hk.block c (hBo c hc)⟩
  hB:=fun c hc=>NA (h.hB c hc) hk.size
  fsz:=fun c hc=>by
   rcases hc with hc|hc
   .exact NA (h.fsz c hc) hk.size
   exact(hN c hc).2
  ob:=fun m o hl=>by
   rcases Zv hl with⟨n,o',h1,rfl,rfl⟩|⟨h1,h2⟩
   .rw[hin n o' h1];exact ob_out hinD (hd.out n o' h1) (fun b hb hx=>hb (hBo b hx)) (hh.ob n o' h1)
   obtain⟨h3,_⟩:=hlk m o h2;obtain⟨h4,h5⟩:=hold m o h3;rw[h4];have h6:=h.ob m o h3;refine Q4.agree h5 (h6.mono (fun _ h=>.inl h) hF fun c hc=>hk.block c (hsep m o h2 c hc))
  apart:=fun m o hl c hc hFc=>by
   rcases Zv hl with⟨n,o',h1,rfl,rfl⟩|⟨h1,h2⟩
   .rw[hin n o' h1]at hc;exact hh.apart n o' h1 c hc hFc
   obtain⟨h3,_⟩:=hlk m o h2;rw[(hold m o h3).1]at hc;rcases hFc with hFc|hFc
   .exact h.apart m o h3 c hc hFc
   exact(hN c hFc).1 (hsep m o h2 c hc)
  sep:=fun m k om ok hm hk' hne b hb hb'=>by
   rcases Zv hm with⟨n,o',h1,rfl,rfl⟩|⟨h1,h2⟩
   .rw[hin n o' h1]at hb;rcases Zv hk' with⟨n2,o2,g1,rfl,rfl⟩|⟨g1,g2⟩
    .rw[hin n2 o2 g1]at hb';exact hh.sep n n2 o' o2 h1 g1 (fun e=>hne (by rw[e])) b hb hb'
    rw[(hold k ok (hlk k ok g2).1).1]at hb';exact((hh.ob n o' h1).blk_lt hb).1 (hsep k ok g2 b hb')
   rw[(hold m om (hlk m om h2).1).1]at hb;rcases Zv hk' with⟨n2,o2,g1,rfl,rfl⟩|⟨g1,g2⟩
   .rw[hin n2 o2 g1]at hb';exact((hh.ob n2 o2 g1).blk_lt hb').1 (hsep m om h2 b hb)
   rw[(hold k ok (hlk k ok g2).1).1]at hb';exact h.sep m k om ok (hlk m om h2).1 (hlk k ok g2).1 hne b hb hb'
  pin:=fun n v hv=>by
   obtain⟨h1,h2⟩:=h.pin n v hv;refine⟨h1,?_⟩;rw[<-h2];refine(hout n).resolve_right fun hu=>?_;unfold QV at hu;simp only[N4,N7]at hu
   omega}
def capsT:List TV->List (Nat×Nat)->List TV
 |ts,[]=>ts
 |ts,c::cs=>ts++(c::cs).map fun p=>TV.one (.at_ p.1 p.2)
theorem capsT_eq (ts:List TV) (caps:List (Nat×Nat)):capsT ts caps=ts++caps.map fun p=>TV.one (.at_ p.1 p.2):=by
 cases caps<;>simp[capsT]
def gOfC (s:HS) (o:Oper):Option (FuncId×List TV×Nat):=
 match o.guard,o.op,o.dst with
 | none,.call {callee:=.value x,args:=args, .. },some d=>match opd s.regs x,X2h (opd s.regs) args.toList with
   | .v (.one (.fn f caps)),some ts=>if Q3 s (some d)=true then some (f,capsT ts caps,d)else none
   |_,_=>none
 |_,_,_=>none
theorem X9R {s:HS} {a:Act} {ops:Array Oper} {i:Nat} {o:Oper} {f:FuncId} {d:Nat} {objs objs':List (Nat×Ob)} {args:List TV} {Y I:Nat->Nat} {r:RV} {Kc:Act->World->Prop} {Q:Exit->Act->World->Prop} (hi:ops[i]? =some o) (h:Rel w0 B U F T s a w)
  (hc:gOfC s o=some (f,args.map (TV.ren Y []),d)) (hd:HandS Y I objs objs' s) (hcon:X2U P f objs args r objs') (hout:X3T (objs'.map (·.1)) r=true)
  (hK:∀F' γ2 a' w',(∀b,F b->F' b)->(∀b,F' b->F b\/¬B b)->Rel w0 B U F' γ2 (({s with objs:=X0S I objs' (Zl (objs.map fun p=>Y p.1) s.objs)}:HS).put (some d) (r.ren I [])) a' w'->Kc a' w'):wpOp P ops Q i Kc a w:=by
 unfold gOfC at hc;split at hc
 .rename_i x as0 ts0 d0 hgd ho hdst;split at hc
  .rename_i f0 caps0 ts hf hts;split at hc
   .rename_i hokd;simp only[Option.some.injEq,Prod.mk.injEq]at hc;obtain⟨rfl,hca,rfl⟩:=hc;obtain⟨hcall,hcon⟩:=hcon;have hx:=h.opd x;rw[hf]at hx;obtain⟨cvs,hv,hcl,hcc⟩:=hx;have hv':a.eval x=.func (.func f0) #[] cvs.toArray:=hv
    have hrun:(execOp a.eval o).run P w=.ok (.enter f0 (as0.map a.eval++cvs.toArray)) w:=by
     unfold XZ at hcall;split at hcall
     .rename_i fn hfn;simp only[N4,Nk]at hcall;have hnm:¬fn.name= "runtime.NumGoroutine" :=by simpa using hcall.1
      have hnb:¬fn.body=none:=by
       intro hb;rw[hb]at hcall;cases hcall.2
      simp[execOp,ho,resolve,hv',Deferred.ofValue,invoke,callFunc,hfn,hnm,hnb]
     cases hcall
    unfold wpOp;rw[hi];simp only;have hwant:Region.wanted o (yielded ops a.tmps)=true:=by unfold Region.wanted;rw[hgd]
    rw[hwant];simp only[NG];refine .inl ?_;unfold Oper.wp;rw[hrun,Oper.upon_enter];obtain⟨hlen,hget⟩:=ZN hts;rw[capsT_eq]at hca;have hsz:(as0.map a.eval).size=ts.length:=by rw[Array.size_map,hlen,Array.length_toList]
    refine(hcon F (fun n=>T (Y n)) w (as0.map a.eval++cvs.toArray) (hd.heap h.heap) ?_ fun j t u ht hu=>?_).mono ?_
    .have:=congrArg List.length hca;simp only[Nt,D6]at this;simp only[Array.size_append,hsz,List.size_toArray];omega
    .have key:XJ F T w (t.ren Y []) u:=by
      have hm:(ts++caps0.map fun p=>TV.one (.at_ p.1 p.2))[j]? =some (t.ren Y []):=by rw[hca];simp[ht]
      by_cases hj:j<ts.length
      .rw[Nm hj]at hm;rw[NQ (by omega)]at hu;obtain⟨y,hy,hgy⟩:=hget j _ hm
       have hu':u=a.eval y:=by
        rw[Array.getElem?_map,<-Array.getElem?_toList,hy]at hu;exact(Option.some.inj hu).symm
       rw[hu'];have:=h.opd y;rw[hgy]at this;exact this
      rw[Nl (D4 hj),Nf]at hm;rw[Array.getElem?_append_right (by omega),hsz]at hu;simp only[N8]at hm;obtain⟨p,hp,hpe⟩:=hm;rw[<-hpe];exact hcc _ p u hp (by simpa using hu)
     refine XJ.ren (Y:=Y) (nils:=[]) (fun n _=>rfl) (fun n hn=>by cases hn) ?_ key;cases t with
     |one x=>exact X0l x
     |agg xs=>simp only[TV.okNil,Nh];exact fun x _=>X0l x
    rintro x w' ⟨v,N,T',rfl,hk,hN,hr,hh,hbx⟩;obtain⟨h1,h2,γ2,h3,h5,h4⟩:=hd.after h.heap hk hN hh hbx;refine hK (fun c=>F c\/N c) γ2 _ _ (fun _ h=>.inl h) (fun c hc=>hc.imp id fun hc=>h1 c hc) ?_;rw[hdst];exact h.step (objs':=X0S I objs' (Zl (objs.map fun p=>Y p.1) s.objs)) hokd h3 (rv_out h5 hout hr) fun k r v hl hr=>X9.agree (h4 r ⟨k,hl⟩) (hr.mono (fun _ h=>.inl h) h2)
   cases hc
  cases hc
 cases hc
inductive RunsS (P:Program) (ops:Array Oper):List Oper->HS->(HS->Prop)->Prop
 |done {l:List Oper} {s:HS} {K:HS->Prop}:wpR P ops l s K->RunsS P ops l s K
 |cut {l:List Oper} {s s1 s2:HS} {K:HS->Prop} (k:Nat):wpR P ops (l.take k) s (fun t=>t=s1)->le s1 s2->RunsS P ops (l.drop k) s2 K->RunsS P ops l s K
 | call {l:List Oper} {o:Oper} {s:HS} {K:HS->Prop} {f:FuncId} {d:Nat} {objs objs':List (Nat×Ob)} {args:List TV} (Y I:Nat->Nat) {r:RV}:gOfC s o=some (f,args.map (TV.ren Y []),d)->HandS Y I objs objs' s->X2U P f objs args r objs'->X3T (objs'.map (·.1)) r=true->
   RunsS P ops l (({s with objs:=X0S I objs' (Zl (objs.map fun p=>Y p.1) s.objs)}:HS).put (some d) (r.ren I [])) K->RunsS P ops (o::l) s K
 |skip {l:List Oper} {o:Oper} {s:HS} {K:HS->Prop} (y:Value):ZV ops o s=some false->Q3 s o.dst=true->RunsS P ops l (s.put o.dst (.v (.one (.gd false (.c (.lit y)))))) K->RunsS P ops (o::l) s K
theorem skipS {ops:Array Oper} {Q:Exit->Act->World->Prop} {i:Nat} {o:Oper} {s:HS} {a:Act} {w:World} {F:Nat->Prop} {T:Nat->Value} {Kc:Act->World->Prop} (y:Value) (hi:ops[i]? =some o) (h:Rel w0 B U F T s a w) (hg:ZV ops o s=some false) (hok:Q3 s o.dst=true)
  (hK:∀a',Rel w0 B U F T (s.put o.dst (.v (.one (.gd false (.c (.lit y)))))) a' w->Kc a' w):wpOp P ops Q i Kc a w:=by
 unfold wpOp;rw[hi];simp only;rw[ZJ h hg];simp only[Nz,NW];refine hK _ ?_;exact h.step (dst:=o.dst) (r:=.v (.one (.gd false (.c (.lit y))))) (v:=undef) (objs':=s.objs) hok h.heap ⟨(fun hb=>Bool.noConfusion hb),fun _=>rfl⟩ (fun _ _ _ _ h=>h)
theorem XaO {ops:Array Oper} {K:HS->Prop} {Q:Exit->Act->World->Prop} {l:List Oper} {s:HS} (h:RunsS P ops l s K):∀(Xy:List Nat) (k:Nat) (F:Nat->Prop) (T:Nat->Value) (a:Act) (w:World),(∀j o,l[j]? =some o->ops[k+j]? =some o)->
  Rel w0 B U F T s a w->(∀s' F' T' a' w',K s'->(∀b,F b->F' b)->(∀b,F' b->F b\/¬B b)->Rel w0 B U F' T' s' a' w'->wpOps P ops Q Xy a' w')->wpOps P ops Q (List.range' k l.length++Xy) a w:=by
 induction h with
 |done hw=>exact fun Xy k F T a w hd hr hK=>QS _ k _ F T a w hd hr hw hK
 | cut n hw hle _ ih=>
   intro Xy k F T a w hd hr hK;rename_i l s s1 s2 K' _;have hl:l.length=(l.take n).length+(l.drop n).length:=by rw[<-List.length_append,List.take_append_drop]
   rw[hl,X5i,D7];refine QS (l.take n) k s F T a w (fun j o hj=>?_) hr hw fun s' F1 γ1 a1 w1 hs' h1 h2 hr1=>?_
   .rw[Nv]at hj;split at hj
    .exact hd j o hj
    cases hj
   subst hs';obtain⟨F2,γ2,h3,h4,hr2⟩:=hle w0 B U F1 γ1 a1 w1 hr1;refine ih Xy (k+(l.take n).length) F2 γ2 a1 w1 (fun j o hj=>?_) hr2 fun s3 F3 γ3 a3 w3 hk3 h5 h6 hr3=>?_
   .rw[No]at hj;have hlt:n+j<l.length:=(N5.1 hj).1;have:=hd (n+j) o hj;rw[Ns,Nat.min_eq_left (by omega),Df];exact this
   exact hK s3 F3 γ3 a3 w3 hk3 (fun b hb=>h5 b (h3 b (h1 b hb))) (fun b hb=>(h6 b hb).elim (fun hb=>(h4 b hb).elim (h2 b) .inr) .inr) hr3
 | call Y I hg hd hcon honly _ ih=>
   intro Xy k F T a w hdd hr hK;rename_i l o s K' _ _ _ _ _ _ _;rw[List.length_cons,List.range'_succ,List.cons_append,wpOps_cons];have hi:ops[k]? =some o:=hdd 0 o rfl;refine X9R hi hr hg hd hcon honly fun F2 γ2 a2 w2 h3 h4 hr2=>?_;refine ih Xy (k+1) F2 γ2 a2 w2 (fun j o' hj=>by have:=hdd (j+1) o' hj;rwa [show k+1+j=k+(j+1) by omega]) hr2 fun s3 F3 γ3 a3 w3 hk3 h5 h6 hr3=>?_;exact hK s3 F3 γ3 a3 w3 hk3 (fun b hb=>h5 b (h3 b hb)) (fun b hb=>(h6 b hb).elim (h4 b) .inr) hr3
 | skip y hg hok _ ih=>
   intro Xy k F T a w hdd hr hK;rename_i l o s K' _;rw[List.length_cons,List.range'_succ,List.cons_append,wpOps_cons];have hi:ops[k]? =some o:=hdd 0 o rfl;refine skipS y hi hr hg hok fun a2 hr2=>?_;exact ih Xy (k+1) F T a2 w (fun j o' hj=>by have:=hdd (j+1) o' hj;rwa [show k+1+j=k+(j+1) by omega]) hr2 hK
theorem X4I {id:Nat} {ops:Array Oper} {s:HS} {Q:Exit->HS->Prop} (h:RunsS P ops ops.toList s (Q .normal)):HT P (.region id ops false) s Q:=by
 intro w0 B U F T a w hr;refine wp_region ?_
 have:=XaO (w0:=w0) (B:=B) (U:=U) (Q:=fun e a' w'=>∃(s':HS) (F':Nat->Prop) (T':Nat->Value),Q e s'/\(∀b,F b->F' b)/\(∀b,F' b->F b\/¬B b)/\Rel w0 B U F' T' s' a' w') h [] 0 F T a w (by simp) hr
  fun s' F' T' a' w' hk h1 h2 h3=>⟨s',F',T',hk,h1,h2,h3⟩
 rw[List.range_eq_range'];simpa using this
theorem RunsS.cutE {ops:Array Oper} {l:List Oper} {s s1 s2:HS} {p:Prop} {K:HS->Prop} (k:Nat) (cs:List CR) (h:evc P ops (l.take k) s cs=some (s1,p)) (hp:p) (hle:le s1 s2) (hr:RunsS P ops (l.drop k) s2 K):RunsS P ops l s K:=
 .cut k (Qn _ _ _ _ _ h hp rfl) hle hr
theorem RunsS.doneE {ops:Array Oper} {l:List Oper} {s s1:HS} {p:Prop} {K:HS->Prop} (cs:List CR) (h:evc P ops l s cs=some (s1,p)) (hp:p) (hq:K s1):RunsS P ops l s K:=
 .done (Qn _ _ _ _ _ h hp hq)
end
section
variable {P:Program} {ops:Array Oper}
end
section
variable {P:Program} {ops:Array Oper}
end
end Go.Hl
namespace Go.Hl
open Go Go.RowKit
open Go.ChangeMaps (setBlock)
def ConF {X:Type} (P:Program) (f:FuncId) (fresh:Bool) (args:List TV) (J:X->Prop) (r:X->RV) (ob:X->Option Ob) (d:Nat):Prop:=
 XZ P f=true/\∀(F:Nat->Prop) (w:World) (vs:Array Value),(∀b,F b->b<w.heap.size)->vs.size=args.length->
  (∀(j:Nat) t u,args[j]? =some t->vs[j]? =some u->XJ F noγ w t u)->
  Calls P f vs w fun e w'=>∃(y:X) (v:Value) (N:Nat->Prop) (T':Nat->Value),J y/\e=.returned v/\Below w.heap.size w w'/\(∀b,N b->w.heap.size<=b/\b<w'.heap.size)/\
   X9 (Res fresh F N) T' w' (r y) v/\∀o,ob y=some o->Q4 (Res fresh F N) T' w' (fun b=>b<w.heap.size) (T' d) o/\∀b,Blk (T' d) b->¬N b
def callF (P:Program) (s:HS) (g:Operand->RV) (o:Oper) (K:Nat->RV->Option Ob->Prop):Prop:=
 match o.op,o.dst with
 | .call {callee:=.value x,args:=args, .. },some d=>match Wh s.objs (g x),X1w s.objs g args.toList with
   | some (f,own,es),some ts=>∃(fresh:Bool) (X:Type) (J:X->Prop) (r:X->RV) (ob:X->Option Ob),ConF P f fresh (ts++es) J r ob d/\(fresh=true\/(own||args.toList.any fun x=>(g x).ownB)=false)/\
     (∀y,J y->((ob y).isSome=true->QV d s=true)/\(r y).onlyB (ob y).isSome d=true/\(∀o,ob y=some o->o.flat=true))/\Q3 s (some d)=true/\∀y,J y->K d (r y) (ob y)
   |_,_=>False
 |_,_=>False
section
variable {P:Program} {F:Nat->Prop} {T:Nat->Value} {w w' w0:World} {B:Nat->Prop} {U:Nat->Option Value}
end
def ConN {X:Type} (P:Program) (f:FuncId) (pv:Option Value) (objs:List (Nat×Ob)) (args:List TV) (J:X->Prop) (r:X->RV) (objs':X->List (Nat×Ob)):Prop:=
 XZ P f=true/\∀(F:Nat->Prop) (T:Nat->Value) (w:World) (vs:Array Value),HeapRel w (ownB T objs w) (fun _=>none) F T objs w->(∀v,pv=some v->T 1000000=v)->vs.size=args.length->
  (∀(j:Nat) t u,args[j]? =some t->vs[j]? =some u->XJ F T w t u)->
  Calls P f vs w fun x w'=>∃(y:X) (v:Value) (N:Nat->Prop) (T':Nat->Value),J y/\x=.returned v/\Kept (ownB T objs w) w w'/\(∀c,N c->¬ownB T objs w c/\c<w'.heap.size)/\X9 (fun c=>F c\/N c) T' w' (r y) v/\
   HeapRel w (ownB T objs w) (fun _=>none) (fun c=>F c\/N c) T' (objs' y) w'/\∀n cs,lkp objs n=some (.box cs)->T' n=T n
section
variable {P:Program} {F:Nat->Prop} {T T':Nat->Value} {w w' w0:World} {B:Nat->Prop} {U:Nat->Option Value}
theorem X2U.toN {f:FuncId} {objs objs':List (Nat×Ob)} {args:List TV} {r:RV} (h:X2U P f objs args r objs'):ConN (X:=Unit) P f none objs args (fun _=>True) (fun _=>r) (fun _=>objs'):=
 ⟨h.1,fun F T w vs hh _ hs ha=>(h.2 F T w vs hh hs ha).mono fun e w' ⟨v,N,T',h1,h2⟩=>⟨(),v,N,T',trivial,h1,h2⟩⟩
def capV:RV->Option (FuncId×List TV)
 | .v (.one (.fn f caps))=>some (f,caps.map fun p=>.one (.at_ p.1 p.2))
 | .v (.one (.c (.fn f ds)))=>some (f,ds.map fun d=>.one (.c d))
 |_=>none
theorem WY {x:RV} {f:FuncId} {es:List TV} {v:Value} (h:capV x=some (f,es)) (hr:X9 F T w x v):
  ∃us:List Value,v=.func (.func f) #[] us.toArray/\us.length=es.length/\∀(j:Nat) t u,es[j]? =some t->us[j]? =some u->XJ F T w t u:=by
 unfold capV at h;split at h
 .cases h;obtain⟨vs,rfl,hl,hc⟩:=hr;refine⟨vs,rfl,by simp[hl],fun j t u ht hu=>?_⟩;rw[Nf]at ht;simp only[N8]at ht;obtain⟨p,hp,rfl⟩:=ht;exact hc j p u hp hu
 .rename_i f ds;cases h;have hr':CRel F w (.fn f ds) v:=hr;cases hr' with
  | fn _ _ vs hl hc=>
    refine⟨vs,rfl,by simp[hl],fun j t u ht hu=>?_⟩;rw[Nf]at ht;simp only[N8]at ht;obtain⟨d,hd,rfl⟩:=ht;exact hc j d u hd hu
 cases h
def catT (ts:List TV):List TV->List TV
 |[]=>ts
 |e::es=>ts++e::es
theorem catT_eq (ts es:List TV):catT ts es=ts++es:=by
 cases es<;>simp[catT]
def gOfN (s:HS) (o:Oper):Option (FuncId×List TV×Nat):=
 match o.guard,o.op,o.dst with
 | none,.call {callee:=.value x,args:=args, .. },some d=>match capV (opd s.regs x),X2h (opd s.regs) args.toList with
   |some (f,es),some ts=>if Q3 s (some d)=true then some (f,catT ts es,d)else none
   |_,_=>none
 |_,_,_=>none
def pvOK (pv:Option Value) (s:HS) (Y:Nat->Nat):Prop:=pv=none\/(s.nt.pv=pv/\Y 1000000=1000000)
theorem n_sound {X:Type} {s:HS} {a:Act} {ops:Array Oper} {i:Nat} {o:Oper} {f:FuncId} {d:Nat} {pv:Option Value} {objs:List (Nat×Ob)} {args:List TV} {Y I:Nat->Nat} {J:X->Prop} {r:X->RV} {objs':X->List (Nat×Ob)} {Kc:Act->World->Prop} {Q:Exit->Act->World->Prop} (hi:ops[i]? =some o) (h:Rel w0 B U F T s a w)
  (hc:gOfN s o=some (f,args.map (TV.ren Y []),d)) (hp:pvOK pv s Y) (hd0:HandS Y I objs [] s) (hd:∀y,J y->HandS Y I objs (objs' y) s) (hcon:ConN P f pv objs args J r objs') (hout:∀y,J y->X3T ((objs' y).map (·.1)) (r y)=true)
  (hK:∀y,J y->∀F' γ2 a' w',(∀b,F b->F' b)->(∀b,F' b->F b\/¬B b)->Rel w0 B U F' γ2 (({s with objs:=X0S I (objs' y) (Zl (objs.map fun p=>Y p.1) s.objs)}:HS).put (some d) ((r y).ren I [])) a' w'->Kc a' w'):wpOp P ops Q i Kc a w:=by
 have hpg:∀v,pv=some v->T (Y 1000000)=v:=by
  intro v hv;rcases hp with h1|⟨h1,h2⟩
  .rw[h1]at hv;cases hv
  rw[h2];exact(h.heap.pin 1000000 v (h.nt.2 v (h1.trans hv))).2
 unfold gOfN at hc;split at hc
 .rename_i x as0 ts0 d0 hgd ho hdst;split at hc
  .rename_i f0 es0 ts hf hts;split at hc
   .rename_i hokd;simp only[Option.some.injEq,Prod.mk.injEq]at hc;obtain⟨rfl,hca,rfl⟩:=hc;obtain⟨hcall,hcon⟩:=hcon;obtain⟨cvs,hv,hcl,hcc⟩:=WY hf (h.opd x);have hv':a.eval x=.func (.func f0) #[] cvs.toArray:=hv
    have hrun:(execOp a.eval o).run P w=.ok (.enter f0 (as0.map a.eval++cvs.toArray)) w:=by
     unfold XZ at hcall;split at hcall
     .rename_i fn hfn;simp only[N4,Nk]at hcall;have hnm:¬fn.name= "runtime.NumGoroutine" :=by simpa using hcall.1
      have hnb:¬fn.body=none:=by
       intro hb;rw[hb]at hcall;cases hcall.2
      simp[execOp,ho,resolve,hv',Deferred.ofValue,invoke,callFunc,hfn,hnm,hnb]
     cases hcall
    unfold wpOp;rw[hi];simp only;have hwant:Region.wanted o (yielded ops a.tmps)=true:=by unfold Region.wanted;rw[hgd]
    rw[hwant];simp only[NG];refine .inl ?_;unfold Oper.wp;rw[hrun,Oper.upon_enter];obtain⟨hlen,hget⟩:=ZN hts;rw[catT_eq]at hca;have hsz:(as0.map a.eval).size=ts.length:=by rw[Array.size_map,hlen,Array.length_toList]
    refine(hcon F (fun n=>T (Y n)) w (as0.map a.eval++cvs.toArray) (hd0.heap h.heap) hpg ?_ fun j t u ht hu=>?_).mono ?_
    .have:=congrArg List.length hca;simp only[Nt,D6]at this;simp only[Array.size_append,hsz,List.size_toArray];omega
    .have key:XJ F T w (t.ren Y []) u:=by
      have hm:(ts++es0)[j]? =some (t.ren Y []):=by rw[hca];simp[ht]
      by_cases hj:j<ts.length
      .rw[Nm hj]at hm;rw[NQ (by omega)]at hu;obtain⟨y,hy,hgy⟩:=hget j _ hm
       have hu':u=a.eval y:=by
        rw[Array.getElem?_map,<-Array.getElem?_toList,hy]at hu;exact(Option.some.inj hu).symm
       rw[hu'];have:=h.opd y;rw[hgy]at this;exact this
      rw[Nl (D4 hj)]at hm;rw[Array.getElem?_append_right (by omega),hsz]at hu;exact hcc _ _ u hm (by simpa using hu)
     refine XJ.ren (Y:=Y) (nils:=[]) (fun n _=>rfl) (fun n hn=>by cases hn) ?_ key;cases t with
     |one x=>exact X0l x
     |agg xs=>simp only[TV.okNil,Nh];exact fun x _=>X0l x
    rintro x w' ⟨y,v,N,T',hΦ,rfl,hk,hN,hr,hh,hbx⟩;obtain⟨h1,h2,γ2,h3,h5,h4⟩:=(hd y hΦ).after h.heap hk hN hh hbx;refine hK y hΦ (fun c=>F c\/N c) γ2 _ _ (fun _ h=>.inl h) (fun c hc=>hc.imp id fun hc=>h1 c hc) ?_;rw[hdst];exact h.step (objs':=X0S I (objs' y) (Zl (objs.map fun p=>Y p.1) s.objs)) hokd h3 (rv_out h5 (hout y hΦ) hr) fun k r v hl hr=>X9.agree (h4 r ⟨k,hl⟩) (hr.mono (fun _ h=>.inl h) h2)
   cases hc
  cases hc
 cases hc
abbrev tupN (k:Value) (v:CD):RV:=.tup [.one (.c (.lit (.bool true))),.one (.c (.lit k)),.one (.c v)]
def Qs (P:Program) (ops:Array Oper) (k m:Nat) (s:HS) (M:HS->Prop):Prop:=
 ∀(w0:World) (B:Nat->Prop) (U:Nat->Option Value) (F:Nat->Prop) (T:Nat->Value) (a:Act) (w:World) (Q:Exit->Act->World->Prop) (Xy:List Nat),Rel w0 B U F T s a w->
  (∀s' F' T' a' w',M s'->(∀b,F b->F' b)->(∀b,F' b->F b\/¬B b)->Rel w0 B U F' T' s' a' w'->wpOps P ops Q Xy a' w')->wpOps P ops Q (List.range' k m++Xy) a w
inductive RunsN (P:Program) (ops:Array Oper):List Oper->HS->(HS->Prop)->Prop
 |many {l:List Oper} {s:HS} {K:HS->Prop} {M:HS->Prop} (m:Nat):(∀k,(∀(j:Nat) o,(l.take m)[j]? =some o->ops[k+j]? =some o)->Qs P ops k (l.take m).length s M)->(∀s',M s'->RunsN P ops (l.drop m) s' K)->RunsN P ops l s K
 |done {l:List Oper} {s:HS} {K:HS->Prop}:wpR P ops l s K->RunsN P ops l s K
 |cut {l:List Oper} {s s1 s2:HS} {K:HS->Prop} (k:Nat):wpR P ops (l.take k) s (fun t=>t=s1)->le s1 s2->RunsN P ops (l.drop k) s2 K->RunsN P ops l s K
 | call {l:List Oper} {o:Oper} {s:HS} {K:HS->Prop} {X:Type} {f:FuncId} {d:Nat} {pv:Option Value} {objs:List (Nat×Ob)} {args:List TV} (Y I:Nat->Nat) {J:X->Prop} {r:X->RV} {objs':X->List (Nat×Ob)}:gOfN s o=some (f,args.map (TV.ren Y []),d)->pvOK pv s Y->HandS Y I objs [] s->
   (∀y,J y->HandS Y I objs (objs' y) s)->ConN P f pv objs args J r objs'->(∀y,J y->X3T ((objs' y).map (·.1)) (r y)=true)->
   (∀y,J y->RunsN P ops l (({s with objs:=X0S I (objs' y) (Zl (objs.map fun p=>Y p.1) s.objs)}:HS).put (some d) ((r y).ren I [])) K)->RunsN P ops (o::l) s K
 |callF {l:List Oper} {o:Oper} {s:HS} {K:HS->Prop} {M:HS->Prop}:o.guard=none->callF P s (opd s.regs) o (fun d r ob=>M ((s.made d ob).put (some d) r))->(∀s',M s'->RunsN P ops l s' K)->RunsN P ops (o::l) s K
 |skip {l:List Oper} {o:Oper} {s:HS} {K:HS->Prop} (y:Value):ZV ops o s=some false->Q3 s o.dst=true->RunsN P ops l (s.put o.dst (.v (.one (.gd false (.c (.lit y)))))) K->RunsN P ops (o::l) s K
 | next {l:List Oper} {o:Oper} {s:HS} {K:HS->Prop} {x:Operand} {d n:Nat} {li:List (Value×CD)} {seen:List Nat}:o.guard=none->o.op=.next x false->o.dst=some d->opd s.regs x=.v (.one (.at_ n 0))->lkp s.objs n=some (.it li seen)->Q3 s (some d)=true->
   (∀(j:Nat) k v,li[j]? =some (k,v)->j∉seen->RunsN P ops l (({s with objs:=ins n (.it li (seen++[j])) s.objs}:HS).put (some d) (tupN k v)) K)->
   ((∀j:Nat,j<li.length->j∈seen)->RunsN P ops l (s.put (some d) (.tup [.one (.c (.lit (.bool false)))])) K)->RunsN P ops (o::l) s K
theorem RunsN.cutE {ops:Array Oper} {l:List Oper} {s s1 s2:HS} {p:Prop} {K:HS->Prop} (k:Nat) (cs:List CR) (h:evc P ops (l.take k) s cs=some (s1,p)) (hp:p) (hle:le s1 s2) (hr:RunsN P ops (l.drop k) s2 K):RunsN P ops l s K:=
 .cut k (Qn _ _ _ _ _ h hp rfl) hle hr
theorem RunsN.doneE {ops:Array Oper} {l:List Oper} {s s1:HS} {p:Prop} {K:HS->Prop} (cs:List CR) (h:evc P ops l s cs=some (s1,p)) (hp:p) (hq:K s1):RunsN P ops l s K:=
 .done (Qn _ _ _ _ _ h hp hq)
end
end Go.Hl
namespace Go.Hl
open Go Go.RowKit
def Qk (P:Program) (ops:Array Oper) (i:Nat) (s:HS) (M:HS->Prop):Prop:=
 ∀(w0:World) (B:Nat->Prop) (U:Nat->Option Value) (F:Nat->Prop) (T:Nat->Value) (a:Act) (w:World) (Kc:Act->World->Prop) (Q:Exit->Act->World->Prop),Rel w0 B U F T s a w->
  (∀s' F' T' a' w',M s'->(∀b,F b->F' b)->(∀b,F' b->F b\/¬B b)->Rel w0 B U F' T' s' a' w'->Kc a' w')->wpOp P ops Q i Kc a w
section
variable {P:Program} {ops:Array Oper}
theorem Qk.ev {i:Nat} {o:Oper} {s s1:HS} {M:HS->Prop} {p:Prop} (cs:List CR) (ho:ops[i]? =some o) (h:evc P ops [o] s cs=some (s1,p)) (hp:p) (hm:M s1):Qk P ops i s M:=by
 intro w0 B U F T a w Kc Q hr hK;refine X1Y ho hr (Qn (K:=M) [o] s s1 cs p h hp hm) fun s' F' T' a' w' hw h1 h2 hr2=>?_;exact hK s' F' T' a' w' hw h1 h2 hr2
theorem Qk.mono {i:Nat} {s:HS} {M M':HS->Prop} (h:Qk P ops i s M) (hm:∀u,M u->M' u):Qk P ops i s M':=
 fun w0 B U F T a w Kc Q hr hK=>h w0 B U F T a w Kc Q hr fun s' F' T' a' w' hw=>hK s' F' T' a' w' (hm s' hw)
theorem Qk.le {i:Nat} {s:HS} {M M':HS->Prop} (h:Qk P ops i s M) (hm:∀u,M u->∃t,le u t/\M' t):Qk P ops i s M':=by
 intro w0 B U F T a w Kc Q hr hK;refine h w0 B U F T a w Kc Q hr fun s' F' T' a' w' hw h1 h2 hr2=>?_;obtain⟨t,hle,ht⟩:=hm s' hw;obtain⟨F2,γ2,h3,h4,hr3⟩:=hle w0 B U F' T' a' w' hr2;exact hK t F2 γ2 a' w' ht (fun b hb=>h3 b (h1 b hb)) (fun b hb=>(h4 b hb).elim (h2 b) .inr) hr3
theorem Qk.pre {i:Nat} {s t:HS} {M:HS->Prop} (hle:Hl.le s t) (h:Qk P ops i t M):Qk P ops i s M:=by
 intro w0 B U F T a w Kc Q hr hK;obtain⟨F2,γ2,h3,h4,hr3⟩:=hle w0 B U F T a w hr;exact h w0 B U F2 γ2 a w Kc Q hr3 fun s' F' T' a' w' hw h1 h2 hr2=>hK s' F' T' a' w' hw (fun b hb=>h1 b (h3 b hb)) (fun b hb=>(h2 b hb).elim (h4 b) .inr) hr2
theorem Qk.call {i:Nat} {o:Oper} {s:HS} {M:HS->Prop} {X:Type} {f:FuncId} {d:Nat} {pv:Option Value} {objs:List (Nat×Ob)} {args:List TV} (Y I:Nat->Nat) {J:X->Prop} {r:X->RV} {objs':X->List (Nat×Ob)} (ho:ops[i]? =some o)
  (hg:gOfN s o=some (f,args.map (TV.ren Y []),d)) (hp:pvOK pv s Y) (hd0:HandS Y I objs [] s) (hd:∀y,J y->HandS Y I objs (objs' y) s) (hcon:ConN P f pv objs args J r objs') (hout:∀y,J y->X3T ((objs' y).map (·.1)) (r y)=true)
  (hm:∀y,J y->M (({s with objs:=X0S I (objs' y) (Zl (objs.map fun p=>Y p.1) s.objs)}:HS).put (some d) ((r y).ren I []))):Qk P ops i s M:=by
 intro w0 B U F T a w Kc Q hr hK;exact n_sound ho hr hg hp hd0 hd hcon hout fun y hy F' T' a' w' h1 h2 hr2=>hK _ F' T' a' w' (hm y hy) h1 h2 hr2
def fwdB (ops:Array Oper):Bool:=
 (List.range ops.size).all fun i=>match ops[i]? with
  |some o=>o.after.toList.all fun e=> !Region.binds .any e||decide (e.on<i)
  |none=>false
def X15 (R:List Nat) (i:Nat):List Nat:=R.filter fun j=>decide (j≠i)
theorem Qk.evE {i:Nat} {o:Oper} {s t:HS} (ho:ops[i]? =some o) (h:evc P ops [o] s []=some (t,True)):Qk P ops i s (fun u=>u=t):=.ev [] ho h trivial rfl
theorem Qk.evL {i:Nat} {o:Oper} {s t u:HS} (ho:ops[i]? =some o) (h:evc P ops [o] s []=some (t,True)) (hl:Hl.le t u):Qk P ops i s (fun v=>v=u):=.le (.evE ho h) fun v hv=>⟨u,by rw[hv];exact hl,rfl⟩
theorem Qk.evN {i:Nat} {o:Oper} {R:List Nat} {nx:List Nat->HS} (nx':List Nat->HS) (ho:ops[i]? =some o) (h:evc P ops [o] (nx R) []=some (nx' (X15 R i),True)) (hl:Hl.le (nx' (X15 R i)) (nx (X15 R i))):
  Qk P ops i (nx R) (fun u=>u=nx (X15 R i)):=.evL ho h hl
def trS (b:HS) (outs:List (Nat×Nat×RV)) (R:List Nat):HS:={b with regs:=outs.foldl (fun u m=>if R.contains m.1 then u else ins m.2.1 m.2.2 u) b.regs}
end
def bitsL (n m:Nat):List Nat:=(List.range n).filter fun i=>decide (m/2 ^ i%2=1)
@[simp] theorem bits_mem (n m i:Nat):(i∈bitsL n m)=(i<n/\m/2 ^ i%2=1):=by simp[bitsL]
@[simp] theorem XaL (R:List Nat) (i j:Nat):(j∈X15 R i)=(j∈R/\j≠i):=by simp[X15]
def allM {T:Type} (p:T->Prop):List T->Prop
 |[]=>True
 |[x]=>p x
 |x::l=>p x/\allM p l
section
variable {P:Program} {ops:Array Oper}
theorem RunsN.callA {l:List Oper} {o:Oper} {s:HS} {K:HS->Prop} {X:Type} {f:FuncId} {d:Nat} {pv:Option Value} {objs:List (Nat×Ob)} {args:List TV} (Y I:Nat->Nat) {J:X->Prop} {r:X->RV} {objs':X->List (Nat×Ob)} (hcon:ConN P f pv objs args J r objs')
  (hn:∀y,J y->RunsN P ops l (({s with objs:=X0S I (objs' y) (Zl (objs.map fun p=>Y p.1) s.objs)}:HS).put (some d) ((r y).ren I [])) K)
  (hg:gOfN s o=some (f,args.map (TV.ren Y []),d):=by(simp[gOfN,capV,X2h,catT,TV.ren,CV.ren];rfl))
  (hp:pvOK pv s Y:=by(first|exact .inl rfl|exact .inr ⟨rfl,rfl⟩))
  (hd0:HandS Y I objs [] s:=by(refine ZD ?_ ?_ ?_ ?_ ?_<;>simp[rbB,X2x,Zk,CV.ren,Ob.ren,lkp,X0S]))
  (hd:∀y,J y->HandS Y I objs (objs' y) s:=by(intro _ _;refine ZD ?_ ?_ ?_ ?_ ?_<;>simp[rbB,X2x,Zk,CV.ren,Ob.ren,lkp,X0S]))
  (hout:∀y,J y->X3T ((objs' y).map (·.1)) (r y)=true:=by(intro _ _;rfl)):RunsN P ops (o::l) s K:=.call Y I hg hp hd0 hd hcon hout hn
theorem Qk.callA {i:Nat} {o:Oper} {s:HS} {M:HS->Prop} {X:Type} {f:FuncId} {d:Nat} {pv:Option Value} {objs:List (Nat×Ob)} {args:List TV} (Y I:Nat->Nat) {J:X->Prop} {r:X->RV} {objs':X->List (Nat×Ob)} (hcon:ConN P f pv objs args J r objs') (ho:ops[i]? =some o)
  (hm:∀y,J y->M (({s with objs:=X0S I (objs' y) (Zl (objs.map fun p=>Y p.1) s.objs)}:HS).put (some d) ((r y).ren I [])))
  (hg:gOfN s o=some (f,args.map (TV.ren Y []),d):=by(simp[gOfN,capV,X2h,catT,TV.ren,CV.ren,trS,ins];rfl))
  (hp:pvOK pv s Y:=by(first|exact .inl rfl|exact .inr ⟨rfl,rfl⟩))
  (hd0:HandS Y I objs [] s:=by(refine ZD ?_ ?_ ?_ ?_ ?_<;>simp[trS,ins,rbB,X2x,Zk,CV.ren,Ob.ren,lkp]))
  (hd:∀y,J y->HandS Y I objs (objs' y) s:=by(intro _ _;refine ZD ?_ ?_ ?_ ?_ ?_<;>simp[trS,ins,rbB,X2x,Zk,CV.ren,Ob.ren,lkp]))
  (hout:∀y,J y->X3T ((objs' y).map (·.1)) (r y)=true:=by(intro _ _;rfl)):Qk P ops i s M:=.call Y I ho hg hp hd0 hd hcon hout hm
end
def CV.mv (n d:Nat):CV->CV
 | .own m=>if m=n then .own d else .own m
 |x=>x
def TV.mv (n d:Nat):TV->TV
 | .one x=>.one (x.mv n d)
 | .agg xs=>.agg (xs.map (CV.mv n d))
def RV.mv (n d:Nat):RV->RV
 | .v t=>.v (t.mv n d)
 | .tup ts=>.tup (ts.map (TV.mv n d))
def Ob.mv (n d:Nat):Ob->Ob
 | .box cs=>.box (cs.map (CV.mv n d))
 |o=>o
section
variable {P:Program} {F:Nat->Prop} {T T':Nat->Value} {w w' w0:World} {B:Nat->Prop} {U:Nat->Option Value}
theorem Xo.mv {n d:Nat} (hh:hd (T d)=hd (T n)) {x:CV} {v:Value} (h:Xo F T w x v):Xo F T w (x.mv n d) v:=by
 cases x with
 | own m=>
   simp only[CV.mv];split
   .rename_i e;subst e;exact⟨by rw[hh];exact h.1,h.2⟩
   exact h
 |_=>exact h
theorem Xi.mv {n d:Nat} (hh:hd (T d)=hd (T n)) {xs:List CV} {vs:Array Value} (h:Xi F T w xs vs):Xi F T w (xs.map (CV.mv n d)) vs:=by
 refine⟨by simpa using h.1,fun j x u hx hu=>?_⟩;rw[Nf]at hx;simp only[N8]at hx;obtain⟨y,hy,rfl⟩:=hx;exact(h.2 j y u hy hu).mv hh
theorem XJ.mv {n d:Nat} (hh:hd (T d)=hd (T n)) {x:TV} {v:Value} (h:XJ F T w x v):XJ F T w (x.mv n d) v:=by
 cases x with
 |one x=>exact Xo.mv hh h
 |agg xs=>obtain⟨vs,rfl,hc⟩:=h;exact⟨vs,rfl,hc.mv hh⟩
theorem X9.mv {n d:Nat} (hh:hd (T d)=hd (T n)) {x:RV} {v:Value} (h:X9 F T w x v):X9 F T w (x.mv n d) v:=by
 cases x with
 |v t=>exact XJ.mv hh h
 | tup ts=>
   obtain⟨vs,rfl,hs,hc⟩:=h;refine⟨vs,rfl,by simpa using hs,fun j x u hx hu=>?_⟩;rw[Nf]at hx;simp only[N8]at hx;obtain⟨y,hy,rfl⟩:=hx;exact(hc j y u hy hu).mv hh
theorem Q4.mv {n d:Nat} (hh:hd (T d)=hd (T n)) {x:Value} {o:Ob} (h:Q4 F T w B x o):Q4 F T w B x (o.mv n d):=by
 cases o with
 |box cs=>obtain⟨b,e,vs,h1,h2,h3,h4⟩:=h;exact⟨b,e,vs,h1,h2,h3,h4.mv hh⟩
 |_=>exact h
theorem HeapRel.mv {n d:Nat} {objs:List (Nat×Ob)} (hh:hd (T d)=hd (T n)) (h:HeapRel w0 B U F T objs w):HeapRel w0 B U F T (X0R (Ob.mv n d) objs) w:=by
 have hl:∀m o,lkp (X0R (Ob.mv n d) objs) m=some o->∃o0,lkp objs m=some o0/\o=o0.mv n d:=by
  intro m o ho;rw[X08]at ho;simp only[N8]at ho;obtain⟨o0,h1,rfl⟩:=ho;exact⟨o0,h1,rfl⟩
 exact {
  below:=h.below
  hB:=h.hB
  fsz:=h.fsz
  ob:=fun m o ho=>by
   obtain⟨o0,h1,rfl⟩:=hl m o ho;exact(h.ob m o0 h1).mv hh
  apart:=fun m o ho=>by
   obtain⟨o0,h1,_⟩:=hl m o ho;exact h.apart m o0 h1
  sep:=fun m k om ok hm hk=>by
   obtain⟨o1,h1,_⟩:=hl m om hm;obtain⟨o2,h2,_⟩:=hl k ok hk;exact h.sep m k o1 o2 h1 h2
  pin:=h.pin}
theorem X45 {ops:Array Oper} {i:Nat} {o:Oper} {a:Act} {Q:Exit->Act->World->Prop} {Kc:Act->World->Prop} {nx:Next} {v:Value} (hi:ops[i]? =some o) (hgd:o.guard=none) (hrun:(execOp a.eval o).run P w=.ok nx w')
  (hnx:nx=.value v\/nx=.skip/\v=undef) (hk:Kc (a.put o.dst v) w'):wpOp P ops Q i Kc a w:=by
 unfold wpOp;rw[hi];simp only;have hwant:Region.wanted o (yielded ops a.tmps)=true:=by unfold Region.wanted;rw[hgd]
 rw[hwant];simp only[NG];refine .inl ?_;unfold Oper.wp;rw[hrun];rcases hnx with rfl|⟨rfl,rfl⟩
 .exact hk
 exact hk
theorem mat_grow {objs:List (Nat×Ob)} {t tE e e' ty:TypeId} {te tte:TI} {s n i d:Nat} {rows:List (Option (List (List CD)))} {rs more:List (List CD)} {v src:Value} (hh:HeapRel w0 B U F T objs w)
  (hl:lkp objs n=some (.mat e e' s rows)) (hri:rows[i]? =some (some rs)) (hv:Xo F T w (.sub n i) v) (hdn:∀m o,lkp objs m=some o->m≠d/\¬o.men d) (hd6:d<1000000)
  (hu:P.underlying t=some (.slice e')) (hti:Q8 P e'=some te) (hts:te.size=s) (hzl:te.zero.length=te.size) (htte:Q8 P tE=some tte) (hs1:tte.size=1)
  (hms:∀r∈more,r.length=te.size)
  (hsrc:(src=.slice none 0 0/\more=[])\/∃a c,∃news:List Value,src=.slice (some a) more.length c/\news.length=more.length*te.size/\
   (∀j u,news[j]? =some u->w.cell? (a.add j)=some u)/\(∀u∈news,u.oneCell'=true)/\
   ∀i j d,XV more i j=some d->∃u,news[i*te.size+j]? =some u/\CRel F w d u)
  (hmax:rs.length+more.length<=maxLen) (hby:(rs.length+more.length)*te.bytes<=140737488355328):
  ∃(b oo len cap:Nat) (v':Value) (w1 W:World) (x:Value),hd (T n)=.slice (some ⟨b,oo,none⟩) len cap/\i<len/\(Builtin.append_ #[t,t] ty #[v,src]).run P w=.ok v' w1/\
   (storeVar tE ⟨b,oo+i,none⟩ v').run P w1=.ok () W/\hd x=hd (T n)/\HeapRel w0 B U F (upd T d x) (ins d (.mat e e' s (rows.set i (some (rs++more)))) (del n objs)) W/\(∀c,F c->W.heap[c]? =w.heap[c]?):=by
 obtain⟨o',is,hγ,h0,hlen,⟨xs,hown,hxs⟩,hin,hd1,hd2⟩:=hh.ob n _ hl;obtain⟨vs,hγ',hvi,hv1,hvu⟩:=hv;rw[hγ]at hγ';cases hγ';have hvi':is[i]? =some v:=by simpa using hvi
 have hlt:i<rows.length:=(N5.1 hri).1;have hil:i<is.length:=by rw[hlen];exact hlt
 have hro:Xm F w B e' s v rs:=hin i v (some rs) hvi' hri;obtain⟨_,hss,xv,hownv,hx1,hxc⟩:=hro;have hvsl:=hownv.sl;have hbv:∀b,v.ownBlock=some b->Blk (T n) b:=fun b hb=>by rw[hγ];exact⟨v,by simp[N3 hvi'],by rw[X0w hvsl];exact hb⟩
 obtain⟨v',w1,hrun,hgr,hblk,hform,hF1,hrow⟩:=X20 (P:=P) (w:=w) (B:=B) (F:=F) (ty:=ty) (src:=src) (more:=more) (rows:=rs) (v:=v) (xs:=xv) hu hti (by omega) hzl (by rw[hts];exact hownv) hh.hB
  (by rw[hts];exact hss) hx1 (by rw[hts];exact hxc) hms hsrc hmax hby hh.fsz (fun b hb=>hh.apart n _ hl b (hbv b hb))
 have hrow:Xm F w1 B e' s v' (rs++more):=by rw[<-hts];exact hrow T
 obtain⟨ti',td,z,hi,htd,hz,g1,g2,g3,g4,g5⟩:=XD htte;rcases hown.2 with⟨hn,hz0⟩|⟨b,oo,cap,cur,hob,hBb,hhb,hrest⟩
 .omega
 subst hob;have hBn:Blk (T n) b:=by rw[hγ];exact⟨.slice (some ⟨b,oo,none⟩) rows.length cap,by simp,rfl⟩
 have hFb:¬F b:=hh.apart n _ hl b hBn;have hbs:b<w.heap.size:=((hh.ob n _ hl).blk_lt hBn).2;have hb1:w1.heap[b]? =w.heap[b]? :=hgr.block b hbs fun e'=>hd1 i v b hvi' (by rw[X0w hvsl];exact e'.symm) rfl;have hown1:Qu w1 B e 1 (.slice (some ⟨b,oo,none⟩) rows.length cap) rows.length xs:=hown.mono fun c hc=>by cases hc;exact hb1
 have hone:v'.oneCell'=true:=by obtain⟨_,_,_,rfl⟩:=hform;rfl
 have hcy:v'.cells= #[v']:=X0b hone;have hk1:Kept B w0 w1:=hh.below.grown hgr hh.hB fun k hk hx=>((hh.ob n _ hl).blk_lt (hbv k hk)).1 hx;obtain⟨W,hrunW,hWo,hWs,hWB,hownW⟩:=X1j (P:=P) hi (v:=v') (by rw[hcy,g1,hs1];rfl) (by rw[hcy];simpa using hone) hown1 (k:=i) (by rw[hcy];simp;omega) hk1;have hFW:∀c,F c->W.heap[c]? =w.heap[c]? :=fun c hc=>(hWo c fun e'=>hFb (e'▸hc)).trans (hF1 c hc)
 -- what blocks the new header may name
 have hvb:∀c,blk v'=some c->w.heap.size<=c\/blk v=some c:=fun c hc=>(hblk c hc).imp id fun h=>by rw[X0w hvsl];exact h
 have hnb:∀c,blk v'=some c->c≠b/\∀(k:Nat) u,k≠i->is[k]? =some u->blk u≠some c:=by
  intro c hc;refine⟨fun e'=>?_,fun k u hk hu hcu=>?_⟩
  .subst e';rcases hvb c hc with h|h
   .omega
   exact hd1 i v c hvi' h rfl
  rcases hvb c hc with h|h
  .have:=((hh.ob n _ hl).blk_lt (by rw[hγ];exact⟨u,by simp[N3 hu],hcu⟩:Blk (T n) c)).2;omega
  exact hd2 k i u v c hu hvi' hk hcu h
 have hset:∀(k:Nat) u r,(is.set i v')[k]? =some u->(rows.set i (some (rs++more)))[k]? =some r->(k=i/\u=v'/\r=some (rs++more))\/(k≠i/\is[k]? =some u/\rows[k]? =some r):=by
  intro k u r hu hr;by_cases e':k=i
  .subst e';rw[NE hil]at hu;rw[NE hlt]at hr;cases hu;cases hr;exact .inl ⟨rfl,rfl,rfl⟩
  rw[NZ (Ne.symm e')]at hu hr;exact .inr ⟨e',hu,hr⟩
 have hset1:∀(k:Nat) u,(is.set i v')[k]? =some u->(k=i/\u=v')\/(k≠i/\is[k]? =some u):=by
  intro k u hu;by_cases e':k=i
  .subst e';rw[NE hil]at hu;cases hu;exact .inl ⟨rfl,rfl⟩
  rw[NZ (Ne.symm e')]at hu;exact .inr ⟨e',hu⟩
 refine⟨b,oo,rows.length,cap,v',w1,W,.agg (.slice (some ⟨b,oo,none⟩) rows.length cap::is.set i v').toArray,by rw[hγ];rfl,hlt,hrun,hrunW,by rw[hγ];rfl,?_,hFW⟩;refine hh.moved (ns:=[n]) (by simp[hl]) (fun m o hm=>?_) hdn hWB (by rw[hWs];exact hgr.size) (fun k hk hne=>?_) ?_ hd6 ?_
 .obtain⟨h1,h2⟩:=Qg hm;exact⟨by simpa using h1,h2⟩
 .rw[hWo k fun e'=>hne n (by simp) (e'▸hBn)];exact hgr.block k hk fun e'=>hne n (by simp) (hbv k e'.symm)
 .rintro c ⟨u,hu,huc⟩;simp only[Ni]at hu;rcases hu with rfl|hu
  .exact .inr ⟨n,by simp,by cases huc;exact hBn⟩
  rcases Dg hu with hu|rfl
  .exact .inr ⟨n,by simp,by rw[hγ];exact⟨u,by simp[hu],huc⟩⟩
  rcases hvb c huc with h|h
  .exact .inl h
  exact .inr ⟨n,by simp,hbv c (by rw[<-X0w hvsl];exact h)⟩
 refine⟨_,_,rfl,h0,by simp[hlen],⟨_,by rw[Dt];exact hownW,fun k u r hu hr=>?_⟩,fun k u r hu hr=>?_,fun k u c hu huc=>?_,fun j k u u2 c hu hu2 hjk huc=>?_⟩
 .rw[hcy];rw[We _ _ _ _ (by simp[hown.1];omega)];rcases hset k u r hu hr with⟨rfl,rfl,rfl⟩|⟨hne,hu',hr'⟩
  .simp[X17]
  rw[N6 (by simp;omega)];exact hxs k u r hu' hr'
 .rcases hset k u r hu hr with⟨rfl,rfl,rfl⟩|⟨hne,hu',hr'⟩
  .exact Xm.mono (fun _ h=>h) (fun c hc=>hWo c fun e'=>hFb (e'▸hc)) (fun c hc=>hWo c (hnb c hc).1) hrow
  have:=hin k u r hu' hr';cases r with
  |none=>exact this
  | some rr=>
    have hub:∀c,blk u=some c->c<w.heap.size:=fun c hc=>((hh.ob n _ hl).blk_lt (by rw[hγ];exact⟨u,by simp[N3 hu'],hc⟩:Blk (T n) c)).2;exact Xm.mono (fun _ h=>h) hFW (fun c hc=>(hWo c fun e'=>hd1 k u c hu' hc (by rw[e'];rfl)).trans (hgr.block c (hub c hc) fun e'=>hd2 k i u v c hu' hvi' hne hc (by rw[X0w hvsl];exact e'.symm))) this
 .rcases hset1 k u hu with⟨rfl,rfl⟩|⟨hne,hu'⟩
  .intro e';cases e';exact(hnb _ huc).1 rfl
  exact hd1 k u c hu' huc
 rcases hset1 j u hu with⟨rfl,rfl⟩|⟨hne,hu'⟩
 .rcases hset1 k u2 hu2 with⟨rfl,rfl⟩|⟨hne2,hu2'⟩
  .exact absurd rfl hjk
  exact(hnb c huc).2 k u2 hne2 hu2'
 rcases hset1 k u2 hu2 with⟨rfl,rfl⟩|⟨hne2,hu2'⟩
 .intro hvc;exact(hnb c hvc).2 j u hne hu' huc
 exact hd2 j k u u2 c hu' hu2' hjk huc
theorem HeapRel.mapd {n d:Nat} {objs:List (Nat×Ob)} {x:Value} (h:HeapRel w0 B U F (upd T d x) objs w) (hnd:n≠d) (hx:hd x=hd (T n)):HeapRel w0 B U F (upd T d x) (X0R (Ob.mv n d) objs) w:=
 h.mv (by rw[XH,Xq _ hnd];exact hx)
end
def neT (d:Nat):Operand->Bool
 | .tmp t=>decide (t≠d)
 |_=>true
def matAP (P:Program) (s:HS) (o1 o2 o3:Oper):Option HS:=
 match o1.guard,o1.op,o1.dst,o2.guard,o2.op,o2.dst,o3.guard,o3.op with
 | none, .call {callee:=.builtin .append,args:=as0,argTypes:=ts, .. },some d1,none,.indexAddr tM xm xi,some d2,none,.store tE (.tmp e2) (.tmp e1)=>
   match as0.toList,ts.toList with
   | [x, y],[t,t']=>if t=t'/\e2=d2/\e1=d1/\d1≠d2/\neT d1 xm=true/\neT d1 xi=true/\Q3 s (some d1)=true/\Q3 s (some d2)=true/\Q3 s o3.dst=true then
     match Z4 P t,Z4 P tM,opd s.regs x,opd s.regs xm,W9 (opd s.regs xi)with
     | some e',some eM,.v (.one (.sub n i)),.v (.one (.own n')),some (.int .i64 i')=>if n'=n/\i'=(i:Int)/\QV d1 s=true then
       match Q8 P e',Q8 P eM,Q8 P tE,lkp s.objs n with
       | some te,some tm,some tte,some (.mat e e2' sz rows)=>match rows[i]?,Zm s.objs te.size (opd s.regs y)with
         | some (some rs),some more=>if e2'=e'/\te.size=sz/\te.zero.length=te.size/\tm.size=1/\tte.size=1/\QF (rs.length+more.length) te.bytes then
           let t:=((({s with objs:=X0R (Ob.mv n d1) (ins d1 (.mat e e' sz (rows.set i (some (rs++more)))) (del n s.objs))}:HS).put (some d1) (.v (.one .any))).put (some d2) (.v (.one .any))).put o3.dst (.v (.one .any))
           some {t with regs:=X0R (RV.mv n d1) t.regs}
           else none
         |_,_=>none
       |_,_,_,_=>none
       else none
     |_,_,_,_,_=>none
     else none
   |_,_=>none
 |_,_,_,_,_,_,_,_=>none
section
variable {P:Program} {F:Nat->Prop} {T T':Nat->Value} {w w' w0:World} {B:Nat->Prop} {U:Nat->Option Value}
theorem X50 {a:Act} {d:Nat} {v:Value} {x:Operand} (h:neT d x=true):(a.put (some d) v).eval x=a.eval x:=by
 cases x with
 | tmp t=>
   have ht:t≠d:=by simpa[neT]using h
   show((a.tmps.setIfInBounds d v).getD t undef)=a.tmps.getD t undef;rw[Nq,Ny (Ne.symm ht),<-Array.getD_eq_getD_getElem?]
 |_=>rfl
theorem X61 {a:Act} {d:Nat} {v:Value} (h:d<a.tmps.size):(a.put (some d) v).eval (.tmp d)=v:=by
 show((a.tmps.setIfInBounds d v).getD d undef)=v;rw[Nq,Array.getElem?_setIfInBounds_self_of_lt h];rfl
theorem Qs.matA {ops:Array Oper} {k:Nat} {s s':HS} {o1 o2 o3:Oper} (h1:ops[k]? =some o1) (h2:ops[k+1]? =some o2) (h3:ops[k+2]? =some o3) (h:matAP P s o1 o2 o3=some s'):Qs P ops k 3 s (fun u=>u=s'):=by
 intro w0 B U F T a w Q Xy hr hK;unfold matAP at h;split at h
 .rename_i as0 ts d1 tM xm xi d2 tE e2 e1 hg1 ho1 hd1 hg2 ho2 hd2 hg3 ho3;split at h
  .rename_i x y t t' has hts;split at h
   .rename_i hc;obtain⟨rfl,rfl,rfl,hdd,hxm,hxi,hok1,hok2,hok3⟩:=hc;split at h
    .rename_i e' eM n i n' i' he heM hx hm hi;split at h
     .rename_i hc2;obtain⟨rfl,rfl,hun⟩:=hc2;split at h
      .rename_i te tm tte e e2' sz rows hte htm htte hl;split at h
       .rename_i rs more hri hmore;split at h
        .rename_i hc3;obtain⟨rfl,hsz,hzl,hm1,ht1,hroom⟩:=hc3;cases h;have eas:as0= #[x,y]:=by obtain⟨l⟩:=as0;simpa using has
         have ets:ts= #[t,t]:=by obtain⟨l⟩:=ts;simpa using hts
         subst eas;subst ets
         have hpos:0<te.size:=by
          obtain⟨o',is,hγ,h0,_⟩:=hr.heap.ob _ _ hl;omega
         have hnd:n'≠e1:=(ZF hun n' _ hl).1;have hxv:=hr.opd x;rw[hx]at hxv;have hmv:=hr.opd xm;rw[hm]at hmv;have hiv:=X9.lit_eq hi (hr.opd xi);obtain⟨hms,hsrc⟩:=X4V hpos hr.heap (hr.opd y) hmore;obtain⟨b,oo,len,cap,v',w1,W,xx,hob,hlt,hrun,hrunW,hhd,hhp,hF⟩:=mat_grow (P:=P) (tE:=tE) (ty:=o1.type) hr.heap hl hri hxv (fun m o hm=>ZF hun m o hm) (X1b hun) (Qq he) hte hsz hzl htte ht1 hms hsrc hroom.1 hroom.2;obtain⟨i',td,z,hi',htd,hz,g1,g2,g3,g4,g5⟩:=XD htm;have hs1:e1<a.tmps.size:=by rw[hr.nt.1];simpa[Q3]using hok1
         have hs2:e2<a.tmps.size:=by rw[hr.nt.1];simpa[Q3]using hok2
         show wpOps P ops Q (k::(k+1)::(k+2)::Xy) a w;rw[wpOps_cons];refine X45 (nx:=.value v') (v:=v') (w':=w1) h1 hg1 ?_ (.inl rfl) ?_
         .unfold execOp;rw[ho1];simp[resolve,invoke,builtin,hrun]
         rw[hd1,wpOps_cons];refine X45 (nx:=.value (.pointer (some ⟨b,oo+i,none⟩))) (v:=.pointer (some ⟨b,oo+i,none⟩)) (w':=w1) h2 hg2 ?_ (.inl rfl) ?_
         .unfold execOp;rw[ho2];have hvm:a.eval xm=.slice (some ⟨b,oo,none⟩) len cap:=by rw[hmv.1,hob]
          simp[X50 hxm,X50 hxi,hvm,hiv,Instr.indexAt,asIntOf,run_underlying (Qq heM),hlt,XC hi',g1,hm1,QI]
         rw[hd2,wpOps_cons];refine X45 (nx:=.skip) (v:=undef) (w':=W) h3 hg3 ?_ (.inr ⟨rfl,rfl⟩) ?_
         .unfold execOp;rw[ho3];have q1:((a.put (some e1) v').put (some e2) (.pointer (some ⟨b,oo+i,none⟩))).eval (.tmp e2)=.pointer (some ⟨b,oo+i,none⟩):=X61 (by simpa[Act.put]using hs2);have q2:((a.put (some e1) v').put (some e2) (.pointer (some ⟨b,oo+i,none⟩))).eval (.tmp e1)=v':=by rw[X50 (by simp[neT,hdd])];exact X61 hs1
          simp[q1,q2,Instr.storeAt,Instr.sureAddr,hrunW]
         have hkeep:∀(j:Nat) r v,lkp s.regs j=some r->X9 F T w r v->X9 F (upd T e1 xx) W r v:=fun j r v hj hv=>(hv.mono (fun _ h=>h) hF).upd (Zz hun hj);have r1:=hr.step (dst:=some e1) (r:=.v (.one .any)) (v:=v') hok1 (hhp.mapd hnd hhd) trivial hkeep;have r2:=r1.step (dst:=some e2) (r:=.v (.one .any)) (v:=.pointer (some ⟨b,oo+i,none⟩)) hok2 r1.heap trivial (fun _ _ _ _ h=>h)
         have r3:=r2.step (dst:=o3.dst) (r:=.v (.one .any)) (v:=undef) (by cases hd3:o3.dst with
          |none=>rfl
          |some d3=>rw[hd3]at hok3;exact hok3) r2.heap trivial (fun _ _ _ _ h=>h)
         have hh2:hd (upd T e1 xx e1)=hd (upd T e1 xx n'):=by rw[XH,Xq _ hnd];exact hhd
         refine hK _ F (upd T e1 xx) _ W rfl (fun _ h=>h) (fun _ h=>.inl h) ⟨r3.heap,r3.defers,r3.nt,fun j r hj=>?_⟩;rw[X08]at hj;simp only[N8]at hj;obtain⟨r0,h0,rfl⟩:=hj;exact(r3.regs j r0 h0).mv hh2
        cases h
       cases h
      cases h
     cases h
    cases h
   cases h
  cases h
 cases h
theorem RunsN.matA {ops:Array Oper} {l:List Oper} {s s':HS} {K:HS->Prop} {o1 o2 o3:Oper} (h:matAP P s o1 o2 o3=some s') (hr:RunsN P ops l s' K):RunsN P ops (o1::o2::o3::l) s K:=by
 refine .many (M:=fun u=>u=s') 3 (fun k hk=>?_) fun u hu=>by rw[hu];exact hr
 exact Qs.matA (hk 0 o1 rfl) (hk 1 o2 rfl) (hk 2 o3 rfl) h
def ConR (P:Program) (f:FuncId) (e:TypeId) (sz:Nat) (rs rs':List (List CD)):Prop:=
 XZ P f=true/\∀(F:Nat->Prop) (B:Nat->Prop) (w:World) (v:Value),Xm F w B e sz v rs->(∀b,F b->b<w.heap.size)->(∀b,blk v=some b->¬F b)->
  Calls P f #[v] w fun x w'=>x=.returned (.tuple #[])/\w'.os=w.os/\w'.tape=w.tape/\w'.output=w.output/\w.heap.size<=w'.heap.size/\(∀k,k<w.heap.size->blk v≠some k->w'.heap[k]? =w.heap[k]?)/\Xm F w' B e sz v rs'
def subAP (s:HS) (o:Oper):Option (FuncId×Nat×Nat×TypeId×TypeId×Nat×List (Option (List (List CD)))×List (List CD)×Nat):=
 match o.guard,o.op,o.dst with
 | none, .call {callee:=.value x,args:=args, .. },some d=>match capV (opd s.regs x),args.toList with
   | some (f,[]),[y]=>match opd s.regs y with
     | .v (.one (.sub n i))=>match lkp s.objs n with
       | some (.mat e e' sz rows)=>match rows[i]? with
         |some (some rs)=>if Q3 s (some d)=true/\0<rs.length then some (f,n,i,e,e',sz,rows,rs,d)else none
         |_=>none
       |_=>none
     |_=>none
   |_,_=>none
 |_,_,_=>none
theorem Qs.subA {ops:Array Oper} {k:Nat} {s:HS} {o:Oper} {f:FuncId} {n i d sz:Nat} {e e':TypeId} {rows:List (Option (List (List CD)))} {rs rs':List (List CD)} (h1:ops[k]? =some o) (h:subAP s o=some (f,n,i,e,e',sz,rows,rs,d))
  (hcon:ConR P f e' sz rs rs'):Qs P ops k 1 s (fun u=>u=({s with objs:=ins n (.mat e e' sz (rows.set i (some rs'))) s.objs}:HS).put (some d) (.tup [])):=by
 intro w0 B U F T a w Q Xy hr hK;unfold subAP at h;split at h
 .rename_i x as0 ats d1 hg ho hd1;split at h
  .rename_i f1 y hx has;split at h
   .rename_i n1 i1 hy;split at h
    .rename_i e1 e1' sz1 rows1 hl;split at h
     .rename_i rs1 hri;split at h
      .rename_i hc;obtain⟨hok,hlen0⟩:=hc;cases h;have eas:as0= #[y]:=by obtain⟨l⟩:=as0;simpa using has
       subst eas;obtain⟨hcall,hcon⟩:=hcon;obtain⟨cvs,hv,hcl,_⟩:=WY hx (hr.opd x);have hcv:cvs=[]:=Np (by simpa using hcl);subst hcv;have hv':a.eval x=.func (.func f) #[] #[]:=hv;have hyv:=hr.opd y;rw[hy]at hyv;obtain⟨vs,hvs,hsub,hv1,hvu⟩:=hyv;obtain⟨o',is,hγ,h0,hlen,⟨xs,hown,hxs⟩,hin,hd1',hd2⟩:=hr.heap.ob n _ hl;rw[hγ]at hvs;cases hvs;have hvi:is[i]? =some (a.eval y):=by simpa using hsub
       have hro:Xm F w B e' sz (a.eval y) rs:=hin i _ (some rs) hvi hri
       obtain⟨b,hb⟩:∃b,blk (a.eval y)=some b:=by
        obtain⟨_,_,xs,hown,_⟩:=hro;rcases hown.2 with⟨_,hn⟩|⟨b,oo,cap,cur,hv,_⟩
        .omega
        exact⟨b,by rw[hv];rfl⟩
       have hBn:Blk (T n) b:=by rw[hγ];exact⟨a.eval y,by simp[N3 hvi],hb⟩
       have hlt:i<rows.length:=(N5.1 hri).1
       have hrun:(execOp a.eval o).run P w=.ok (.enter f (#[y].map a.eval)) w:=by
        unfold XZ at hcall;split at hcall
        .rename_i fn hfn;simp only[N4,Nk]at hcall;have hnm:¬fn.name= "runtime.NumGoroutine" :=by simpa using hcall.1
         have hnb:¬fn.body=none:=by
          intro hb;rw[hb]at hcall;cases hcall.2
         simp[execOp,ho,resolve,hv',Deferred.ofValue,invoke,callFunc,hfn,hnm,hnb]
        cases hcall
       show wpOps P ops Q (k::Xy) a w;rw[wpOps_cons];unfold wpOp;rw[h1];simp only;have hwant:Region.wanted o (yielded ops a.tmps)=true:=by unfold Region.wanted;rw[hg]
       rw[hwant];simp only[NG];refine .inl ?_;unfold Oper.wp;rw[hrun,Oper.upon_enter];have hargs:(#[y].map a.eval:Array Value)= #[a.eval y]:=by simp
       rw[hargs];refine(hcon F B w (a.eval y) hro hr.heap.fsz (fun c hc=>hr.heap.apart n _ hl c (by rw[hγ];exact⟨a.eval y,by simp[N3 hvi],hc⟩))).mono ?_;rintro z w' ⟨rfl,q1,q2,q3,q4,q5,hro'⟩;have hkeep:∀c,c<w.heap.size->c≠b->w'.heap[c]? =w.heap[c]? :=fun c hc hne=>q5 c hc fun e=>hne (by rw[hb]at e;cases e;rfl);have hFk:∀c,F c->w'.heap[c]? =w.heap[c]? :=fun c hc=>hkeep c (hr.heap.fsz c hc) fun e'=>hr.heap.apart n _ hl b hBn (e'▸hc);have hkp:Kept B w0 w':=hr.heap.below.trans ⟨q1,q2,q3,q4,fun c hc=>hkeep c (hr.heap.hB c hc) fun e'=>((hr.heap.ob n _ hl).blk_lt hBn).1 (e'▸hc)⟩
       have hob:Q4 F T w' B (T n) (.mat e e' sz (rows.set i (some rs'))):=by
        have hil:∀(k:Nat) v c,is[k]? =some v->blk v=some c->c<w.heap.size:=fun k v c hk hc=>((hr.heap.ob n _ hl).blk_lt (by rw[hγ];exact⟨v,by simp[N3 hk],hc⟩:Blk (T n) c)).2;refine⟨o',is,hγ,h0,by simp[hlen],⟨xs,?_,fun j u r hu hr'=>?_⟩,fun j u r hu hr'=>?_,hd1',hd2⟩
        .rw[Dt];refine hown.mono fun c hc=>?_;exact hkeep c ((hr.heap.ob n _ hl).blk_lt (by rw[hγ];exact⟨o',by simp,hc⟩:Blk (T n) c)).2 fun e'=>by subst e';exact hd1' i _ _ hvi hb hc
        .rw[D1]at hr';split at hr'
         .rename_i e2;subst e2;cases hr';rw[hvi]at hu;cases hu;have:=hxs i _ (some rs) hvi hri;exact this
         exact hxs j u r hu hr'
        rw[D1]at hr';split at hr'
        .rename_i e2;subst e2;cases hr';rw[hvi]at hu;cases hu;exact hro'
        rename_i e2;have:=hin j u r hu hr';cases r with
        |none=>exact this
        |some rr=>exact Xm.mono (fun _ h=>h) hFk (fun c hc=>hkeep c (hil j u c hu hc) fun e'=>by subst e';exact hd2 j i u _ _ hu hvi (Ne.symm e2) hc hb) this
       refine hK _ F T _ _ rfl (fun _ h=>h) (fun _ h=>.inl h) ?_;rw[hd1];exact hr.step (dst:=some d) hok (F':=F) (T':=T) (hr.heap.wrote hl (b:=b) hBn hkp q4 (fun c hc hne=>hkeep c hc hne) hob) ⟨#[],rfl,rfl,fun j t u h1 h2=>by simp at h1⟩ fun _ _ _ _ hv=>hv.mono (fun _ h=>h) hFk
      cases h
     cases h
    cases h
   cases h
  cases h
 cases h
theorem RunsN.subA {ops:Array Oper} {l:List Oper} {s:HS} {K:HS->Prop} {o:Oper} {f:FuncId} {n i d sz:Nat} {e e':TypeId} {rows:List (Option (List (List CD)))} {rs rs':List (List CD)} (h:subAP s o=some (f,n,i,e,e',sz,rows,rs,d)) (hcon:ConR P f e' sz rs rs')
  (hr:RunsN P ops l (({s with objs:=ins n (.mat e e' sz (rows.set i (some rs'))) s.objs}:HS).put (some d) (.tup [])) K):RunsN P ops (o::l) s K:=by
 refine .many (M:=fun u=>u=_) 1 (fun k hk=>?_) fun u hu=>by rw[hu];exact hr
 exact Qs.subA (hk 0 o rfl) h hcon
end
def rwO (n:Nat) (o:Ob):List (Nat×Ob)->List (Nat×Ob)
 |[]=>[]
 |(m,x)::l=>(if m=n then(m,o)else(m,x))::rwO n o l
theorem X6U {n m:Nat} {o y:Ob}:∀{l:List (Nat×Ob)},lkp (rwO n o l) m=some y->(m=n/\y=o)\/lkp l m=some y
 |[],h=>by cases h
 | (k,x)::l,h=>by
   simp only[rwO]at h;by_cases hk:k=n
   .rw[N9 hk]at h;simp only[lkp]at h⊢;by_cases hm:k=m
    .rw[N9 hm]at h;cases h;exact .inl ⟨by omega,rfl⟩
    rw[N6 hm]at h⊢;exact X6U h
   rw[N6 hk]at h;simp only[lkp]at h⊢;by_cases hm:k=m
   .rw[N9 hm]at h⊢;exact .inr h
   rw[N6 hm]at h⊢;exact X6U h
attribute [simp] X28
inductive RunsC (P:Program) (ops:Array Oper):List Oper->HS->(HS->Prop)->Prop
 |done {l:List Oper} {s:HS} {K:HS->Prop}:wpR P ops l s K->RunsC P ops l s K
 |cut {l:List Oper} {s s1 s2:HS} {K:HS->Prop} (k:Nat):wpR P ops (l.take k) s (fun t=>t=s1)->le s1 s2->RunsC P ops (l.drop k) s2 K->RunsC P ops l s K
 | conv {l:List Oper} {o:Oper} {s:HS} {K:HS->Prop} (sT dT:TypeId) (x:Operand) (k:IntKind) (n:Int):o.guard=none->o.op=.convert sT dT x->Hl.opd s.regs x=Hl.lit (.int k n)->Q3 s o.dst=true->(P.underlying sT).isSome=true->
   P.underlying dT=some (.int (P.intKind dT))->RunsC P ops l (s.put o.dst (Hl.lit (.int (P.intKind dT) ((P.intKind dT).wrap n)))) K->RunsC P ops (o::l) s K
section
variable {P:Program} {w0:World} {B:Nat->Prop} {U:Nat->Option Value}
theorem convS {ops:Array Oper} {Q:Exit->Act->World->Prop} {i:Nat} {o:Oper} {s:HS} {a:Act} {w:World} {F:Nat->Prop} {T:Nat->Value} {Kc:Act->World->Prop} {sT dT:TypeId} {x:Operand} {k:IntKind} {n:Int}
  (hi:ops[i]? =some o) (h:Rel w0 B U F T s a w) (hg:o.guard=none) (ho:o.op=.convert sT dT x) (hx:Hl.opd s.regs x=Hl.lit (.int k n)) (hok:Q3 s o.dst=true) (hs:(P.underlying sT).isSome=true) (hd:P.underlying dT=some (.int (P.intKind dT)))
  (hK:∀a',Rel w0 B U F T (s.put o.dst (Hl.lit (.int (P.intKind dT) ((P.intKind dT).wrap n)))) a' w->Kc a' w):wpOp P ops Q i Kc a w:=by
 unfold wpOp;rw[hi];simp only;have hwant:Region.wanted o (yielded ops a.tmps)=true:=by unfold Region.wanted;rw[hg]
 rw[hwant];simp only[NG];refine .inl ?_
 have hv:a.eval x=.int k n:=by
  have:=h.opd x;rw[hx]at this;have h2:CRel F w (.lit (.int k n)) (a.eval x):=this;generalize a.eval x=u at h2;cases h2;rfl
 unfold Oper.wp execOp;simp only[ho,hv,Sem.run_bind,run_convert_int w sT dT k n hs hd,Result.andThen_ok,Sem.run_pure];refine hK _ ?_;exact h.step (dst:=o.dst) (r:=Hl.lit (.int (P.intKind dT) ((P.intKind dT).wrap n))) (v:=.int (P.intKind dT) ((P.intKind dT).wrap n)) (objs':=s.objs) hok h.heap (CRel.lit _) (fun _ _ _ _ h=>h)
theorem RunsC.cutE {ops:Array Oper} {l:List Oper} {s s1 s2:HS} {p:Prop} {K:HS->Prop} (k:Nat) (cs:List CR) (h:evc P ops (l.take k) s cs=some (s1,p)) (hp:p) (hle:le s1 s2) (hr:RunsC P ops (l.drop k) s2 K):RunsC P ops l s K:=
 .cut k (Qn _ _ _ _ _ h hp rfl) hle hr
theorem RunsC.doneE {ops:Array Oper} {l:List Oper} {s s1:HS} {p:Prop} {K:HS->Prop} (cs:List CR) (h:evc P ops l s cs=some (s1,p)) (hp:p) (hq:K s1):RunsC P ops l s K:=
 .done (Qn _ _ _ _ _ h hp hq)
end
end Go.Hl
namespace Go.Hl
open Go
def rowAP (s:HS) (o:Oper):Option (FuncId×Nat×TypeId×Nat×List (List CD)×Nat):=
 match o.guard,o.op,o.dst with
 | none,.call {callee:=.value x,args:=args, .. },some d=>match capV (opd s.regs x),args.toList with
   | some (f,[]),[y]=>match opd s.regs y with
     | .v (.one (.own n))=>match lkp s.objs n with
       |some (.row e sz rs)=>if Q3 s (some d)=true/\0<rs.length then some (f,n,e,sz,rs,d)else none
       |_=>none
     |_=>none
   |_,_=>none
 |_,_,_=>none
theorem Qs.rowA {P:Program} {ops:Array Oper} {k:Nat} {s:HS} {o:Oper} {f:FuncId} {n d sz:Nat} {e:TypeId} {rs rs':List (List CD)} (h1:ops[k]? =some o) (h:rowAP s o=some (f,n,e,sz,rs,d))
  (hcon:ConR P f e sz rs rs'):Qs P ops k 1 s (fun u=>u=({s with objs:=ins n (.row e sz rs') s.objs}:HS).put (some d) (.tup [])):=by
 intro w0 B U F T a w Q Xy hr hK;unfold rowAP at h;split at h
 .rename_i x as0 ats d1 hg ho hd1;split at h
  .rename_i f1 y hx has;split at h
   .rename_i n1 hy;split at h
    .rename_i e1 sz1 rs1 hl;split at h
     .rename_i hc;obtain⟨hok,hlen0⟩:=hc;cases h;have eas:as0= #[y]:=by obtain⟨l⟩:=as0;simpa using has
      subst eas;obtain⟨hcall,hcon⟩:=hcon;obtain⟨cvs,hv,hcl,_⟩:=WY hx (hr.opd x);have hcv:cvs=[]:=Np (by simpa using hcl);subst hcv;have hv':a.eval x=.func (.func f) #[] #[]:=hv;have hyv:=hr.opd y;rw[hy]at hyv;have hro:Xm F w B e sz (T n) rs:=hr.heap.ob n _ hl
      obtain⟨b,hb,hBn,hhd⟩:∃b,blk (T n)=some b/\Blk (T n) b/\hd (T n)=T n:=by
       obtain⟨_,_,xs,hown,_⟩:=hro;rcases hown.2 with⟨_,hn⟩|⟨b,oo,cap,cur,hv,_⟩
       .omega
       rw[hv];exact⟨b,rfl,rfl,rfl⟩
      have hγ:a.eval y=T n:=by rw[<-hhd];exact hyv.1
      have hrun:(execOp a.eval o).run P w=.ok (.enter f (#[y].map a.eval)) w:=by
       unfold XZ at hcall;split at hcall
       .rename_i fn hfn;simp only[N4,Nk]at hcall;have hnm:¬fn.name= "runtime.NumGoroutine" :=by simpa using hcall.1
        have hnb:¬fn.body=none:=by
         intro hb;rw[hb]at hcall;cases hcall.2
        simp[execOp,ho,resolve,hv',Deferred.ofValue,invoke,callFunc,hfn,hnm,hnb]
       cases hcall
      show wpOps P ops Q (k::Xy) a w;rw[wpOps_cons];unfold wpOp;rw[h1];simp only;have hwant:Region.wanted o (yielded ops a.tmps)=true:=by unfold Region.wanted;rw[hg]
      rw[hwant];simp only[NG];refine .inl ?_;unfold Oper.wp;rw[hrun,Oper.upon_enter];have hargs:(#[y].map a.eval:Array Value)= #[T n]:=by simp[hγ]
      rw[hargs];refine(hcon F B w (T n) hro hr.heap.fsz (fun c hc=>hr.heap.apart n _ hl c (by rw[hb]at hc;cases hc;exact hBn))).mono ?_;rintro z w' ⟨rfl,q1,q2,q3,q4,q5,hro'⟩;have hkeep:∀c,c<w.heap.size->c≠b->w'.heap[c]? =w.heap[c]? :=fun c hc hne=>q5 c hc fun e=>hne (by rw[hb]at e;cases e;rfl);have hFk:∀c,F c->w'.heap[c]? =w.heap[c]? :=fun c hc=>hkeep c (hr.heap.fsz c hc) fun e'=>hr.heap.apart n _ hl b hBn (e'▸hc);have hkp:Kept B w0 w':=hr.heap.below.trans ⟨q1,q2,q3,q4,fun c hc=>hkeep c (hr.heap.hB c hc) fun e'=>((hr.heap.ob n _ hl).blk_lt hBn).1 (e'▸hc)⟩;have hob:Q4 F T w' B (T n) (.row e sz rs'):=hro';refine hK _ F T _ _ rfl (fun _ h=>h) (fun _ h=>.inl h) ?_;rw[hd1];exact hr.step (dst:=some d) hok (F':=F) (T':=T) (hr.heap.wrote hl (b:=b) hBn hkp q4 (fun c hc hne=>hkeep c hc hne) hob) ⟨#[],rfl,rfl,fun j t u h1 h2=>by simp at h1⟩ fun _ _ _ _ hv=>hv.mono (fun _ h=>h) hFk
     cases h
    cases h
   cases h
  cases h
 cases h
theorem RunsN.rowA {P:Program} {ops:Array Oper} {l:List Oper} {s:HS} {K:HS->Prop} {o:Oper} {f:FuncId} {n d sz:Nat} {e:TypeId} {rs rs':List (List CD)} (h:rowAP s o=some (f,n,e,sz,rs,d)) (hcon:ConR P f e sz rs rs')
  (hr:RunsN P ops l (({s with objs:=ins n (.row e sz rs') s.objs}:HS).put (some d) (.tup [])) K):RunsN P ops (o::l) s K:=by
 refine .many (M:=fun u=>u=_) 1 (fun k hk=>?_) fun u hu=>by rw[hu];exact hr
 exact Qs.rowA (hk 0 o rfl) h hcon
theorem Qk.conv {P:Program} {ops:Array Oper} {i:Nat} {o:Oper} {s t:HS} (sT dT:TypeId) (x:Operand) (k:IntKind) (n:Int) (hi:ops[i]? =some o) (hg:o.guard=none) (ho:o.op=.convert sT dT x) (hx:Hl.opd s.regs x=Hl.lit (.int k n)) (hok:Q3 s o.dst=true) (hs:(P.underlying sT).isSome=true)
  (hd:P.underlying dT=some (.int (P.intKind dT))) (ht:s.put o.dst (Hl.lit (.int (P.intKind dT) ((P.intKind dT).wrap n)))=t):Qk P ops i s (fun u=>u=t):=by
 intro w0 B U F T a w Kc Q hr hK;refine convS hi hr hg ho hx hok hs hd fun a' hr'=>?_;rw[ht]at hr';exact hK t F T a' w rfl (fun _ h=>h) (fun _ h=>.inl h) hr'
end Go.Hl
namespace Go.Hl
open Go Go.RowKit
def fnx (g:Operand->RV):Operand->RV
 | .func f=>.v (.one (.c (.fn f [])))
 |x=>g x
section
variable {P:Program}
theorem Qs.fns {ops:Array Oper} {k:Nat} {o:Oper} {s:HS} {d:Nat} {r:RV} {ob:Ob} (hi:ops[k]? =some o) (hg:o.guard=none) (hd:o.dst=some d) (hu:QV d s=true) (hok:Q3 s (some d)=true) (h:evA P (fnx (opd s.regs)) d o.op=some (r,some ob)):
  Qs P ops k 1 s (fun u=>u=({s with objs:=ins d ob s.objs}:HS).put (some d) r):=by
 intro w0 B U F T a w Q Xy hr hK
 have hx:∀x,X9 F T w (fnx (opd s.regs) x) (a.eval x):=by
  intro x;cases x with
  |func f=>exact CRel.fn f [] [] rfl (by simp)
  |tmp t=>exact hr.opd (.tmp t)
  |const v=>exact hr.opd (.const v)
  |global g=>exact hr.opd (.global g)
 have hm:∀x,¬(fnx (opd s.regs) x).men d:=by
  intro x;cases x with
  |func f=>simp[fnx,RV.men,TV.men,CV.men]
  |tmp t=>exact X0A hu (.tmp t)
  |const v=>exact X0A hu (.const v)
  |global g=>exact X0A hu (.global g)
 obtain⟨ob',hob,v,w',hrun,hh,hrv,hsz,hk⟩:=X5J hr.heap hx hm (ZF hu) (X1b hu) h;cases hob;show wpOps P ops Q (k::Xy) a w;rw[wpOps_cons];unfold wpOp;rw[hi];simp only;have hwant:Region.wanted o (yielded ops a.tmps)=true:=by unfold Region.wanted;rw[hg]
 rw[hwant];simp only[NG];refine .inl ?_;unfold Oper.wp;rw[hrun,Oper.upon_value,hd];refine hK _ F (upd T d v) (a.put (some d) v) w' rfl (fun _ h=>h) (fun _ h=>.inl h) ?_;exact hr.step (dst:=some d) hok hh hrv fun k r v hl hr2=>(hr.heap.keepR hk hr2).upd (Zz hu hl)
theorem RunsN.fns {ops:Array Oper} {l:List Oper} {s:HS} {K:HS->Prop} {o:Oper} {d:Nat} {r:RV} {ob:Ob} (hg:o.guard=none) (hd:o.dst=some d) (hu:QV d s=true) (hok:Q3 s (some d)=true) (h:evA P (fnx (opd s.regs)) d o.op=some (r,some ob))
  (hr:RunsN P ops l (({s with objs:=ins d ob s.objs}:HS).put (some d) r) K):RunsN P ops (o::l) s K:=by
 refine .many (M:=fun u=>u=_) 1 (fun k hk=>?_) fun u hu=>by rw[hu];exact hr
 exact Qs.fns (hk 0 o rfl) hg hd hu hok h
theorem wpOp_gd {ops ops':Array Oper} {Q:Exit->Act->World->Prop} {i:Nat} {o:Oper} {a:Act} {w:World} {Kc:Act->World->Prop} (hi:ops[i]? =some o) (hw:Region.wanted o (yielded ops a.tmps)=true) (hi':ops'[i]? =some {o with guard:=none}) (h:wpOp P ops' Q i Kc a w):wpOp P ops Q i Kc a w:=by
 unfold wpOp at h⊢;rw[hi];rw[hi']at h;simp only at h⊢;have h2:Region.wanted {o with guard:=none} (yielded ops' a.tmps)=true:=by unfold Region.wanted;rfl
 rw[h2]at h;rw[hw];simp only[NG]at h⊢;exact h
theorem Qs.callG {ops:Array Oper} {k:Nat} {o:Oper} {s:HS} {f:FuncId} {d:Nat} {objs objs':List (Nat×Ob)} {args:List TV} (Y I:Nat->Nat) {r:RV} (hi:ops[k]? =some o) (hg:ZV ops o s=some true) (hc:gOfC s {o with guard:=none}=some (f,args.map (TV.ren Y []),d))
  (hd:HandS Y I objs objs' s) (hcon:X2U P f objs args r objs') (ho:X3T (objs'.map (·.1)) r=true):Qs P ops k 1 s (fun u=>u=({s with objs:=X0S I objs' (Zl (objs.map fun p=>Y p.1) s.objs)}:HS).put (some d) (r.ren I [])):=by
 intro w0 B U F T a w Q Xy hr hK;show wpOps P ops Q (k::Xy) a w;rw[wpOps_cons];refine wpOp_gd (ops':=Array.replicate (k+1) {o with guard:=none}) hi (ZJ hr hg) (by simp) ?_;exact X9R (by simp) hr hc hd hcon ho fun F2 γ2 a2 w2 h3 h4 hr2=>hK _ F2 γ2 a2 w2 rfl h3 h4 hr2
theorem RunsN.callG {ops:Array Oper} {l:List Oper} {o:Oper} {s:HS} {K:HS->Prop} {f:FuncId} {d:Nat} {objs objs':List (Nat×Ob)} {args:List TV} (Y I:Nat->Nat) {r:RV} (hg:ZV ops o s=some true) (hc:gOfC s {o with guard:=none}=some (f,args.map (TV.ren Y []),d))
  (hd:HandS Y I objs objs' s) (hcon:X2U P f objs args r objs') (ho:X3T (objs'.map (·.1)) r=true) (hr:RunsN P ops l (({s with objs:=X0S I objs' (Zl (objs.map fun p=>Y p.1) s.objs)}:HS).put (some d) (r.ren I [])) K):RunsN P ops (o::l) s K:=by
 refine .many (M:=fun u=>u=_) 1 (fun k hk=>?_) fun u hu=>by rw[hu];exact hr
 exact Qs.callG Y I (hk 0 o rfl) hg hc hd hcon ho
end
end Go.Hl
