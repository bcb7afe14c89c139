/- Part of an evaluator that is sound over the model. Conditions: none. -/
import Derived.Test.YtdccocolnaklkaaGreatDoorH4
import Derived.IntWalk
import Derived.Maps.RangeRun
set_option linter.unusedSimpArgs false
set_option linter.unusedVariables false
namespace Go.Hl
open Go Go.RowKit
def ownB (T:Nat->Value) (objs:List (Nat×Ob)) (w:World):Nat->Prop:=fun b=>b<w.heap.size/\¬X1k T objs b
def ConG (P:Program) (f:FuncId) (objs:List (Nat×Ob)) (args:List TV) (r:RV):Prop:=
 XX P f=true/\∀(F:Nat->Prop) (T:Nat->Value) (w:World) (vs:Array Value),HeapRel w (ownB T objs w) (fun _=>none) F T objs w->vs.size=args.length->
  (∀(j:Nat) t u,args[j]? =some t->vs[j]? =some u->XA F T w t u)->
  Calls P f vs w fun x w'=>∃(v:Value) (N:Nat->Prop) (T':Nat->Value),x=.returned v/\Kept (ownB T objs w) w w'/\(∀c,N c->¬ownB T objs w c/\c<w'.heap.size)/\Xa (fun c=>F c\/N c) T' w' r v
section
variable {P:Program} {F:Nat->Prop} {T T':Nat->Value} {w w' w0:World} {B:Nat->Prop} {U:Nat->Option Value}
theorem X6C {f:FuncId} {fn:Func} {c:Code} {objs:List (Nat×Ob)} {args:List TV} {r:RV} (hf:P.funcs[f]? =some fn) (hb:fn.body=some c) (hcall:XX P f=true) (hnt:args.length<=fn.ntmps)
  (h:HT P c ⟨fn.ntmps,WA 0 args,objs⟩ (fun e s'=>(e=.normal\/e=.ret)/\∃s2,le s' s2/\∃ts,X4l P s2 fn.results.toList=some ts/\r=Xp ts)):ConG P f objs args r:=by
 refine⟨hcall,fun F T w vs hh hsz hargs=>?_⟩
 have hrel:Rel w (ownB T objs w) (fun _=>none) F T ⟨fn.ntmps,WA 0 args,objs⟩ {tmps:=vs++Array.replicate (fn.ntmps - vs.size) undef,defers:=[]} w:=by
  refine⟨hh,rfl,by simp;omega,fun k r hl=>?_⟩;obtain⟨h1,t,ht,rfl⟩:=Z5 args 0 k r hl;have hk:k<vs.size:=by rw[hsz];exact(N8.1 ht).1
  have hv:(vs++Array.replicate (fn.ntmps - vs.size) undef).getD k undef=vs[k]:=by
   rw[Ns,NL hk];simp[hk]
  rw[hv];exact hargs (k - 0) t vs[k] ht (by simp[hk])
 refine calls_of_wp hf hb (wp_mono (h w _ _ F T _ w hrel) ?_);rintro x a' w' ⟨s',F1,γ1,⟨he,s2,hle,ts,hts,rfl⟩,h1,h2,hr'⟩;obtain⟨F2,γ2,h3,h4,hr2⟩:=hle w _ _ F1 γ1 a' w' hr';obtain⟨us,hus,hul,huc⟩:=Zp hr2 hts
 have hFF:∀c,F2 c->F c\/(F2 c/\¬ownB T objs w c):=by
  intro c hc;rcases h4 c hc with h5|h5
  .rcases h2 c h5 with h6|h6
   .exact .inl h6
   exact .inr ⟨hc,h6⟩
  exact .inr ⟨hc,h5⟩
 have hres:∃v,(results fn a'.tmps).run P w'=.ok v w'/\Xa F2 γ2 w' (Xp ts) v:=by
  rw[X0c,Sem.run_bind,hus,Result.andThen_ok];refine⟨_,rfl,?_⟩
  match ts,us,hul,huc with
  |[],[],_,_=>exact⟨#[],rfl,rfl,by simp⟩
  |[t],[u],_,hc=>exact hc 0 t u rfl rfl
  |t1::t2::ts,u1::u2::us,hl,hc=>exact⟨(u1::u2::us).toArray,by simp,by simpa using hl,fun j t u ht hu=>hc j t u ht (by simpa using hu)⟩
 obtain⟨v,hv,hvr⟩:=hres
 have key:a'.defers=[]/\∃v,(results fn a'.tmps).run P w'=.ok v w'/\∃(v2:Value) (N:Nat->Prop) (T':Nat->Value),Ending.returned v=.returned v2/\Kept (ownB T objs w) w w'/\
   (∀c,N c->¬ownB T objs w c/\c<w'.heap.size)/\Xa (fun c=>F c\/N c) T' w' (Xp ts) v2:=
  ⟨hr2.defers,v,hv,v,fun c=>F2 c/\¬ownB T objs w c,γ2,rfl,hr2.heap.below,fun c hc=>⟨hc.2,hr2.heap.fsz c hc.1⟩,hvr.mono hFF fun _ _=>rfl⟩
 rcases he with rfl|rfl
 .exact key
 exact key
def Ob.isRow:Ob->Bool
 | .row _ _ _=>true
 |_=>false
theorem row_B {B':Nat->Prop} {e:TypeId} {s:Nat} {x:Value} {rows:List (List CD)} (h:Xn F w B e s x rows) (hB:∀b,blk x=some b->¬B' b):Xn F w B' e s x rows:=by
 obtain⟨h0,hs,xs,⟨hl,hown⟩,h1,hc⟩:=h;refine⟨h0,hs,xs,⟨hl,hown.imp id ?_⟩,h1,hc⟩;rintro⟨g,oo,cap,cur,rfl,_,Xs⟩;exact⟨g,oo,cap,cur,rfl,hB g rfl,Xs⟩
def WB (ns:List Nat) (objs:List (Nat×Ob)):List (Nat×Ob):=
 match ns with
 |[]=>objs
 |n::ns=>WB ns (del n objs)
theorem X2W (m:Nat):∀(ns:List Nat) (objs:List (Nat×Ob)),lkp (WB ns objs) m=if m∈ns then none else lkp objs m
 |[],objs=>by simp[WB]
 | n::ns,objs=>by
   rw[WB,X2W m ns,Zt];by_cases h1:m∈ns<;>by_cases h2:m=n<;>simp[h1,h2]
def X0N (g:Operand->RV):List Operand->Option (List TV)
 |[]=>some []
 | x::l=>match g x,X0N g l with
   | .v t,some ts=>some (t::ts)
   |_,_=>none
def gOf (s:HS) (o:Oper):Option (FuncId×List TV×Nat):=
 match o.guard,o.op,o.dst with
 | none,.call {callee:=.value x,args:=args, .. },some d=>match opd s.regs x,X0N (opd s.regs) args.toList with
   | .v (.one (.fn f [])),some ts=>if XP s (some d)=true then some (f,ts,d)else none
   |_,_=>none
 |_,_,_=>none
theorem X0s {g:Operand->RV}:∀{l:List Operand} {ts:List TV},X0N g l=some ts->ts.length=l.length/\∀(j:Nat) t,ts[j]? =some t->∃x,l[j]? =some x/\g x=.v t
 |[],ts,h=>by cases h;simp
 | x ::l,ts,h=>by
   unfold X0N at h;split at h
   .rename_i t ts' hx hts;cases h;obtain⟨h1,h2⟩:=X0s hts;refine⟨by simp[h1],fun j t' hj=>?_⟩;cases j with
    |zero=>cases hj;exact⟨x,rfl,hx⟩
    |succ j=>exact h2 j t' hj
   cases h
structure Hand (Y:Nat->Nat) (objs sobjs:List (Nat×Ob)):Prop where
 at_:∀n o,lkp objs n=some o->lkp sobjs (Y n)=some o
 row:∀n o,lkp objs n=some o->o.isRow=true
 inj:∀n m on om,lkp objs n=some on->lkp objs m=some om->n≠m->Y n≠Y m
theorem hand_mk {Y:Nat->Nat} {objs sobjs:List (Nat×Ob)} (h1:∀p∈objs,lkp sobjs (Y p.1)=some p.2/\p.2.isRow=true) (h2:∀p∈objs,∀q∈objs,p.1≠q.1->Y p.1≠Y q.1):Hand Y objs sobjs where
 at_ n o h:=(h1 _ (XE h)).1
 row n o h:=(h1 _ (XE h)).2
 inj n m on om hn hm hne:=h2 _ (XE hn) _ (XE hm) hne
theorem Hand.heap {Y:Nat->Nat} {objs sobjs:List (Nat×Ob)} (hd:Hand Y objs sobjs) (h:HeapRel w0 B U F T sobjs w):
  HeapRel w (ownB (fun n=>T (Y n)) objs w) (fun _=>none) F (fun n=>T (Y n)) objs w where
 below:=Kept.refl _ _
 hB b hb:=hb.1
 fsz:=h.fsz
 ob n o ho:=by
  have h1:=h.ob _ _ (hd.at_ n o ho);have h2:=hd.row n o ho;cases o with
  | row e s rows=>
    exact row_B (show Xn F w B e s (T (Y n)) rows from h1) fun b hb hx=>hx.2 ⟨n,_,ho,(W5 (Xn.sl (show Xn F w B e s (T (Y n)) rows from h1))).2 hb⟩
  |_=>cases h2
 apart n o ho b hb:=h.apart _ _ (hd.at_ n o ho) b hb
 sep n m on om hn hm hne b hb hb':=h.sep _ _ _ _ (hd.at_ n on hn) (hd.at_ m om hm) (hd.inj n m on om hn hm hne) b hb hb'
 pin n v hv:=by cases hv
theorem Hand.after {Y:Nat->Nat} {objs sobjs:List (Nat×Ob)} (hd:Hand Y objs sobjs) (h:HeapRel w0 B U F T sobjs w) (hk:Kept (ownB (fun n=>T (Y n)) objs w) w w') {N:Nat->Prop}
  (hN:∀c,N c->¬ownB (fun n=>T (Y n)) objs w c/\c<w'.heap.size):
  (∀b,N b->¬B b)/\(∀c,F c->w'.heap[c]? =w.heap[c]?)/\HeapRel w0 B U (fun c=>F c\/N c) T (WB (objs.map fun p=>Y p.1) sobjs) w':=by
 have own:∀b,X1k (fun n=>T (Y n)) objs b->∃n o,lkp objs n=some o/\lkp sobjs (Y n)=some o/\Blk (T (Y n)) b:=by
  rintro b ⟨n,o,ho,hb⟩;exact⟨n,o,ho,hd.at_ n o ho,hb⟩
 have hNB:∀b,N b->¬B b:=by
  intro b hb hx;refine(hN b hb).1 ⟨h.hB b hx,fun ho=>?_⟩;obtain⟨n,o,_,h1,h2⟩:=own b ho;exact((h.ob _ _ h1).blk_lt h2).1 hx
 have hF:∀c,F c->w'.heap[c]? =w.heap[c]? :=fun c hc=>hk.block c ⟨h.fsz c hc,fun ho=>by
  obtain⟨n,o,_,h1,h2⟩:=own c ho
  exact h.apart _ _ h1 c h2 hc⟩
 have hlk:∀m o,lkp (WB (objs.map fun p=>Y p.1) sobjs) m=some o->lkp sobjs m=some o/\∀n o',lkp objs n=some o'->Y n≠m:=by
  intro m o hl;rw[X2W]at hl;split at hl
  .cases hl
  rename_i hm;exact⟨hl,fun n o' ho e=>hm (NN.2 ⟨(n,o'),XE ho,e⟩)⟩
 have hsep:∀m o,lkp (WB (objs.map fun p=>Y p.1) sobjs) m=some o->∀b,Blk (T m) b->¬X1k (fun n=>T (Y n)) objs b:=by
  intro m o hl b hb ho;obtain⟨h1,h2⟩:=hlk m o hl;obtain⟨n,o',h3,h4,h5⟩:=own b ho;exact h.sep _ _ _ _ h1 h4 (Ne.symm (h2 n o' h3)) b hb h5
 refine⟨hNB,hF,?_⟩
 exact {
  below:=h.below.trans ⟨hk.os,hk.tape,hk.output,hk.size,fun c hc=>hk.block c ⟨h.hB c hc,fun ho=>by
   obtain⟨n,o,_,h1,h2⟩:=own c ho
   exact((h.ob _ _ h1).blk_lt h2).1 hc⟩⟩
  hB:=fun c hc=>NB (h.hB c hc) hk.size
  fsz:=fun c hc=>by
   rcases hc with hc|hc
   .exact NB (h.fsz c hc) hk.size
   exact(hN c hc).2
  ob:=fun m o hl=>by
   obtain⟨h1,_⟩:=hlk m o hl;have h2:=h.ob m o h1;exact h2.mono (fun _ h=>.inl h) hF fun c hc=>hk.block c ⟨(h2.blk_lt hc).2,hsep m o hl c hc⟩
  apart:=fun m o hl c hc hFc=>by
   obtain⟨h1,_⟩:=hlk m o hl;rcases hFc with hFc|hFc
   .exact h.apart m o h1 c hc hFc
   exact(hN c hFc).1 ⟨((h.ob m o h1).blk_lt hc).2,hsep m o hl c hc⟩
  sep:=fun m k om ok hm hk' hne=>h.sep m k om ok (hlk m om hm).1 (hlk k ok hk').1 hne
  pin:=h.pin}
theorem g_sound {s:HS} {a:Act} {ops:Array Oper} {i:Nat} {o:Oper} {f:FuncId} {d:Nat} {objs:List (Nat×Ob)} {args:List TV} {Y:Nat->Nat} {r:RV} {Kc:Act->World->Prop} {Q:Exit->Act->World->Prop} (hi:ops[i]? =some o) (h:Rel w0 B U F T s a w)
  (hc:gOf s o=some (f,args.map (TV.ren Y []),d)) (hd:Hand Y objs s.objs) (hok:∀t∈args,t.okNil []=true) (hcon:ConG P f objs args r) (honly:r.onlyB false 0=true)
  (hK:∀F' a' w',(∀b,F b->F' b)->(∀b,F' b->F b\/¬B b)->Rel w0 B U F' T (({s with objs:=WB (objs.map fun p=>Y p.1) s.objs}:HS).put (some d) r) a' w'->Kc a' w'):wpOp P ops Q i Kc a w:=by
 unfold gOf at hc;split at hc
 .rename_i x as0 ts0 d0 hgd ho hdst;split at hc
  .rename_i f0 ts hf hts;split at hc
   .rename_i hokd;cases hc;obtain⟨hcall,hcon⟩:=hcon;have hx:=h.opd x;rw[hf]at hx;obtain⟨cvs,hv,hcl,_⟩:=hx;have:cvs=[]:=Nr (by simpa using hcl);subst this;have hv':a.eval x=.func (.func f) #[] #[]:=hv
    have hrun:(execOp a.eval o).run P w=.ok (.enter f (as0.map a.eval)) w:=by
     unfold XX at hcall;split at hcall
     .rename_i fn hfn;simp only[N4,Nm]at hcall;have hnm:¬fn.name= "runtime.NumGoroutine" :=by simpa using hcall.1
      have hnb:¬fn.body=none:=by
       intro hb;rw[hb]at hcall;cases hcall.2
      simp[execOp,ho,resolve,hv',Deferred.ofValue,invoke,callFunc,hfn,hnm,hnb]
     cases hcall
    unfold wpOp;rw[hi];simp only;have hwant:Region.wanted o (yielded ops a.tmps)=true:=by unfold Region.wanted;rw[hgd]
    rw[hwant];simp only[Nd];refine .inl ?_;unfold Oper.wp;rw[hrun,Oper.upon_enter];obtain⟨hlen,hget⟩:=X0s hts;refine(hcon F (fun n=>T (Y n)) w (as0.map a.eval) (hd.heap h.heap) (by simpa using hlen.symm) fun j t u ht hu=>?_).mono ?_
    .obtain⟨y,hy,hgy⟩:=hget j (t.ren Y []) (by simp[ht])
     have hu':u=a.eval y:=by
      rw[Array.getElem?_map,<-Array.getElem?_toList,hy]at hu;exact(Option.some.inj hu).symm
     rw[hu'];have:=h.opd y;rw[hgy]at this;exact XA.ren (Y:=Y) (nils:=[]) (fun n _=>rfl) (fun n hn=>by cases hn) (hok t (N3 ht)) this
    rintro x w' ⟨v,N,T',rfl,hk,hN,hr⟩;obtain⟨h1,h2,h3⟩:=hd.after h.heap hk hN;refine hK (fun c=>F c\/N c) _ _ (fun _ h=>.inl h) (fun c hc=>hc.imp id fun hc=>h1 c hc) ?_;rw[hdst];exact h.step (objs':=WB (objs.map fun p=>Y p.1) s.objs) hokd h3 (hr.only (ob:=false) (d:=0) honly (by simp)) fun k r v _ hr=>hr.mono (fun _ h=>.inl h) h2
   cases hc
  cases hc
 cases hc
theorem X6A {ops:Array Oper} {k:Nat} {o:Oper} (ho:ops[k]? =some o):List.range ops.size=List.range' 0 (ops.toList.take k).length++(k::List.range' (k+1) (ops.toList.drop (k+1)).length):=by
 have hlt:k<ops.size:=(NE.1 ho).1;rw[List.range_eq_range',Nt,NS,Array.length_toList,Nat.min_eq_left (by omega)];apply D0;intro j;by_cases hj:j<k
 .rw[Nk (by simpa using hj)];simp[hj,show j<ops.size by omega]
 rw[Nh (by simp;omega)];simp only[List.length_range'];by_cases hjk:j=k
 .subst hjk;simp[hlt]
 rw[show j - k=(j - (k+1))+1 by omega,List.getElem?_cons_succ];by_cases hjs:j<ops.size
 .rw[NR (by omega),NR (by omega)];congr 1;omega
 rw[ND (by simp;omega),ND (by simp;omega)]
theorem HT_runG {id:Nat} {ops:Array Oper} (k:Nat) (objs:List (Nat×Ob)) (args:List TV) (Y:Nat->Nat) (r:RV) (cs1 cs2:List CR) {s s1 s3:HS} {p q:Prop} {o:Oper} {f:FuncId} {d:Nat} {Q:Exit->HS->Prop} (ho:ops[k]? =some o)
  (hpre:evc P ops (ops.toList.take k) s cs1=some (s1,p)) (hp:p)
  (hg:gOf s1 o=some (f,args.map (TV.ren Y []),d)) (hd:Hand Y objs s1.objs) (hok:∀t∈args,t.okNil []=true) (hcon:ConG P f objs args r) (honly:r.onlyB false 0=true)
  (hpost:evc P ops (ops.toList.drop (k+1)) (({s1 with objs:=WB (objs.map fun p=>Y p.1) s1.objs}:HS).put (some d) r) cs2=some (s3,q)) (hq':q) (hq:Q .normal s3):HT P (.region id ops false) s Q:=by
 intro w0 B U F T a w hr;refine wp_region ?_;rw[X6A ho];refine QY (ops.toList.take k) 0 s F T a w (fun j o' hj=>?_) hr (Qm _ _ _ _ _ hpre hp rfl:wpR P ops (ops.toList.take k) s (fun t=>t=s1)) fun s' F1 γ1 a1 w1 hs' h1 h2 hr1=>?_
 .rw[Nw]at hj;split at hj
  .rw[Nat.zero_add];simpa using hj
  cases hj
 subst hs';rw[wpOps_cons];refine g_sound ho hr1 hg hd hok hcon honly fun F2 a2 w2 h3 h4 hr2=>?_
 have:=QY (Q:=fun e a' w'=>∃(s':HS) (F':Nat->Prop) (T':Nat->Value),Q e s'/\(∀b,F b->F' b)/\(∀b,F' b->F b\/¬B b)/\Rel w0 B U F' T' s' a' w') (Xs:=[]) (ops.toList.drop (k+1)) (k+1) _ F2 γ1 a2 w2 (fun j o' hj=>by
   rw[Nn]at hj;simpa using hj) hr2 (Qm _ _ _ _ _ hpost hq' rfl:wpR P ops (ops.toList.drop (k+1)) _ (fun t=>t=s3)) fun s4 F4 γ4 a4 w4 hs4 h5 h6 hr4=>?_
 .simpa using this
 subst hs4;exact⟨s4,F4,γ4,hq,fun b hb=>h5 b (h3 b (h1 b hb)),fun b hb=>(h6 b hb).elim (fun hb=>(h4 b hb).elim (h2 b) .inr) .inr,hr4⟩
end
abbrev iC (n:Int):CD:=.lit (.int .i64 n)
abbrev bC (b:Bool):CD:=.lit (.bool b)
abbrev sC (s:ByteArray):CD:=.lit (.string s)
abbrev li (n:Int):TV:=.one (.c (iC n))
abbrev lb (b:Bool):TV:=.one (.c (bC b))
abbrev sv (s:ByteArray):TV:=.one (.c (sC s))
def X7 (ks:List Nat):List (Nat×RV)->List (Nat×RV)
 |[]=>[]
 |(k,r)::l=>if ks.contains k=true then(k,r)::X7 ks l else X7 ks l
def Xy (us:List (Nat×RV)) (l:List (Nat×RV)):List (Nat×RV):=
 match us with
 |[]=>l
 |(k,r)::us=>ins k r (Xy us l)
def upS (s:HS) (ks:List Nat) (us:List (Nat×RV)) (objs:List (Nat×Ob)):HS:=⟨s.nt,Xy us (X7 ks s.regs),objs⟩
theorem Xf {P:Program} {I:Type} {c:Code} {s:HS} {Q:Exit->HS->Prop} (ks:List Nat) (U:I->List (Nat×RV)) (O:I->List (Nat×Ob)) (J:I->Prop) (μ:I->Nat) (x0:I) (j0:J x0) (h0:le s (upS s ks (U x0) (O x0)))
  (round:∀x,J x->HT P c (upS s ks (U x) (O x)) (X6v (fun s'=>∃x',J x'/\μ x'<μ x/\le s' (upS s ks (U x') (O x'))) Q)):HT P (.loop c) s Q:=
 HT_loop (fun x=>upS s ks (U x) (O x)) J μ x0 j0 h0 round
theorem Q0 {P:Program} {I:Type} {x y:Code} {s:HS} {Q:Exit->HS->Prop} (ks:List Nat) (U:I->List (Nat×RV)) (O:I->List (Nat×Ob)) (J:I->Prop) (h:HT P x s (X6v (fun s'=>∃z,J z/\le s' (upS s ks (U z) (O z))) Q))
  (h2:∀z,J z->HT P y (upS s ks (U z) (O z)) Q):HT P (.seq x y) s Q:=
 HT_cut (fun z=>upS s ks (U z) (O z)) J h h2
def evcH (P:Program) (ops:Array Oper) (hs:List (Nat×Nat)):List Oper->HS->List CR->Option (HS×Prop)
 |[],s,_=>some (s,True)
 | o ::l,s,cs=>if X3k hs o s=true then match Q1 o.op,cs with
   | .call,c::cs=>match evc P ops [o] s [c] with
     | some (s',p)=>match evcH P ops hs l s' cs with
       |some (s'',q)=>some (s'',p/\q)
       |none=>none
     |none=>none
   | _,cs=>match evc P ops [o] s [] with
     | some (s',p)=>match evcH P ops hs l s' cs with
       |some (s'',q)=>some (s'',p/\q)
       |none=>none
     |none=>none
   else none
theorem X1Y {P:Program} {ops:Array Oper} {hs:List (Nat×Nat)} {K:HS->Prop}:∀(l:List Oper) (s s':HS) (cs:List CR) (p:Prop),l.Pairwise (fun a b=>QR a b=false)->(∀o∈l,QG s o)->evcH P ops hs l s cs=some (s',p)->p->K s'->X1i P ops hs l s K
 |[],s,s',_,p,_,_,h,_,hk=>by cases h;exact hk
 | o ::l,s,s',cs,p,hp,hn,h,hpp,hk=>by
   have step:∀(cs1 cs2:List CR),X3k hs o s=true->(match evc P ops [o] s cs1 with
     | some (s1,p)=>match evcH P ops hs l s1 cs2 with
       |some (s'',q)=>some (s'',p/\q)
       |none=>none
     |none=>none)=some (s',p)->X1i P ops hs (o::l) s K:=by
    intro cs1 cs2 hb h;split at h
    .rename_i s1 p1 he;split at h
     .rename_i s2 q he2;cases h;have hw:wpR P ops [o] s (fun t=>t=s1):=Qm _ _ _ _ _ he hpp.1 rfl;obtain⟨s3,h1,h2⟩:=X1l (hn o (by simp)) hw;have e:s3=s1:=h2;subst e;have hp':=NZ.1 hp;exact⟨s3,h1,X4J hb,X1Y l s3 s' cs2 q hp'.2 (fun p hpl=>QX h1 (hp'.1 p hpl) (hn p (by simp[hpl]))) he2 hpp.2 hk⟩
     cases h
    cases h
   unfold evcH at h;split at h
   .rename_i hb;split at h
    .exact step _ _ hb h
    exact step _ _ hb h
   cases h
theorem X56 {P:Program} {ops:Array Oper} {id:Nat} (hs:List (Nat×Nat)) (cs:List CR) {s s':HS} {p:Prop} {Q:Exit->HS->Prop} (hm:P.follows .mixedOrders=true) (hd:X37 hs ops=true) (hc:X0E ops.toList s=true) (h:evcH P ops hs ops.toList s cs=some (s',p)) (hp:p) (hq:Q .normal s'):HT P (.region id ops true) s Q:=
 X4g hm hd hc fun hpw hok=>X1Y _ _ _ _ _ hpw hok h hp hq
theorem Xi {P:Program} {rs:List ResultVar} {s:HS} {fresh:Bool} {r:RV} {d:Nat} {Q:Exit->HS->Prop} (hQ:(∃s2,le s s2/\RetOK P rs s2 fresh r none d)->Q .ret s) (ts:List TV) (hr:X4l P s rs=some ts) (he:r=Xp ts) (hl:fresh=true->r.litB=true):HT P .ret s Q:=
 Xr (hQ ⟨s,le_refl s,⟨ts,hr,he⟩,by simp,fun h=>⟨hl h,by simp⟩⟩)
theorem BN:(∀a b:Bool,((a||b)=true)=(a=true\/b=true))/\(∀a b:Bool,((a&&b)=true)=(a=true/\b=true))/\(∀a b:Bool,((a||b)=false)=(a=false/\b=false))/\
  (∀a b:Bool,((a&&b)=false)=(a=false\/b=false))/\(∀a:Bool,((!a)=true)=(a=false))/\(∀a:Bool,((!a)=false)=(a=true))/\(∀(p:Prop) [Decidable p],(decide p=true)=p)/\(∀(p:Prop) [Decidable p],(decide p=false)=¬p):=by
 refine⟨?_,?_,?_,?_,?_,?_,?_,?_⟩<;>intros<;>first|(simp;done)|(rename_i a b;cases a<;>cases b<;>simp)
theorem KN:(∀(a b:Nat) (l:List Nat),(a::l).contains b=(b==a||l.contains b))/\(∀b:Nat,([]:List Nat).contains b=false)/\(∀a:Bool,(a||false)=a)/\(∀a:Bool,(a||true)=true)/\(∀a:Bool,(true||a)=true)/\(∀a:Bool,(false||a)=a)/\
  (∀a:Nat,(a==a)=true)/\(∀a b:List (Nat×RV),(if True then a else b)=a)/\(∀a b:List (Nat×RV),(if False then a else b)=b)/\((true=true)=True)/\((false=true)=False):=by
 refine⟨fun a b l=>List.contains_cons,?_,?_,?_,?_,?_,?_,?_,?_,?_,?_⟩<;>intros<;>simp
theorem HT_retA {P:Program} {rs:List ResultVar} {s:HS} {fresh:Bool} {r:RV} {d:Nat} {Q:Exit->HS->Prop} (hQ:(∃s2,le s s2/\RetOK P rs s2 fresh r none d)->Q .ret s) {ts:List TV} (hr:X4l P s rs=some ts:=by simp[*];rfl)
  (he:r=Xp ts:=by first|rfl|(simp[*];done)|(simp only[Xp];(repeat' split)<;>first|rfl|(exfalso;omega)|simp_all)) (hl:fresh=true->r.litB=true:=by simp):HT P .ret s Q:=
 Xr (hQ ⟨s,le_refl s,⟨ts,hr,he⟩,by simp,fun h=>⟨hl h,by simp⟩⟩)
theorem X2 {P:Program} {id:Nat} {ops:Array Oper} {s s':HS} {Q:Exit->HS->Prop} (hq:Q .normal s') (h:evs P ops ops.toList s=some s':=by simp[*];rfl):HT P (.region id ops false) s Q:=XI h hq
attribute [simp] inR evs evc evcS X4r brw brwL X2O X1c WO X2P X1C matC W4 RV.ownB CV.ownB RV.onlyB TV.onlyB CV.onlyB HS.made X93 X99 X81 impB_one impB_and X9e impB_imp pickB_or X9x X3H X3d ZM Q1 X2K stpG Z2 gdR X9H X9q litG_lit litG_gd litG_any litG_sl litG_ptr litG_own litG_at litG_agg evOp evN evA evR evW X51 evUn X75 evNil evAgg X58 eqFs lkpN dataX X7K X39 noMen XL X0U Zw ZH ZG Wg Qq X4M X1z cellsOf opd lkp ins del HS.put XP QN Q7 RV.menB TV.menB CV.menB Ob.menB CV.cell CD.cell Value.oneCell' thenQ X7V X6v X2a X21 WP X5M X6S Wm QT Hl.lit QC Qx Qw QB setRow X1D RV.okNil TV.okNil CV.okNil Ob.okNil RV.ren TV.ren CV.ren Ob.ren X0D XZ CV.frz TV.frz RV.frz Ob.frz HS.frz Zy X0o X5m nilSl X4m WA resT X4l Xp RV.litB TV.litB CV.litB gOf X0N WB upS X7 Xy
theorem Xl {P:Program} {id:Nat} {ops:Array Oper} {s s':HS} {p:Prop} {Q:Exit->HS->Prop} (cs:List CR) (hp:p) (hq:Q .normal s') (h:evc P ops ops.toList s cs=some (s',p):=by simp[*];first|exact⟨rfl,Iff.rfl⟩|exact⟨rfl,trivial⟩|rfl):HT P (.region id ops false) s Q:=Wv cs h hp hq
theorem X5 {s s':HS} (Y:Nat->Nat) (nils:List Nat) (hn:s'.nt=s.nt:=by rfl)
  (hr:X1D (fun k r=>r.okNil nils=true/\opd s.regs (.tmp k)=r.ren (X0D Y) nils) s'.regs:=by simp[upS,X7, *])
  (ho:X1D (fun n o=>if nils.contains n then(match o with| .row _ sz []=>0<sz|_=>False)else o.okNil nils=true/\lkp s.objs (X0D Y n)=some (o.ren (X0D Y) nils)) s'.objs:=by simp[*,upS])
  (hi:X1D (fun n _=>X1D (fun m _=>n=m\/X0D Y n≠X0D Y m\/nils.contains n=true\/nils.contains m=true) s'.objs) s'.objs:=by simp[upS])
  (hp:nils.all (fun n=>decide (n<1000000))=true:=by rfl):le s s':=Qs Y nils hn hr ho hi hp
theorem X1 {P:Program} {id:Nat} {ops:Array Oper} {y:Code} {s s':HS} {Q:Exit->HS->Prop} (hq:thenQ P y Q .normal s') (h:evs P ops ops.toList s=some s':=by simp[*];rfl):HT P (.seq (.region id ops false) y) s Q:=X0 (XI h hq)
theorem Xd {P:Program} {id:Nat} {ops:Array Oper} {y:Code} {s s':HS} {p:Prop} {Q:Exit->HS->Prop} (cs:List CR) (hp:p) (hq:thenQ P y Q .normal s') (h:evc P ops ops.toList s cs=some (s',p):=by simp[*];first|exact⟨rfl,Iff.rfl⟩|exact⟨rfl,trivial⟩|rfl):HT P (.seq (.region id ops false) y) s Q:=X0 (Wv cs h hp hq)
theorem Xb {P:Program} {rs:List ResultVar} {s:HS} {fresh:Bool} {r:RV} {d:Nat} {Q:Exit->HS->Prop} {ts:List TV} (hQ:(∃s2,le s s2/\RetOK P rs s2 fresh r none d)->Q .ret s:=by exact fun h=>⟨.inr rfl,h⟩) (hr:X4l P s rs=some ts:=by simp[*];rfl)
  (he:r=Xp ts:=by first|rfl|(simp[*];done)|(simp only[Xp];(repeat' split)<;>first|rfl|(exfalso;omega)|simp_all)) (hl:fresh=true->r.litB=true:=by simp):HT P .ret s Q:=HT_retA hQ hr he hl
theorem X9 {P:Program} {c:Operand} {x:Code} {s:HS} {Q:Exit->HS->Prop} {t:Bool} (hc:opd s.regs c=.v (.one (.c (.lit (.bool t))))) (ht:t=true->HT P x s Q) (hf:t=false->Q .normal s):HT P (.cond c x .skip) s Q:=X6 hc ht fun h=>Xc (hf h)
theorem X3 {P:Program} {f:FuncId} {fn:Func} {c:Code} {args:List TV} {fresh:Bool} {r:RV} {ob:Option Ob} {d:Nat} (hf:P.funcs[f]? =some fn)
  (h:HT P c ⟨fn.ntmps,WA 0 args,[]⟩ (fun e s'=>(e=.normal\/e=.ret)/\∃s2,le s' s2/\RetOK P fn.results.toList s2 fresh r ob d)) (hb:fn.body=some c:=by exact rfl) (hcall:XX P f=true:=by kernel_rfl) (hnt:args.length<=fn.ntmps:=by exact Dj rfl):Con P f fresh args r ob d:=X95 hf hb hcall hnt h
theorem N0 {P:Program} {id:Nat} {ops:Array Oper} {s s':HS} {Q:Exit->HS->Prop} (hq:Q .normal s') (hm:P.follows .mixedOrders=true:=by kernel_rfl) (hd:drawB ops=true:=by kernel_rfl) (hc:X0E ops.toList s=true:=by rfl) (h:evs P ops ops.toList s=some s':=by simp[*];rfl):HT P (.region id ops true) s Q:=XQ hm hd hc h hq
inductive RunsF (P:Program) (ops:Array Oper):List Oper->HS->(HS->Prop)->Prop
 |done {l:List Oper} {s:HS} {K:HS->Prop}:wpR P ops l s K->RunsF P ops l s K
 |cut {l:List Oper} {s s1 s2:HS} {K:HS->Prop} (k:Nat):wpR P ops (l.take k) s (fun t=>t=s1)->le s1 s2->RunsF P ops (l.drop k) s2 K->RunsF P ops l s K
section
variable {P:Program} {w0:World} {B:Nat->Prop} {U:Nat->Option Value}
theorem X2S (k n m:Nat):List.range' k (n+m)=List.range' k n++List.range' (k+n) m:=by
 apply D0;intro j;by_cases hj:j<n
 .rw[Nk (by simpa using hj),NR (by omega),NR (by omega)]
 rw[Nh (by simp;omega)];simp only[List.length_range'];by_cases hm:j<n+m
 .rw[NR (by omega),NR (by omega)];congr 1;omega
 rw[ND (by simp;omega),ND (by simp;omega)]
theorem X9A {ops:Array Oper} {K:HS->Prop} {Q:Exit->Act->World->Prop} {l:List Oper} {s:HS} (h:RunsF P ops l s K):∀(Xs:List Nat) (k:Nat) (F:Nat->Prop) (T:Nat->Value) (a:Act) (w:World),(∀j o,l[j]? =some o->ops[k+j]? =some o)->
  Rel w0 B U F T s a w->(∀s' F' T' a' w',K s'->(∀b,F b->F' b)->(∀b,F' b->F b\/¬B b)->Rel w0 B U F' T' s' a' w'->wpOps P ops Q Xs a' w')->wpOps P ops Q (List.range' k l.length++Xs) a w:=by
 induction h with
 |done hw=>exact fun Xs k F T a w hd hr hK=>QY _ k _ F T a w hd hr hw hK
 | cut n hw hle _ ih=>
   intro Xs k F T a w hd hr hK;rename_i l s s1 s2 K' _;have hl:l.length=(l.take n).length+(l.drop n).length:=by rw[<-List.length_append,List.take_append_drop]
   rw[hl,X2S,Dc];refine QY (l.take n) k s F T a w (fun j o hj=>?_) hr hw fun s' F1 γ1 a1 w1 hs' h1 h2 hr1=>?_
   .rw[Nw]at hj;split at hj
    .exact hd j o hj
    cases hj
   subst hs';obtain⟨F2,γ2,h3,h4,hr2⟩:=hle w0 B U F1 γ1 a1 w1 hr1;refine ih Xs (k+(l.take n).length) F2 γ2 a1 w1 (fun j o hj=>?_) hr2 fun s3 F3 γ3 a3 w3 hk3 h5 h6 hr3=>?_
   .rw[Nn]at hj;have hlt:n+j<l.length:=(N8.1 hj).1;have:=hd (n+j) o hj;rw[Nt,Nat.min_eq_left (by omega),D9];exact this
   exact hK s3 F3 γ3 a3 w3 hk3 (fun b hb=>h5 b (h3 b (h1 b hb))) (fun b hb=>(h6 b hb).elim (fun hb=>(h4 b hb).elim (h2 b) .inr) .inr) hr3
theorem X2s {id:Nat} {ops:Array Oper} {s:HS} {Q:Exit->HS->Prop} (h:RunsF P ops ops.toList s (Q .normal)):HT P (.region id ops false) s Q:=by
 intro w0 B U F T a w hr;refine wp_region ?_
 have:=X9A (w0:=w0) (B:=B) (U:=U) (Q:=fun e a' w'=>∃(s':HS) (F':Nat->Prop) (T':Nat->Value),Q e s'/\(∀b,F b->F' b)/\(∀b,F' b->F b\/¬B b)/\Rel w0 B U F' T' s' a' w') h [] 0 F T a w (by simp) hr
  fun s' F' T' a' w' hk h1 h2 h3=>⟨s',F',T',hk,h1,h2,h3⟩
 rw[List.range_eq_range'];simpa using this
theorem RunsF.cutE {ops:Array Oper} {l:List Oper} {s s1 s2:HS} {p:Prop} {K:HS->Prop} (k:Nat) (cs:List CR) (h:evc P ops (l.take k) s cs=some (s1,p)) (hp:p) (hle:le s1 s2) (hr:RunsF P ops (l.drop k) s2 K):RunsF P ops l s K:=
 .cut k (Qm _ _ _ _ _ h hp rfl) hle hr
theorem RunsF.doneE {ops:Array Oper} {l:List Oper} {s s1:HS} {p:Prop} {K:HS->Prop} (cs:List CR) (h:evc P ops l s cs=some (s1,p)) (hp:p) (hq:K s1):RunsF P ops l s K:=
 .done (Qm _ _ _ _ _ h hp hq)
end
theorem CV.menB_frz {d n:Nat} {c:CD} {x:CV} (h:(x.frz n c).menB d=true):x.menB d=true:=by
 induction x with
 |gd b x ih=>exact ih h
 |any=>exact h
 |c e=>exact h
 | own m=>
   simp only[CV.frz]at h;split at h
   .simp[CV.menB]at h
   exact h
 | at_ m off=>
   simp only[CV.frz]at h;split at h
   .split at h<;>simp[CV.menB]at h
   exact h
 | el m s' i off=>
   simp only[CV.frz]at h;split at h
   .simp[CV.menB]at h
   exact h
 | sub m i=>
   simp only[CV.frz]at h;split at h
   .simp[CV.menB]at h
   exact h
 | el2 m s' i j off=>
   simp only[CV.frz]at h;split at h
   .simp[CV.menB]at h
   exact h
 | fn f caps=>
   simp only[CV.frz]at h;split at h
   .simp[CV.menB]at h
   exact h
theorem TV.menB_frz {d n:Nat} {c:CD} {x:TV} (h:(x.frz n c).menB d=true):x.menB d=true:=by
 cases x with
 |one x=>exact CV.menB_frz h
 | agg xs=>
   simp only[TV.frz,TV.menB,List.any_map,List.any_eq_true,Function.comp]at h⊢;obtain⟨y,h1,h2⟩:=h;exact⟨y,h1,CV.menB_frz h2⟩
theorem RV.menB_frz {d n:Nat} {c:CD} {x:RV} (h:(x.frz n c).menB d=true):x.menB d=true:=by
 cases x with
 |v x=>exact TV.menB_frz h
 | tup xs=>
   simp only[RV.frz,RV.menB,List.any_map,List.any_eq_true,Function.comp]at h⊢;obtain⟨y,h1,h2⟩:=h;exact⟨y,h1,TV.menB_frz h2⟩
theorem Ob.menB_frz {d n:Nat} {c:CD} {x:Ob} (h:(x.frz n c).menB d=true):x.menB d=true:=by
 cases x with
 | box xs=>
   simp only[Ob.frz,Ob.menB,List.any_map,List.any_eq_true,Function.comp]at h⊢;obtain⟨y,h1,h2⟩:=h;exact⟨y,h1,CV.menB_frz h2⟩
 |row _ _ _=>exact h
 |mp _=>exact h
 |mat _ _ _ _=>exact h
 |refs _ _=>exact h
 |mps _ _=>exact h
 |it _ _=>exact h
section
variable {P:Program} {ops:Array Oper}
theorem split_at {l:List Nat} {i:Nat} (hs:l.Pairwise (· < ·)) (hi:i∈l):∃a b,l=a++i::b/\l.filter (fun j=>decide (j≠i))=a++b/\(∀j∈a,j<i)/\∀j∈b,i<j:=by
 obtain⟨a,b,rfl⟩:=List.append_of_mem hi;obtain⟨h1,h2,h3⟩:=List.pairwise_append.1 hs;have h2':=(NZ.1 h2).1;have h3':∀j∈a,j<i:=fun j hj=>h3 j hj i (by simp);refine⟨a,b,rfl,?_,h3',h2'⟩;rw[Di,List.filter_cons];simp only[ne_eq,not_true_eq_false,decide_false,NA,Nb];rw[Dg.2 fun j hj=>by simp;exact Nat.ne_of_lt (h3' j hj),Dg.2 fun j hj=>by simp;exact Nat.ne_of_gt (h2' j hj)]
theorem rest_set {listed:Array Bool} {i:Nat} (hsz:listed.size=ops.size) (hi:i∈Xs ops listed):Xs ops (listed.setIfInBounds i true)=(Xs ops listed).filter (fun j=>decide (j≠i)):=by
 have hii:i<listed.size:=by rw[hsz];exact(QK.1 hi).1
 unfold Xs;rw[List.filter_filter];apply List.filter_congr;intro j hj;by_cases e:j=i
 .subst e;simp[hii]
 simp only[Ns,Nx (Ne.symm e)];simp[e]
end
def rbB:Ob->Bool
 | .box _=>true
 | .row _ _ _=>true
 | .mp _=>true
 | .mat _ _ _ _=>true
 |_=>false
def Wj (dom:List Nat):CV->Bool
 | .any=>true
 | .c _=>true
 | .own n=>dom.contains n
 | .at_ n _=>dom.contains n
 | .fn _ caps=>caps.all fun p=>dom.contains p.1
 |_=>false
def X0A (dom:List Nat):Ob->Bool
 | .box cs=>cs.all (Wj dom)
 | .row _ _ _=>true
 | .mp _=>true
 | .mat _ _ _ _=>true
 |_=>false
def okTV (dom:List Nat):TV->Bool
 | .one x=>Wj dom x
 | .agg xs=>xs.all (Wj dom)
def X40 (dom:List Nat):RV->Bool
 | .v t=>okTV dom t
 | .tup ts=>ts.all (okTV dom)
def ConS (P:Program) (f:FuncId) (objs:List (Nat×Ob)) (args:List TV) (r:RV) (objs':List (Nat×Ob)):Prop:=
 XX P f=true/\∀(F:Nat->Prop) (T:Nat->Value) (w:World) (vs:Array Value),HeapRel w (ownB T objs w) (fun _=>none) F T objs w->vs.size=args.length->
  (∀(j:Nat) t u,args[j]? =some t->vs[j]? =some u->XA F T w t u)->
  Calls P f vs w fun x w'=>∃(v:Value) (N:Nat->Prop) (T':Nat->Value),x=.returned v/\Kept (ownB T objs w) w w'/\(∀c,N c->¬ownB T objs w c/\c<w'.heap.size)/\Xa (fun c=>F c\/N c) T' w' r v/\
   HeapRel w (ownB T objs w) (fun _=>none) (fun c=>F c\/N c) T' objs' w'/\∀n cs,lkp objs n=some (.box cs)->T' n=T n
section
variable {P:Program} {F:Nat->Prop} {T T':Nat->Value} {w w' w0:World} {B:Nat->Prop} {U:Nat->Option Value}
theorem HeapRel.nopin {objs:List (Nat×Ob)} (h:HeapRel w0 B U F T objs w):HeapRel w0 B (fun _=>none) F T objs w:=
 ⟨h.below,h.hB,h.fsz,h.ob,h.apart,h.sep,fun n v hv=>by cases hv⟩
theorem Xo.agree {x:CV} {v:Value} (hm:∀n,x.men n->T' n=T n) (h:Xo F T w x v):Xo F T' w x v:=by
 induction x with
 |gd b x ih=>exact⟨fun hb=>ih hm (h.1 hb),h.2⟩
 |any=>exact h
 |c d=>exact h
 |own n=>simp only[Xo]at*;rw[hm n rfl];exact h
 |at_ n off=>simp only[Xo]at*;rw[hm n rfl];exact h
 |el n s i off=>simp only[Xo]at*;rw[hm n rfl];exact h
 |sub n i=>simp only[Xo]at*;rw[hm n rfl];exact h
 |el2 n s i j off=>simp only[Xo]at*;rw[hm n rfl];exact h
 | fn f caps=>
   obtain⟨vs,hv,hl,hc⟩:=h;refine⟨vs,hv,hl,fun j p u hp hu=>?_⟩;rw[hm p.1 ⟨p,N3 hp,rfl⟩];exact hc j p u hp hu
theorem Xk.agree {xs:List CV} {vs:Array Value} (hm:∀n,(∃x∈xs,x.men n)->T' n=T n) (h:Xk F T w xs vs):Xk F T' w xs vs:=
 ⟨h.1,fun j x u hx hu=>(h.2 j x u hx hu).agree fun n hn=>hm n ⟨x,N3 hx,hn⟩⟩
theorem XA.agree {x:TV} {v:Value} (hm:∀n,x.men n->T' n=T n) (h:XA F T w x v):XA F T' w x v:=by
 cases x with
 |one x=>exact Xo.agree hm h
 |agg xs=>obtain⟨vs,rfl,hc⟩:=h;exact⟨vs,rfl,hc.agree hm⟩
theorem Xa.agree {x:RV} {v:Value} (hm:∀n,x.men n->T' n=T n) (h:Xa F T w x v):Xa F T' w x v:=by
 cases x with
 |v t=>exact XA.agree hm h
 | tup ts=>
   obtain⟨vs,rfl,hs,hc⟩:=h;exact⟨vs,rfl,hs,fun j t u ht hu=>(hc j t u ht hu).agree fun n hn=>hm n ⟨t,N3 ht,hn⟩⟩
theorem XR.agree {x:Value} {o:Ob} (hm:∀n,o.men n->T' n=T n) (h:XR F T w B x o):XR F T' w B x o:=by
 cases o with
 |box cs=>obtain⟨b,e,vs,rfl,hb,hh,hc⟩:=h;exact⟨b,e,vs,rfl,hb,hh,hc.agree hm⟩
 |row e s rows=>exact h
 |mp l=>exact h
 |mat e e' s rows=>exact h
 | refs e ns=>
   obtain⟨b,rfl,hb,hh⟩:=h;refine⟨b,rfl,hb,?_⟩;rw[hh];congr 3;refine List.map_congr_left fun n hn=>?_;rw[hm n hn]
 |mps e ms=>exact h
 |it l seen=>exact h
theorem X03 (x:CV):x.okNil []=true:=by
 induction x with
 |gd b x ih=>exact ih
 |_=>simp[CV.okNil]
theorem X91 {Y:Nat->Nat} {cs:List CV} {vs:Array Value} (h:Xk F T w (cs.map (CV.ren Y [])) vs):Xk F (fun n=>T (Y n)) w cs vs:=by
 refine⟨by simpa using h.1,fun j x u hx hu=>?_⟩;exact Xo.ren (Y:=Y) (nils:=[]) (fun n _=>rfl) (fun n hn=>by cases hn) (X03 x) (h.2 j (x.ren Y []) u (by simp[hx]) hu)
theorem X3E {I:Nat->Nat} {dom:List Nat} {x:CV} {v:Value} (hd:∀n,dom.contains n=true->T' (I n)=T n) (ho:Wj dom x=true) (h:Xo F T w x v):Xo F T' w (x.ren I []) v:=by
 cases x with
 |any=>trivial
 |c d=>exact h
 | own n=>
   simp only[Wj]at ho;simp only[CV.ren,List.contains_nil,NA,Nb,Xo]at*;rw[hd n ho];exact h
 | at_ n off=>
   simp only[Wj]at ho;simp only[CV.ren,List.contains_nil,NA,Nb,Xo]at*;rw[hd n ho];exact h
 | fn f caps=>
   simp only[Wj,Nl]at ho;obtain⟨vs,hv,hl,hc⟩:=h;refine⟨vs,hv,by simpa using hl,fun j p u hp hu=>?_⟩;rw[Nj]at hp;simp only[N7]at hp;obtain⟨q,hq,rfl⟩:=hp;simp only;rw[hd q.1 (ho q (N3 hq))];exact hc j q u hq hu
 |_=>cases ho
theorem tv_out {I:Nat->Nat} {dom:List Nat} {x:TV} {v:Value} (hd:∀n,dom.contains n=true->T' (I n)=T n) (ho:okTV dom x=true) (h:XA F T w x v):XA F T' w (x.ren I []) v:=by
 cases x with
 |one x=>exact X3E hd ho h
 | agg xs=>
   obtain⟨vs,rfl,hs,hc⟩:=h;refine⟨vs,rfl,by simpa using hs,fun j y u hy hu=>?_⟩;rw[Nj]at hy;simp only[N7]at hy;obtain⟨z,hz,rfl⟩:=hy;simp only[okTV,Nl]at ho;exact X3E hd (ho z (N3 hz)) (hc j z u hz hu)
theorem rv_out {I:Nat->Nat} {dom:List Nat} {x:RV} {v:Value} (hd:∀n,dom.contains n=true->T' (I n)=T n) (ho:X40 dom x=true) (h:Xa F T w x v):Xa F T' w (x.ren I []) v:=by
 cases x with
 |v t=>exact tv_out hd ho h
 | tup ts=>
   obtain⟨vs,rfl,hs,hc⟩:=h;refine⟨vs,rfl,by simpa using hs,fun j y u hy hu=>?_⟩;rw[Nj]at hy;simp only[N7]at hy;obtain⟨z,hz,rfl⟩:=hy;simp only[X40,Nl]at ho;exact tv_out hd (ho z (N3 hz)) (hc j z u hz hu)
theorem mat_B {B':Nat->Prop} {e e':TypeId} {s:Nat} {x:Value} {rows:List (Option (List (List CD)))} (h:XR F T w B x (.mat e e' s rows)) (hB:∀b,Blk x b->¬B' b):XR F T' w B' x (.mat e e' s rows):=by
 obtain⟨o,is,rfl,h0,hl,⟨xs,⟨hxl,hown⟩,hxs⟩,hin,hd1,hd2⟩:=h;have hbk:∀v∈o::is,∀b,blk v=some b->¬B' b:=fun v hv b hb=>hB b ⟨v,by simpa using hv,hb⟩;refine⟨o,is,rfl,h0,hl,⟨xs,⟨hxl,hown.imp id ?_⟩,hxs⟩,fun i v r hv hr=>?_,hd1,hd2⟩
 .rintro⟨g,oo,cap,cur,rfl,_,Xs⟩;exact⟨g,oo,cap,cur,rfl,hbk _ List.mem_cons_self g rfl,Xs⟩
 have h1:=hin i v r hv hr;cases r with
 |none=>exact h1
 |some rr=>exact row_B h1 (hbk v (Nu _ (N3 hv)))
theorem ob_out {I:Nat->Nat} {dom:List Nat} {B':Nat->Prop} {x:Value} {o:Ob} (hd:∀n,dom.contains n=true->T' (I n)=T n) (ho:X0A dom o=true) (hB:∀b,¬B b->¬B' b) (h:XR F T w B x o):XR F T' w B' x (o.ren I []):=by
 cases o with
 | box cs=>
   obtain⟨b,e,vs,rfl,hb,hh,hc⟩:=h;refine⟨b,e,vs,rfl,hB b hb,hh,by simpa using hc.1,fun j y u hy hu=>?_⟩;rw[Nj]at hy;simp only[N7]at hy;obtain⟨z,hz,rfl⟩:=hy;simp only[X0A,Nl]at ho;exact X3E hd (ho z (N3 hz)) (hc.2 j z u hz hu)
 | row e s rows=>
   have hrow:Xn F w B e s x rows:=h;obtain⟨xs,hown⟩:=Xn.own hrow;exact row_B hrow fun b hb=>hB b (hown.blk_lt hb).1
 | mp l=>
   obtain⟨b,es,clock,h1,h2,h3⟩:=h;exact⟨b,es,clock,h1,hB b h2,h3⟩
 |mat e e' s rows=>exact mat_B h fun b hb=>hB b (h.blk_lt hb).1
 |_=>cases ho
def X02 (I:Nat->Nat):List (Nat×Ob)->List (Nat×Ob)->List (Nat×Ob)
 |[],b=>b
 |(n,o)::l,b=>ins (I n) (o.ren I []) (X02 I l b)
theorem Zn {I:Nat->Nat} {b:List (Nat×Ob)} {m:Nat} {o:Ob}:∀{l:List (Nat×Ob)},lkp (X02 I l b) m=some o->
  (∃n o',lkp l n=some o'/\I n=m/\o=o'.ren I [])\/((∀n o',lkp l n=some o'->I n≠m)/\lkp b m=some o)
 |[],h=>.inr ⟨fun n o' h=>(by cases h),h⟩
 | (k,x)::l,h=>by
   simp only[X02]at h;rw[XS]at h;split at h
   .rename_i e;cases h;exact .inl ⟨k,x,by simp[lkp],e.symm,rfl⟩
   rename_i e;rcases Zn h with⟨n,o',h1,h2,h3⟩|⟨h1,h2⟩
   .refine .inl ⟨n,o',?_,h2,h3⟩;have:¬k=n:=fun hk=>e (by rw[hk,h2]);simp[lkp,this,h1]
   refine .inr ⟨fun n o' hn=>?_,h2⟩;simp only[lkp]at hn;split at hn
   .rename_i hk;rw[<-hk];exact fun h=>e h.symm
   exact h1 n o' hn
def invS (I:Nat->Nat):List (Nat×Ob)->Nat->Option Nat
 |[],_=>none
 |(n,_)::l,m=>if I n=m then some n else invS I l m
theorem X72 {I:Nat->Nat} {m n:Nat}:∀{l:List (Nat×Ob)},invS I l m=some n->I n=m/\∃o,lkp l n=some o
 |[],h=>by cases h
 | (k,x)::l,h=>by
   simp only[invS]at h;split at h
   .rename_i e;cases h;exact⟨e,x,by simp[lkp]⟩
   obtain⟨h1,o,h2⟩:=X72 h;refine⟨h1,?_⟩;by_cases e:k=n
   .exact⟨x,by simp[lkp,e]⟩
   exact⟨o,by simp[lkp,e,h2]⟩
theorem X8H {I:Nat->Nat} {n:Nat} {o:Ob}:∀{l:List (Nat×Ob)},(∀a b oa ob,lkp l a=some oa->lkp l b=some ob->a≠b->I a≠I b)->lkp l n=some o->invS I l (I n)=some n
 |[],_,h=>by cases h
 | (k,x)::l,hi,h=>by
   simp only[invS];split
   .rename_i e;by_cases hk:k=n
    .rw[hk]
    exact absurd e (hi k n x o (by simp[lkp]) h hk)
   rename_i e;have hk:¬k=n:=fun hk=>e (by rw[hk]);have h':lkp l n=some o:=by simpa[lkp,hk]using h
   refine X8H (fun a b oa ob ha hb hne=>?_) h'
   obtain⟨oa',ha'⟩:∃o,lkp ((k,x)::l) a=some o:=by
    by_cases e:k=a
    .exact⟨x,by simp[lkp,e]⟩
    exact⟨oa,by simp[lkp,e,ha]⟩
   obtain⟨ob',hb'⟩:∃o,lkp ((k,x)::l) b=some o:=by
    by_cases e:k=b
    .exact⟨x,by simp[lkp,e]⟩
    exact⟨ob,by simp[lkp,e,hb]⟩
   exact hi a b oa' ob' ha' hb' hne
structure HandS (Y I:Nat->Nat) (objs objs':List (Nat×Ob)) (s:HS):Prop where
 at_:∀n o,lkp objs n=some o->lkp s.objs (Y n)=some (o.ren Y [])
 rb:∀n o,lkp objs n=some o->rbB o=true
 inj:∀n m on om,lkp objs n=some on->lkp objs m=some om->n≠m->Y n≠Y m
 inj':∀n m on om,lkp objs' n=some on->lkp objs' m=some om->n≠m->I n≠I m
 out:∀n o,lkp objs' n=some o->X0A (objs'.map (·.1)) o=true
 box:∀n cs,lkp objs' n=some (.box cs)->(I n=Y n/\∃cs0,lkp objs n=some (.box cs0))\/QN (I n) s=true
 oth:∀n o,lkp objs' n=some o->(∀cs,o≠ .box cs)->QN (I n) s=true
theorem Z8 {Y I:Nat->Nat} {objs objs':List (Nat×Ob)} {s:HS} (h1:∀p∈objs,lkp s.objs (Y p.1)=some (p.2.ren Y [])/\rbB p.2=true) (h2:∀p∈objs,∀q∈objs,p.1≠q.1->Y p.1≠Y q.1) (h3:∀p∈objs',∀q∈objs',p.1≠q.1->I p.1≠I q.1)
  (h4:∀p∈objs',X0A (objs'.map (·.1)) p.2=true) (h5:∀p∈objs',match p.2 with| .box _=>(I p.1=Y p.1/\∃cs0,lkp objs p.1=some (.box cs0))\/QN (I p.1) s=true|_=>QN (I p.1) s=true):HandS Y I objs objs' s where
 at_ n o h:=(h1 _ (XE h)).1
 rb n o h:=(h1 _ (XE h)).2
 inj n m on om hn hm hne:=h2 _ (XE hn) _ (XE hm) hne
 inj' n m on om hn hm hne:=h3 _ (XE hn) _ (XE hm) hne
 out n o h:=h4 _ (XE h)
 box n cs h:=h5 _ (XE h)
 oth n o h hb:=by
  have:=h5 _ (XE h);cases o with
  |box cs=>exact absurd rfl (hb cs)
  |_=>exact this
theorem HandS.heap {Y I:Nat->Nat} {objs objs':List (Nat×Ob)} {s:HS} (hd:HandS Y I objs objs' s) (h:HeapRel w0 B U F T s.objs w):
  HeapRel w (ownB (fun n=>T (Y n)) objs w) (fun _=>none) F (fun n=>T (Y n)) objs w where
 below:=Kept.refl _ _
 hB b hb:=hb.1
 fsz:=h.fsz
 ob n o ho:=by
  have h1:=h.ob _ _ (hd.at_ n o ho);have h2:=hd.rb n o ho;cases o with
  | row e s rows=>
    have h1:Xn F w B e s (T (Y n)) rows:=h1;exact row_B h1 fun b hb hx=>hx.2 ⟨n,_,ho,(W5 (Xn.sl h1)).2 hb⟩
  | box cs=>
    obtain⟨b,e,vs,hx,hB,hh,hc⟩:=h1;exact⟨b,e,vs,hx,fun hb=>hb.2 ⟨n,_,ho,by rw[show(fun n=>T (Y n)) n=T (Y n) from rfl,hx];rfl⟩,hh,X91 hc⟩
  | mp l=>
    obtain⟨b,es,clock,hx,hB,h3⟩:=h1;exact⟨b,es,clock,hx,fun hb=>hb.2 ⟨n,_,ho,by rw[show(fun n=>T (Y n)) n=T (Y n) from rfl,hx];rfl⟩,h3⟩
  |mat e e' s rows=>exact mat_B h1 fun b hb hx=>hx.2 ⟨n,_,ho,hb⟩
  |_=>cases h2
 apart n o ho b hb:=h.apart _ _ (hd.at_ n o ho) b hb
 sep n m on om hn hm hne b hb hb':=h.sep _ _ _ _ (hd.at_ n on hn) (hd.at_ m om hm) (hd.inj n m on om hn hm hne) b hb hb'
 pin n v hv:=by cases hv
theorem HandS.after {Y I:Nat->Nat} {objs objs':List (Nat×Ob)} {s:HS} (hd:HandS Y I objs objs' s) (h:HeapRel w0 B U F T s.objs w) (hk:Kept (ownB (fun n=>T (Y n)) objs w) w w') {N:Nat->Prop}
  (hN:∀c,N c->¬ownB (fun n=>T (Y n)) objs w c/\c<w'.heap.size) (hh:HeapRel w (ownB (fun n=>T (Y n)) objs w) (fun _=>none) (fun c=>F c\/N c) T' objs' w') (hbx:∀n cs,lkp objs n=some (.box cs)->T' n=T (Y n)):
  (∀b,N b->¬B b)/\(∀c,F c->w'.heap[c]? =w.heap[c]?)/\∃γ2:Nat->Value,HeapRel w0 B U (fun c=>F c\/N c) γ2 (X02 I objs' (WB (objs.map fun p=>Y p.1) s.objs)) w'/\(∀n,(objs'.map (·.1)).contains n=true->γ2 (I n)=T' n)/\∀r:RV,(∃k,lkp s.regs k=some r)->∀n,r.men n->γ2 n=T n:=by
 have own:∀b,X1k (fun n=>T (Y n)) objs b->∃n o,lkp objs n=some o/\lkp s.objs (Y n)=some (o.ren Y [])/\Blk (T (Y n)) b:=by
  rintro b ⟨n,o,ho,hb⟩;exact⟨n,o,ho,hd.at_ n o ho,hb⟩
 have hBo:∀b,B b->ownB (fun n=>T (Y n)) objs w b:=by
  intro b hb;refine⟨h.hB b hb,fun ho=>?_⟩;obtain⟨n,o,_,h1,h2⟩:=own b ho;exact((h.ob _ _ h1).blk_lt h2).1 hb
 have hNB:∀b,N b->¬B b:=fun b hb hx=>(hN b hb).1 (hBo b hx)
 have hF:∀c,F c->w'.heap[c]? =w.heap[c]? :=fun c hc=>hk.block c ⟨h.fsz c hc,fun ho=>by
  obtain⟨n,o,_,h1,h2⟩:=own c ho
  exact h.apart _ _ h1 c h2 hc⟩
 let γ2:Nat->Value:=fun m=>match invS I objs' m with
  |some n=>T' n
  |none=>T m
 have hin:∀n o,lkp objs' n=some o->γ2 (I n)=T' n:=by
  intro n o hl;simp only[γ2,X8H hd.inj' hl]
 have hinD:∀n,(objs'.map (·.1)).contains n=true->γ2 (I n)=T' n:=by
  intro n hn
  have hex:∀l:List (Nat×Ob),(l.map (·.1)).contains n=true->∃o,lkp l n=some o:=by
   intro l
   induction l with
   |nil=>intro h;simp at h
   | cons p l ih=>
     intro h;by_cases e:p.1=n
     .exact⟨p.2,by simp[lkp,e]⟩
     have:(l.map (·.1)).contains n=true:=by
      simp only[Na,List.contains_cons,Ni,beq_iff_eq]at h;exact h.resolve_left (fun h=>e h.symm)
     obtain⟨o,ho⟩:=ih this;exact⟨o,by simp[lkp,e,ho]⟩
  obtain⟨o,ho⟩:=hex _ hn;exact hin n o ho
 -- where the names differ, nothing old is mentioned
 have hout:∀m,γ2 m=T m\/QN m s=true:=by
  intro m;simp only[γ2];split
  .rename_i n hn;obtain⟨h1,o,h2⟩:=X72 hn;cases o with
   | box cs=>
     rcases hd.box n cs h2 with⟨h3,cs0,h4⟩|h3
     .exact .inl (by rw[hbx n cs0 h4,<-h3,h1])
     exact .inr (by rw[<-h1];exact h3)
   |_=>exact .inr (by rw[<-h1];exact hd.oth n _ h2 (by simp))
  exact .inl rfl
 have hold:∀m o,lkp s.objs m=some o->γ2 m=T m/\∀n,o.men n->γ2 n=T n:=by
  intro m o hl;refine⟨(hout m).resolve_right fun hu=>(Zm hu m o (XE hl)).1 rfl,fun n hn=>(hout n).resolve_right fun hu=>(Zm hu m o (XE hl)).2 hn⟩
 have hlk:∀m o,lkp (WB (objs.map fun p=>Y p.1) s.objs) m=some o->lkp s.objs m=some o/\∀n o',lkp objs n=some o'->Y n≠m:=by
  intro m o hl;rw[X2W]at hl;split at hl
  .cases hl
  rename_i hm;exact⟨hl,fun n o' ho e=>hm (NN.2 ⟨(n,o'),XE ho,e⟩)⟩
 have hsep:∀m o,lkp (WB (objs.map fun p=>Y p.1) s.objs) m=some o->∀b,Blk (T m) b->ownB (fun n=>T (Y n)) objs w b:=by
  intro m o hl b hb;obtain⟨h1,h2⟩:=hlk m o hl;refine⟨((h.ob m o h1).blk_lt hb).2,fun ho=>?_⟩;obtain⟨n,o',h3,h4,h5⟩:=own b ho;exact h.sep _ _ _ _ h1 h4 (Ne.symm (h2 n o' h3)) b hb h5
 refine⟨hNB,hF,γ2,?_,hinD,fun r ⟨k,hr⟩ n hn=>(hout n).resolve_right fun hu=>ZS hu (XE hr) hn⟩
 exact {
  below:=h.below.trans ⟨hk.os,hk.tape,hk.output,hk.size,fun c hc=>hk.block c (hBo c hc)⟩
  hB:=fun c hc=>NB (h.hB c hc) hk.size
  fsz:=fun c hc=>by
   rcases hc with hc|hc
   .exact NB (h.fsz c hc) hk.size
   exact(hN c hc).2
  ob:=fun m o hl=>by
   rcases Zn hl with⟨n,o',h1,rfl,rfl⟩|⟨h1,h2⟩
   .rw[hin n o' h1];exact ob_out hinD (hd.out n o' h1) (fun b hb hx=>hb (hBo b hx)) (hh.ob n o' h1)
   obtain⟨h3,_⟩:=hlk m o h2;obtain⟨h4,h5⟩:=hold m o h3;rw[h4];have h6:=h.ob m o h3;refine XR.agree h5 (h6.mono (fun _ h=>.inl h) hF fun c hc=>hk.block c (hsep m o h2 c hc))
  apart:=fun m o hl c hc hFc=>by
   rcases Zn hl with⟨n,o',h1,rfl,rfl⟩|⟨h1,h2⟩
   .rw[hin n o' h1]at hc;exact hh.apart n o' h1 c hc hFc
   obtain⟨h3,_⟩:=hlk m o h2;rw[(hold m o h3).1]at hc;rcases hFc with hFc|hFc
   .exact h.apart m o h3 c hc hFc
   exact(hN c hFc).1 (hsep m o h2 c hc)
  sep:=fun m k om ok hm hk' hne b hb hb'=>by
   rcases Zn hm with⟨n,o',h1,rfl,rfl⟩|⟨h1,h2⟩
   .rw[hin n o' h1]at hb;rcases Zn hk' with⟨n2,o2,g1,rfl,rfl⟩|⟨g1,g2⟩
    .rw[hin n2 o2 g1]at hb';exact hh.sep n n2 o' o2 h1 g1 (fun e=>hne (by rw[e])) b hb hb'
    rw[(hold k ok (hlk k ok g2).1).1]at hb';exact((hh.ob n o' h1).blk_lt hb).1 (hsep k ok g2 b hb')
   rw[(hold m om (hlk m om h2).1).1]at hb;rcases Zn hk' with⟨n2,o2,g1,rfl,rfl⟩|⟨g1,g2⟩
   .rw[hin n2 o2 g1]at hb';exact((hh.ob n2 o2 g1).blk_lt hb').1 (hsep m om h2 b hb)
   rw[(hold k ok (hlk k ok g2).1).1]at hb';exact h.sep m k om ok (hlk m om h2).1 (hlk k ok g2).1 hne b hb hb'
  pin:=fun n v hv=>by
   obtain⟨h1,h2⟩:=h.pin n v hv;refine⟨h1,?_⟩;rw[<-h2];refine(hout n).resolve_right fun hu=>?_;unfold QN at hu;simp only[N4,N5]at hu
   omega}
def capsT:List TV->List (Nat×Nat)->List TV
 |ts,[]=>ts
 |ts,c::cs=>ts++(c::cs).map fun p=>TV.one (.at_ p.1 p.2)
theorem capsT_eq (ts:List TV) (caps:List (Nat×Nat)):capsT ts caps=ts++caps.map fun p=>TV.one (.at_ p.1 p.2):=by
 cases caps<;>simp[capsT]
def gOfC (s:HS) (o:Oper):Option (FuncId×List TV×Nat):=
 match o.guard,o.op,o.dst with
 | none,.call {callee:=.value x,args:=args, .. },some d=>match opd s.regs x,X0N (opd s.regs) args.toList with
   | .v (.one (.fn f caps)),some ts=>if XP s (some d)=true then some (f,capsT ts caps,d)else none
   |_,_=>none
 |_,_,_=>none
theorem s_sound {s:HS} {a:Act} {ops:Array Oper} {i:Nat} {o:Oper} {f:FuncId} {d:Nat} {objs objs':List (Nat×Ob)} {args:List TV} {Y I:Nat->Nat} {r:RV} {Kc:Act->World->Prop} {Q:Exit->Act->World->Prop} (hi:ops[i]? =some o) (h:Rel w0 B U F T s a w)
  (hc:gOfC s o=some (f,args.map (TV.ren Y []),d)) (hd:HandS Y I objs objs' s) (hcon:ConS P f objs args r objs') (hout:X40 (objs'.map (·.1)) r=true)
  (hK:∀F' γ2 a' w',(∀b,F b->F' b)->(∀b,F' b->F b\/¬B b)->Rel w0 B U F' γ2 (({s with objs:=X02 I objs' (WB (objs.map fun p=>Y p.1) s.objs)}:HS).put (some d) (r.ren I [])) a' w'->Kc a' w'):wpOp P ops Q i Kc a w:=by
 unfold gOfC at hc;split at hc
 .rename_i x as0 ts0 d0 hgd ho hdst;split at hc
  .rename_i f0 caps0 ts hf hts;split at hc
   .rename_i hokd;simp only[Option.some.injEq,Prod.mk.injEq]at hc;obtain⟨rfl,hca,rfl⟩:=hc;obtain⟨hcall,hcon⟩:=hcon;have hx:=h.opd x;rw[hf]at hx;obtain⟨cvs,hv,hcl,hcc⟩:=hx;have hv':a.eval x=.func (.func f0) #[] cvs.toArray:=hv
    have hrun:(execOp a.eval o).run P w=.ok (.enter f0 (as0.map a.eval++cvs.toArray)) w:=by
     unfold XX at hcall;split at hcall
     .rename_i fn hfn;simp only[N4,Nm]at hcall;have hnm:¬fn.name= "runtime.NumGoroutine" :=by simpa using hcall.1
      have hnb:¬fn.body=none:=by
       intro hb;rw[hb]at hcall;cases hcall.2
      simp[execOp,ho,resolve,hv',Deferred.ofValue,invoke,callFunc,hfn,hnm,hnb]
     cases hcall
    unfold wpOp;rw[hi];simp only;have hwant:Region.wanted o (yielded ops a.tmps)=true:=by unfold Region.wanted;rw[hgd]
    rw[hwant];simp only[Nd];refine .inl ?_;unfold Oper.wp;rw[hrun,Oper.upon_enter];obtain⟨hlen,hget⟩:=X0s hts;rw[capsT_eq]at hca;have hsz:(as0.map a.eval).size=ts.length:=by rw[Array.size_map,hlen,Array.length_toList]
    refine(hcon F (fun n=>T (Y n)) w (as0.map a.eval++cvs.toArray) (hd.heap h.heap) ?_ fun j t u ht hu=>?_).mono ?_
    .have:=congrArg List.length hca;simp only[Nz,NY]at this;simp only[Array.size_append,hsz,List.size_toArray];omega
    .have key:XA F T w (t.ren Y []) u:=by
      have hm:(ts++caps0.map fun p=>TV.one (.at_ p.1 p.2))[j]? =some (t.ren Y []):=by rw[hca];simp[ht]
      by_cases hj:j<ts.length
      .rw[Nk hj]at hm;rw[NL (by omega)]at hu;obtain⟨y,hy,hgy⟩:=hget j _ hm
       have hu':u=a.eval y:=by
        rw[Array.getElem?_map,<-Array.getElem?_toList,hy]at hu;exact(Option.some.inj hu).symm
       rw[hu'];have:=h.opd y;rw[hgy]at this;exact this
      rw[Nh (NP hj),Nj]at hm;rw[Array.getElem?_append_right (by omega),hsz]at hu;simp only[N7]at hm;obtain⟨p,hp,hpe⟩:=hm;rw[<-hpe];exact hcc _ p u hp (by simpa using hu)
     refine XA.ren (Y:=Y) (nils:=[]) (fun n _=>rfl) (fun n hn=>by cases hn) ?_ key;cases t with
     |one x=>exact X03 x
     |agg xs=>simp only[TV.okNil,Nl];exact fun x _=>X03 x
    rintro x w' ⟨v,N,T',rfl,hk,hN,hr,hh,hbx⟩;obtain⟨h1,h2,γ2,h3,h5,h4⟩:=hd.after h.heap hk hN hh hbx;refine hK (fun c=>F c\/N c) γ2 _ _ (fun _ h=>.inl h) (fun c hc=>hc.imp id fun hc=>h1 c hc) ?_;rw[hdst];exact h.step (objs':=X02 I objs' (WB (objs.map fun p=>Y p.1) s.objs)) hokd h3 (rv_out h5 hout hr) fun k r v hl hr=>Xa.agree (h4 r ⟨k,hl⟩) (hr.mono (fun _ h=>.inl h) h2)
   cases hc
  cases hc
 cases hc
inductive RunsS (P:Program) (ops:Array Oper):List Oper->HS->(HS->Prop)->Prop
 |done {l:List Oper} {s:HS} {K:HS->Prop}:wpR P ops l s K->RunsS P ops l s K
 |cut {l:List Oper} {s s1 s2:HS} {K:HS->Prop} (k:Nat):wpR P ops (l.take k) s (fun t=>t=s1)->le s1 s2->RunsS P ops (l.drop k) s2 K->RunsS P ops l s K
 | call {l:List Oper} {o:Oper} {s:HS} {K:HS->Prop} {f:FuncId} {d:Nat} {objs objs':List (Nat×Ob)} {args:List TV} (Y I:Nat->Nat) {r:RV}:gOfC s o=some (f,args.map (TV.ren Y []),d)->HandS Y I objs objs' s->ConS P f objs args r objs'->X40 (objs'.map (·.1)) r=true->
   RunsS P ops l (({s with objs:=X02 I objs' (WB (objs.map fun p=>Y p.1) s.objs)}:HS).put (some d) (r.ren I [])) K->RunsS P ops (o::l) s K
 |skip {l:List Oper} {o:Oper} {s:HS} {K:HS->Prop} (y:Value):ZM ops o s=some false->XP s o.dst=true->RunsS P ops l (s.put o.dst (.v (.one (.gd false (.c (.lit y)))))) K->RunsS P ops (o::l) s K
theorem skipS {ops:Array Oper} {Q:Exit->Act->World->Prop} {i:Nat} {o:Oper} {s:HS} {a:Act} {w:World} {F:Nat->Prop} {T:Nat->Value} {Kc:Act->World->Prop} (y:Value) (hi:ops[i]? =some o) (h:Rel w0 B U F T s a w) (hg:ZM ops o s=some false) (hok:XP s o.dst=true)
  (hK:∀a',Rel w0 B U F T (s.put o.dst (.v (.one (.gd false (.c (.lit y)))))) a' w->Kc a' w):wpOp P ops Q i Kc a w:=by
 unfold wpOp;rw[hi];simp only;rw[Zx h hg];simp only[NA,Nb];refine hK _ ?_;exact h.step (dst:=o.dst) (r:=.v (.one (.gd false (.c (.lit y))))) (v:=undef) (objs':=s.objs) hok h.heap ⟨(fun hb=>Bool.noConfusion hb),fun _=>rfl⟩ (fun _ _ _ _ h=>h)
theorem RunsS.cutE {ops:Array Oper} {l:List Oper} {s s1 s2:HS} {p:Prop} {K:HS->Prop} (k:Nat) (cs:List CR) (h:evc P ops (l.take k) s cs=some (s1,p)) (hp:p) (hle:le s1 s2) (hr:RunsS P ops (l.drop k) s2 K):RunsS P ops l s K:=
 .cut k (Qm _ _ _ _ _ h hp rfl) hle hr
theorem RunsS.doneE {ops:Array Oper} {l:List Oper} {s s1:HS} {p:Prop} {K:HS->Prop} (cs:List CR) (h:evc P ops l s cs=some (s1,p)) (hp:p) (hq:K s1):RunsS P ops l s K:=
 .done (Qm _ _ _ _ _ h hp hq)
end
section
variable {P:Program} {ops:Array Oper}
end
section
variable {P:Program} {ops:Array Oper}
end
end Go.Hl
namespace Go.Hl
open Go Go.RowKit
open Go.ChangeMaps (setBlock)
def ConF {X:Type} (P:Program) (f:FuncId) (fresh:Bool) (args:List TV) (J:X->Prop) (r:X->RV) (ob:X->Option Ob) (d:Nat):Prop:=
 XX P f=true/\∀(F:Nat->Prop) (w:World) (vs:Array Value),(∀b,F b->b<w.heap.size)->vs.size=args.length->
  (∀(j:Nat) t u,args[j]? =some t->vs[j]? =some u->XA F noγ w t u)->
  Calls P f vs w fun e w'=>∃(y:X) (v:Value) (N:Nat->Prop) (T':Nat->Value),J y/\e=.returned v/\Below w.heap.size w w'/\(∀b,N b->w.heap.size<=b/\b<w'.heap.size)/\
   Xa (Res fresh F N) T' w' (r y) v/\∀o,ob y=some o->XR (Res fresh F N) T' w' (fun b=>b<w.heap.size) (T' d) o/\∀b,Blk (T' d) b->¬N b
def X4X (P:Program) (s:HS) (g:Operand->RV) (o:Oper) (K:Nat->RV->Option Ob->Prop):Prop:=
 match o.op,o.dst with
 | .call {callee:=.value x,args:=args, .. },some d=>match W4 s.objs (g x),X1c s.objs g args.toList with
   | some (f,own,es),some ts=>∃(fresh:Bool) (X:Type) (J:X->Prop) (r:X->RV) (ob:X->Option Ob),ConF P f fresh (ts++es) J r ob d/\(fresh=true\/(own||args.toList.any fun x=>(g x).ownB)=false)/\
     (∀y,J y->((ob y).isSome=true->QN d s=true)/\(r y).onlyB (ob y).isSome d=true/\(∀o,ob y=some o->o.flat=true))/\XP s (some d)=true/\∀y,J y->K d (r y) (ob y)
   |_,_=>False
 |_,_=>False
section
variable {P:Program} {F:Nat->Prop} {T:Nat->Value} {w w' w0:World} {B:Nat->Prop} {U:Nat->Option Value}
theorem X7i {s:HS} {a:Act} {o:Oper} {g:Operand->RV} {K:Nat->RV->Option Ob->Prop} (h:Rel w0 B U F T s a w) (hg:∀x,Xa F T w (g x) (a.eval x)) (hc:X4X P s g o K) {Kc:Act->World->Prop} {Q:Exit->Act->World->Prop}
  (hK:∀d r ob F' T' v w',o.dst=some d->XP s (some d)=true->K d r ob->(∀b,F b->F' b)->(∀b,F' b->F b\/¬B b)->Rel w0 B U F' T' (s.made d ob) a w'->Xa F' T' w' r v->Kc (a.put o.dst v) w')
  :o.wp P a w Kc Q:=by
 unfold X4X at hc;split at hc
 .rename_i x args ts d ho hd;split at hc
  .rename_i f own es tvs hf hts;obtain⟨fresh,X,J,rF,obF,⟨hcall,hcon⟩,hown,hall,hok,hkF⟩:=hc;obtain⟨us,hv',hul,hes,hesd⟩:=X0P h.heap hf (hg x)
   have hrun:(execOp a.eval o).run P w=.ok (.enter f (args.map a.eval++us.toArray)) w:=by
    unfold XX at hcall;split at hcall
    .rename_i fn hfn;simp only[N4,Nm]at hcall;have hnm:¬fn.name= "runtime.NumGoroutine" :=by simpa using hcall.1
     have hnb:¬fn.body=none:=by
      intro hb;rw[hb]at hcall;cases hcall.2
     simp[execOp,ho,resolve,hv',Deferred.ofValue,invoke,callFunc,hfn,hnm,hnb]
    cases hcall
   unfold Oper.wp;rw[hrun,Oper.upon_enter];obtain⟨hl,hts'⟩:=X0q hts
   -- the set of blocks that the callee may look at
   have hcase:∃F2:Nat->Prop,(∀b,F2 b->b<w.heap.size)/\(fresh=false->∀b,F2 b->F b)/\
     ∀(j:Nat) t u,(tvs++es)[j]? =some t->(args.map a.eval++us.toArray)[j]? =some u->XA F2 noγ w t u:=by
    have hget:∀(j:Nat) x u,args.toList[j]? =some x->(args.map a.eval)[j]? =some u->u=a.eval x:=by
     intro j x u hx hu;have hx':args[j]? =some x:=by simpa using hx
     rw[Array.getElem?_map,hx']at hu;simpa using hu.symm
    have hsz:(args.map a.eval).size=tvs.length:=by rw[Array.size_map,hl,Array.length_toList]
    have both:∀G:Nat->Prop,(∀(j:Nat) t u,tvs[j]? =some t->(args.map a.eval)[j]? =some u->XA G noγ w t u)->(∀(j:Nat) t u,es[j]? =some t->us[j]? =some u->XA G noγ w t u)->
      ∀(j:Nat) t u,(tvs++es)[j]? =some t->(args.map a.eval++us.toArray)[j]? =some u->XA G noγ w t u:=by
     intro G h1 h2 j t u ht hu;by_cases hj:j<tvs.length
     .rw[Nk hj]at ht;rw[NL (by omega)]at hu;exact h1 j t u ht hu
     rw[Nh (NP hj)]at ht;rw[Array.getElem?_append_right (by omega),hsz]at hu;exact h2 _ t u ht (by simpa using hu)
    rcases hown with rfl|hown
    .refine⟨fun b=>F b\/X1k T s.objs b,?_,by simp,both _ ?_ hes⟩
     .rintro b (hb|⟨n,o',hl',hb⟩)
      .exact h.heap.fsz b hb
      exact((h.heap.ob n o' hl').blk_lt hb).2
     intro j t u ht hu;obtain⟨y,hy,hbr⟩:=hts' j t ht;rw[hget j y u hy hu];exact X3Z h.heap hbr (hg y)
    simp only[NC]at hown;refine⟨F,h.heap.fsz,fun _ _ h=>h,both _ ?_ (hesd hown.1)⟩;intro j t u ht hu;obtain⟨y,hy,hbr⟩:=hts' j t ht;rw[hget j y u hy hu];refine X2B h.heap ?_ hbr (hg y);have hown2:=hown.2;rw[Dm]at hown2;simpa using hown2 y (N3 hy)
   obtain⟨F2,hF2,hF2F,hargs⟩:=hcase;refine(hcon F2 w (args.map a.eval++us.toArray) hF2 (by simp[hl,hul]) hargs).mono ?_;rintro e w' ⟨y,v,N,T',hΦ,rfl,hb,hN,hr,hobj⟩;obtain⟨hunm,honly,hflat⟩:=hall y hΦ;have hk:=hkF y hΦ;generalize rF y=r at*;generalize obF y=ob at*
   have hres:∀b,Res fresh F2 N b->F b\/N b:=by
    rintro b (hb|⟨hfr,hb⟩)
    .exact .inr hb
    exact .inl (hF2F hfr b hb)
   have hheap:=h.heap.called hb hN;have hFk:∀b,F b->w'.heap[b]? =w.heap[b]? :=fun b hF=>hb.block b (h.heap.fsz b hF)
   have hNB:∀b,(F b\/N b)->F b\/¬B b:=by
    rintro b (hb|hb)
    .exact .inl hb
    exact .inr fun hx=>D8 _ (NB (h.heap.hB b hx) (hN b hb).1)
   cases ob with
   | none=>
     refine hK d r none (fun b=>F b\/N b) T v w' hd hok hk (fun _ h=>.inl h) hNB ?_ ((hr.mono hres fun _ _=>rfl).only honly (by simp));exact⟨hheap,h.defers,h.nt,fun k r hl=>(h.regs k r hl).mono (fun _ h=>.inl h) hFk⟩
   | some o'=>
     obtain⟨ho1,ho2⟩:=hobj o' rfl;have hun:=hunm rfl;have hnew:∀b,Blk (T' d) b->w.heap.size<=b:=fun b hb=>NP (ho1.blk_lt hb).1;have hfl:=hflat o' rfl;have hob':XR (fun b=>F b\/N b) (upd T d (T' d)) w' (fun b=>b<w.heap.size) (T' d) o':=(ho1.mono hres (fun _ _=>rfl) (fun _ _=>rfl)).only hfl
     have hobB:XR (fun b=>F b\/N b) (upd T d (T' d)) w' B (T' d) o':=by
      cases o' with
      |box cs=>obtain⟨b,e,vs,h1,h2,h3⟩:=hob';exact⟨b,e,vs,h1,fun hx=>h2 (h.heap.hB _ hx),h3⟩
      |row e' s' rows=>exact Xn.low (fun b hx=>h.heap.hB b hx) hob'
      |mp l=>obtain⟨b,es,clock,h1,h2,h3⟩:=hob';exact⟨b,es,clock,h1,fun hx=>h2 (h.heap.hB _ hx),h3⟩
      | mat e e' s' rows=>
        obtain⟨o,is,h1,h2,h3,⟨xs,h4,h5⟩,h6,h7⟩:=hob';refine⟨o,is,h1,h2,h3,⟨xs,h4.low (fun b hx=>h.heap.hB b hx),h5⟩,fun i v r hv hr=>?_,h7⟩;have:=h6 i v r hv hr;cases r with
        |none=>exact this
        |some rr=>exact Xn.low (fun b hx=>h.heap.hB b hx) this
      |refs e ns=>cases hfl
      |mps e ms=>cases hfl
      |it l seen=>cases hfl
     have hheap':HeapRel w0 B U (fun b=>F b\/N b) (upd T d (T' d)) (ins d o' s.objs) w':={
      below:=hheap.below
      hB:=hheap.hB
      fsz:=hheap.fsz
      ob:=fun n o ho=>by
       rw[XS]at ho;split at ho
       .rename_i e;cases ho;subst e;rw[Xu];exact hobB
       rename_i e;rw[Xm _ e];exact(hheap.ob n o ho).upd (WZ hun n o ho).2
      apart:=fun n o ho b hbk hF=>by
       rw[XS]at ho;split at ho
       .rename_i e;rw[e,Xu]at hbk;rcases hF with hF|hF
        .have:=hnew b hbk;have:=h.heap.fsz b hF;omega
        exact ho2 b hbk hF
       rename_i e;rw[Xm _ e]at hbk;exact hheap.apart n o ho b hbk hF
      sep:=fun n m on om hn hm hne b hbn hbm=>by
       rw[XS]at hn hm;split at hn
       .rename_i e;rw[e,Xu]at hbn;split at hm
        .rename_i e';exact hne (e.trans e'.symm)
        rename_i e';rw[Xm _ e']at hbm;have h1:=hnew b hbn;have h2:=(h.heap.ob m om hm).blk_lt hbm;omega
       rename_i e;rw[Xm _ e]at hbn;split at hm
       .rename_i e';rw[e',Xu]at hbm;have h1:=hnew b hbm;have h2:=(h.heap.ob n on hn).blk_lt hbn;omega
       rename_i e';rw[Xm _ e']at hbm;exact h.heap.sep n m on om hn hm hne b hbn hbm
      pin:=fun n v hv=>by
       obtain⟨h1,h2⟩:=h.heap.pin n v hv;have:=X0f hun
       exact⟨h1,by rw[Xm _ (by omega)];exact h2⟩}
     refine hK d r (some o') (fun b=>F b\/N b) (upd T d (T' d)) v w' hd hok hk (fun _ h=>.inl h) hNB ?_ ((hr.mono hres fun _ _=>rfl).only honly (fun _=>by rw[Xu]));exact⟨hheap',h.defers,h.nt,fun k r hl=>((h.regs k r hl).mono (fun _ h=>.inl h) hFk).upd (WY hun hl)⟩
  exact hc.elim
 exact hc.elim
theorem callF_wp {ops:Array Oper} {i:Nat} {o:Oper} {s:HS} {a:Act} {K:HS->Prop} {Kc:Act->World->Prop} {Q:Exit->Act->World->Prop} (hi:ops[i]? =some o) (h:Rel w0 B U F T s a w) (hgd:o.guard=none)
  (hc:X4X P s (opd s.regs) o fun d r ob=>K ((s.made d ob).put (some d) r))
  (hK:∀s' F' T' a' w',K s'->(∀b,F b->F' b)->(∀b,F' b->F b\/¬B b)->Rel w0 B U F' T' s' a' w'->Kc a' w'):wpOp P ops Q i Kc a w:=by
 unfold wpOp;rw[hi];simp only;have hwant:Region.wanted o (yielded ops a.tmps)=true:=by unfold Region.wanted;rw[hgd]
 rw[hwant];simp only[Nd];refine .inl ?_;refine X7i h h.opd hc fun d r ob F' T' v w' hd hok hk h1 h2 hr hv=>?_;refine hK _ F' T' _ _ hk h1 h2 ?_;rw[hd];have hok':XP (s.made d ob) (some d)=true:=by cases ob<;>exact hok
 exact hr.step (objs':=(s.made d ob).objs) hok' hr.heap hv fun _ _ _ _ h=>h
end
def ConN {X:Type} (P:Program) (f:FuncId) (pv:Option Value) (objs:List (Nat×Ob)) (args:List TV) (J:X->Prop) (r:X->RV) (objs':X->List (Nat×Ob)):Prop:=
 XX P f=true/\∀(F:Nat->Prop) (T:Nat->Value) (w:World) (vs:Array Value),HeapRel w (ownB T objs w) (fun _=>none) F T objs w->(∀v,pv=some v->T 1000000=v)->vs.size=args.length->
  (∀(j:Nat) t u,args[j]? =some t->vs[j]? =some u->XA F T w t u)->
  Calls P f vs w fun x w'=>∃(y:X) (v:Value) (N:Nat->Prop) (T':Nat->Value),J y/\x=.returned v/\Kept (ownB T objs w) w w'/\(∀c,N c->¬ownB T objs w c/\c<w'.heap.size)/\Xa (fun c=>F c\/N c) T' w' (r y) v/\
   HeapRel w (ownB T objs w) (fun _=>none) (fun c=>F c\/N c) T' (objs' y) w'/\∀n cs,lkp objs n=some (.box cs)->T' n=T n
section
variable {P:Program} {F:Nat->Prop} {T T':Nat->Value} {w w' w0:World} {B:Nat->Prop} {U:Nat->Option Value}
theorem X6Z {X:Type} {f:FuncId} {fn:Func} {c:Code} {pv:Option Value} {objs:List (Nat×Ob)} {args:List TV} {J:X->Prop} {r:X->RV} {objs':X->List (Nat×Ob)} (hf:P.funcs[f]? =some fn) (hb:fn.body=some c) (hcall:XX P f=true) (hnt:args.length<=fn.ntmps)
  (hpin:∀n cs,lkp objs n=some (.box cs)->1000000<=n) (hpv:∀v,pv=some v->∃cs,lkp objs 1000000=some (.box cs))
  (h:HT P c ⟨⟨fn.ntmps,pv⟩,WA 0 args,objs⟩ (fun e s'=>(e=.normal\/e=.ret)/\∃y,J y/\∃s2,le s' s2/\(∃ts,X4l P s2 fn.results.toList=some ts/\r y=Xp ts)/\∀n o,lkp (objs' y) n=some o->lkp s2.objs n=some o)):ConN P f pv objs args J r objs':=by
 refine⟨hcall,fun F T w vs hh hpg hsz hargs=>?_⟩
 let π0:Nat->Option Value:=fun n=>match lkp objs n with
  |some (.box _)=>some (T n)
  |_=>none
 have hh0:HeapRel w (ownB T objs w) π0 F T objs w:=⟨hh.below,hh.hB,hh.fsz,hh.ob,hh.apart,hh.sep,fun n v hv=>by
  simp only[π0]at hv;split at hv
  .rename_i cs hl;cases hv;exact⟨hpin n cs hl,rfl⟩
  cases hv⟩
 have hrel:Rel w (ownB T objs w) π0 F T ⟨⟨fn.ntmps,pv⟩,WA 0 args,objs⟩ {tmps:=vs++Array.replicate (fn.ntmps - vs.size) undef,defers:=[]} w:=by
  refine⟨hh0,rfl,⟨by simp;omega,fun v hv=>?_⟩,fun k r hl=>?_⟩
  .obtain⟨cs,hcs⟩:=hpv v hv;simp only[π0,hcs];rw[hpg v hv]
  obtain⟨h1,t,ht,rfl⟩:=Z5 args 0 k r hl;have hk:k<vs.size:=by rw[hsz];exact(N8.1 ht).1
  have hv:(vs++Array.replicate (fn.ntmps - vs.size) undef).getD k undef=vs[k]:=by
   rw[Ns,NL hk];simp[hk]
  rw[hv];exact hargs (k - 0) t vs[k] ht (by simp[hk])
 refine calls_of_wp hf hb (wp_mono (h w _ _ F T _ w hrel) ?_);rintro x a' w' ⟨s',F1,γ1,⟨he,y,hΦ,s2,hle,⟨ts,hts,hry⟩,hobjs⟩,h1,h2,hr'⟩;obtain⟨F2,γ2,h3,h4,hr2⟩:=hle w _ _ F1 γ1 a' w' hr';obtain⟨us,hus,hul,huc⟩:=Zp hr2 hts
 have hFF:∀c,F2 c->F c\/(F2 c/\¬ownB T objs w c):=by
  intro c hc;rcases h4 c hc with h5|h5
  .rcases h2 c h5 with h6|h6
   .exact .inl h6
   exact .inr ⟨hc,h6⟩
  exact .inr ⟨hc,h5⟩
 have hEq:(fun c=>F c\/(F2 c/\¬ownB T objs w c))=F2:=by
  funext c
  refine propext ⟨fun h=>?_,hFF c⟩;rcases h with h|h
  .exact h3 c (h1 c h)
  exact h.1
 have hres:∃v,(results fn a'.tmps).run P w'=.ok v w'/\Xa F2 γ2 w' (Xp ts) v:=by
  rw[X0c,Sem.run_bind,hus,Result.andThen_ok];refine⟨_,rfl,?_⟩
  match ts,us,hul,huc with
  |[],[],_,_=>exact⟨#[],rfl,rfl,by simp⟩
  |[t],[u],_,hc=>exact hc 0 t u rfl rfl
  |t1::t2::ts,u1::u2::us,hl,hc=>exact⟨(u1::u2::us).toArray,by simp,by simpa using hl,fun j t u ht hu=>hc j t u ht (by simpa using hu)⟩
 obtain⟨v,hv,hvr⟩:=hres
 have key:a'.defers=[]/\∃v,(results fn a'.tmps).run P w'=.ok v w'/\∃(y:X) (v2:Value) (N:Nat->Prop) (T':Nat->Value),J y/\Ending.returned v=.returned v2/\Kept (ownB T objs w) w w'/\
   (∀c,N c->¬ownB T objs w c/\c<w'.heap.size)/\Xa (fun c=>F c\/N c) T' w' (r y) v2/\
   HeapRel w (ownB T objs w) (fun _=>none) (fun c=>F c\/N c) T' (objs' y) w'/\∀n cs,lkp objs n=some (.box cs)->T' n=T n:=by
  refine⟨hr2.defers,v,hv,y,v,fun c=>F2 c/\¬ownB T objs w c,γ2,hΦ,rfl,hr2.heap.below,fun c hc=>⟨hc.2,hr2.heap.fsz c hc.1⟩,by rw[hry];exact hvr.mono hFF fun _ _=>rfl,?_,fun n cs hl=>?_⟩
  .rw[hEq];exact(hr2.heap.less hobjs).nopin
  exact(hr2.heap.pin n (T n) (by simp only[π0,hl])).2
 rcases he with rfl|rfl
 .exact key
 exact key
def X3n:RV->Option (FuncId×List TV)
 | .v (.one (.fn f caps))=>some (f,caps.map fun p=>.one (.at_ p.1 p.2))
 | .v (.one (.c (.fn f ds)))=>some (f,ds.map fun d=>.one (.c d))
 |_=>none
theorem WJ {x:RV} {f:FuncId} {es:List TV} {v:Value} (h:X3n x=some (f,es)) (hr:Xa F T w x v):
  ∃us:List Value,v=.func (.func f) #[] us.toArray/\us.length=es.length/\∀(j:Nat) t u,es[j]? =some t->us[j]? =some u->XA F T w t u:=by
 unfold X3n at h;split at h
 .cases h;obtain⟨vs,rfl,hl,hc⟩:=hr;refine⟨vs,rfl,by simp[hl],fun j t u ht hu=>?_⟩;rw[Nj]at ht;simp only[N7]at ht;obtain⟨p,hp,rfl⟩:=ht;exact hc j p u hp hu
 .rename_i f ds;cases h;have hr':CRel F w (.fn f ds) v:=hr;cases hr' with
  | fn _ _ vs hl hc=>
    refine⟨vs,rfl,by simp[hl],fun j t u ht hu=>?_⟩;rw[Nj]at ht;simp only[N7]at ht;obtain⟨d,hd,rfl⟩:=ht;exact hc j d u hd hu
 cases h
def catT (ts:List TV):List TV->List TV
 |[]=>ts
 |e::es=>ts++e::es
theorem catT_eq (ts es:List TV):catT ts es=ts++es:=by
 cases es<;>simp[catT]
def gOfN (s:HS) (o:Oper):Option (FuncId×List TV×Nat):=
 match o.guard,o.op,o.dst with
 | none,.call {callee:=.value x,args:=args, .. },some d=>match X3n (opd s.regs x),X0N (opd s.regs) args.toList with
   |some (f,es),some ts=>if XP s (some d)=true then some (f,catT ts es,d)else none
   |_,_=>none
 |_,_,_=>none
def pvOK (pv:Option Value) (s:HS) (Y:Nat->Nat):Prop:=pv=none\/(s.nt.pv=pv/\Y 1000000=1000000)
theorem X8h {X:Type} {s:HS} {a:Act} {ops:Array Oper} {i:Nat} {o:Oper} {f:FuncId} {d:Nat} {pv:Option Value} {objs:List (Nat×Ob)} {args:List TV} {Y I:Nat->Nat} {J:X->Prop} {r:X->RV} {objs':X->List (Nat×Ob)} {Kc:Act->World->Prop} {Q:Exit->Act->World->Prop} (hi:ops[i]? =some o) (h:Rel w0 B U F T s a w)
  (hc:gOfN s o=some (f,args.map (TV.ren Y []),d)) (hp:pvOK pv s Y) (hd0:HandS Y I objs [] s) (hd:∀y,J y->HandS Y I objs (objs' y) s) (hcon:ConN P f pv objs args J r objs') (hout:∀y,J y->X40 ((objs' y).map (·.1)) (r y)=true)
  (hK:∀y,J y->∀F' γ2 a' w',(∀b,F b->F' b)->(∀b,F' b->F b\/¬B b)->Rel w0 B U F' γ2 (({s with objs:=X02 I (objs' y) (WB (objs.map fun p=>Y p.1) s.objs)}:HS).put (some d) ((r y).ren I [])) a' w'->Kc a' w'):wpOp P ops Q i Kc a w:=by
 have hpg:∀v,pv=some v->T (Y 1000000)=v:=by
  intro v hv;rcases hp with h1|⟨h1,h2⟩
  .rw[h1]at hv;cases hv
  rw[h2];exact(h.heap.pin 1000000 v (h.nt.2 v (h1.trans hv))).2
 unfold gOfN at hc;split at hc
 .rename_i x as0 ts0 d0 hgd ho hdst;split at hc
  .rename_i f0 es0 ts hf hts;split at hc
   .rename_i hokd;simp only[Option.some.injEq,Prod.mk.injEq]at hc;obtain⟨rfl,hca,rfl⟩:=hc;obtain⟨hcall,hcon⟩:=hcon;obtain⟨cvs,hv,hcl,hcc⟩:=WJ hf (h.opd x);have hv':a.eval x=.func (.func f0) #[] cvs.toArray:=hv
    have hrun:(execOp a.eval o).run P w=.ok (.enter f0 (as0.map a.eval++cvs.toArray)) w:=by
     unfold XX at hcall;split at hcall
     .rename_i fn hfn;simp only[N4,Nm]at hcall;have hnm:¬fn.name= "runtime.NumGoroutine" :=by simpa using hcall.1
      have hnb:¬fn.body=none:=by
       intro hb;rw[hb]at hcall;cases hcall.2
      simp[execOp,ho,resolve,hv',Deferred.ofValue,invoke,callFunc,hfn,hnm,hnb]
     cases hcall
    unfold wpOp;rw[hi];simp only;have hwant:Region.wanted o (yielded ops a.tmps)=true:=by unfold Region.wanted;rw[hgd]
    rw[hwant];simp only[Nd];refine .inl ?_;unfold Oper.wp;rw[hrun,Oper.upon_enter];obtain⟨hlen,hget⟩:=X0s hts;rw[catT_eq]at hca;have hsz:(as0.map a.eval).size=ts.length:=by rw[Array.size_map,hlen,Array.length_toList]
    refine(hcon F (fun n=>T (Y n)) w (as0.map a.eval++cvs.toArray) (hd0.heap h.heap) hpg ?_ fun j t u ht hu=>?_).mono ?_
    .have:=congrArg List.length hca;simp only[Nz,NY]at this;simp only[Array.size_append,hsz,List.size_toArray];omega
    .have key:XA F T w (t.ren Y []) u:=by
      have hm:(ts++es0)[j]? =some (t.ren Y []):=by rw[hca];simp[ht]
      by_cases hj:j<ts.length
      .rw[Nk hj]at hm;rw[NL (by omega)]at hu;obtain⟨y,hy,hgy⟩:=hget j _ hm
       have hu':u=a.eval y:=by
        rw[Array.getElem?_map,<-Array.getElem?_toList,hy]at hu;exact(Option.some.inj hu).symm
       rw[hu'];have:=h.opd y;rw[hgy]at this;exact this
      rw[Nh (NP hj)]at hm;rw[Array.getElem?_append_right (by omega),hsz]at hu;exact hcc _ _ u hm (by simpa using hu)
     refine XA.ren (Y:=Y) (nils:=[]) (fun n _=>rfl) (fun n hn=>by cases hn) ?_ key;cases t with
     |one x=>exact X03 x
     |agg xs=>simp only[TV.okNil,Nl];exact fun x _=>X03 x
    rintro x w' ⟨y,v,N,T',hΦ,rfl,hk,hN,hr,hh,hbx⟩;obtain⟨h1,h2,γ2,h3,h5,h4⟩:=(hd y hΦ).after h.heap hk hN hh hbx;refine hK y hΦ (fun c=>F c\/N c) γ2 _ _ (fun _ h=>.inl h) (fun c hc=>hc.imp id fun hc=>h1 c hc) ?_;rw[hdst];exact h.step (objs':=X02 I (objs' y) (WB (objs.map fun p=>Y p.1) s.objs)) hokd h3 (rv_out h5 (hout y hΦ) hr) fun k r v hl hr=>Xa.agree (h4 r ⟨k,hl⟩) (hr.mono (fun _ h=>.inl h) h2)
   cases hc
  cases hc
 cases hc
abbrev tupN (k:Value) (v:CD):RV:=.tup [.one (.c (.lit (.bool true))),.one (.c (.lit k)),.one (.c v)]
theorem X7M {s:HS} {a:Act} {ops:Array Oper} {i:Nat} {o:Oper} {x:Operand} {d n:Nat} {l:List (Value×CD)} {seen:List Nat} {Kc:Act->World->Prop} {Q:Exit->Act->World->Prop} (hi:ops[i]? =some o) (h:Rel w0 B U F T s a w)
  (hgd:o.guard=none) (ho:o.op=.next x false) (hdst:o.dst=some d) (hx:opd s.regs x=.v (.one (.at_ n 0))) (hl:lkp s.objs n=some (.it l seen)) (hok:XP s (some d)=true)
  (hmore:∀(j:Nat) k v,l[j]? =some (k,v)->j∉seen->∀a' w',Rel w0 B U F T (({s with objs:=ins n (.it l (seen++[j])) s.objs}:HS).put (some d) (tupN k v)) a' w'->Kc a' w')
  (hdone:(∀j:Nat,j<l.length->j∈seen)->∀a' w',Rel w0 B U F T (s.put (some d) (.tup [.one (.c (.lit (.bool false)))])) a' w'->Kc a' w'):wpOp P ops Q i Kc a w:=by
 have hxv:=h.opd x;rw[hx]at hxv;obtain⟨b,hγ,hv⟩:=hxv;obtain⟨b',hγ',hB,hit⟩:=h.heap.ob n _ hl;rw[hγ]at hγ';cases hγ';have hBn:Blk (T n) b:=by rw[hγ];rfl
 unfold wpOp;rw[hi];simp only;have hwant:Region.wanted o (yielded ops a.tmps)=true:=by unfold Region.wanted;rw[hgd]
 rw[hwant];simp only[Nd];refine .inl ?_;unfold Oper.wp
 have hfalse:Xa F T w (.tup [.one (.c (.lit (.bool false)))]) (.tuple #[.bool false]):=
  ⟨#[.bool false],rfl,rfl,fun j t u ht hu=>by
   match j with
   |0=>cases ht;cases hu;exact CRel.lit _
   |j+1=>simp at ht⟩
 have hput:∀v w',(Instr.next (.pointer (some ⟨b,0,none⟩)) false o.type).run P w=.ok v w'->Kc (a.put (some d) v) w'->o.upon P a Kc Q ((execOp a.eval o).run P w):=by
  intro v w' hrun hk;have hv':a.eval x=.pointer (some ⟨b,0,none⟩):=hv;simp[execOp,ho,hv',hrun,Result.andThen];rw[Oper.upon_value,hdst];exact hk
 have hrelF:∀{w2:World},w2=w->Rel w0 B U F T (s.put (some d) (.tup [.one (.c (.lit (.bool false)))])) (a.put (some d) (.tuple #[.bool false])) w2:=by
  rintro _ rfl;exact h.step (dst:=some d) (objs':=s.objs) hok h.heap hfalse fun _ _ _ _ h=>h
 rcases hit with⟨rfl,hhp⟩|⟨m,es,clock,sn,hhp,hFm,hhm,hk,⟨hp1,hp2⟩,QO,hsn⟩
 .refine hput (.tuple #[.bool false]) w ?_ (hdone (fun j hj=>absurd hj (Dd j)) _ _ (hrelF rfl));simp only[Instr.next,getObj,Sem.run_bind,Sem.run,hhp,Result.andThen];rfl
 have hne:b≠m:=fun e=>h.heap.apart n _ hl b hBn (e▸hFm);have hlen:es.size=l.length:=by have:=congrArg List.length hk;simpa using this
 have hinj:∀(i j:Nat) (x y:MapEntry),es[i]? =some x->es[j]? =some y->x.born=y.born->i=j:=by
  intro i j x y hx hy hxy;rw[List.pairwise_iff_getElem]at hp1;obtain⟨hi,rfl⟩:=NE.1 hx;obtain⟨hj,rfl⟩:=NE.1 hy;rcases Nat.lt_trichotomy i j with h|h|h
  .have:=hp1 i j (by simpa using hi) (by simpa using hj) h;simp only[Array.getElem_toList]at this;omega
  .exact h
  have:=hp1 j i (by simpa using hj) (by simpa using hi) h;simp only[Array.getElem_toList]at this;omega
 have hseen:∀(j:Nat) (e:MapEntry),es[j]? =some e->(sn.contains e.born=true↔j∈seen):=by
  intro j e he;have h1:sn.contains e.born=true↔e.born∈sn.toList:=by simp
  rw[h1,hsn,List.mem_filterMap];constructor
  .rintro⟨j',hj',he'⟩;cases hx:es[j']? with
   |none=>rw[hx]at he';cases he'
   | some e2=>
     rw[hx]at he';have:=hinj j' j e2 e hx he (by simpa using he');exact this▸hj'
  intro hj;exact⟨j,hj,by rw[he];rfl⟩
 rcases run_next_at (P:=P) w o.type b m clock clock sn es clock hhp hhm hp2 (NG _)with⟨h0,hrun⟩|⟨e,he,w1,hal,hrun⟩
 .refine hput _ w hrun (hdone (fun j hj=>?_) _ _ (hrelF rfl));obtain⟨e,he⟩:∃e,es[j]? =some e:=⟨es[j]'(by omega),NV (by omega)⟩;refine(hseen j e he).1 ?_;refine Classical.byContradiction fun hc=>?_;have:e∈leftOf es sn:=Array.mem_filter.2 ⟨Array.mem_of_getElem? he,by simpa using hc⟩;have h2:=Array.size_pos_of_mem this;omega
 obtain⟨hem,hes⟩:=mem_left he;obtain⟨j,hj⟩:=Array.mem_iff_getElem?.1 (Array.mem_toList_iff.1 hem);have hjs:j<l.length:=by rw[<-hlen];exact(NE.1 hj).1
 obtain⟨⟨k,v⟩,hkv⟩:∃p,l[j]? =some p:=⟨l[j],Ny hjs⟩
 have hkk:e.key=k:=by
  have:=congrArg (·[j]?) hk;simp only[Nj,D7,hj,hkv,Option.map_some,Option.some.injEq]at this;exact this
 have hns:j∉seen:=fun hm=>by have:=(hseen j e hj).2 hm;rw[hes]at this;cases this
 have hr1:w1.heap[b]? =some (.mapIter (some m) clock sn clock):=by rcases hal with rfl|rfl<;>exact hhp
 have hset:=MapKept.heap_set (o':=.mapIter (some m) clock (sn.push e.born) clock) hr1;have hw1:∀c:Nat,w1.heap[c]? =w.heap[c]? :=by rcases hal with rfl|rfl<;>exact fun _=>rfl
 have hkeep:∀c:Nat,c≠b->(setBlock w1 b (.mapIter (some m) clock (sn.push e.born) clock)).heap[c]? =w.heap[c]? :=fun c hc=>(hset.2 c hc).trans (hw1 c);have hFk:∀c:Nat,F c->(setBlock w1 b (.mapIter (some m) clock (sn.push e.born) clock)).heap[c]? =w.heap[c]? :=fun c hc=>hkeep c fun e'=>h.heap.apart n _ hl b hBn (e'▸hc);have hsz:w.heap.size<=(setBlock w1 b (.mapIter (some m) clock (sn.push e.born) clock)).heap.size:=by rcases hal with rfl|rfl<;>simp[setBlock]
 have hkp:Kept B w0 (setBlock w1 b (.mapIter (some m) clock (sn.push e.born) clock)):=by
  refine⟨?_,?_,?_,Dq h.heap.below.size hsz,fun c hc=>(hkeep c fun e'=>hB (e'▸hc)).trans (h.heap.below.block c hc)⟩
  .rcases hal with rfl|rfl<;>exact h.heap.below.os
  .rcases hal with rfl|rfl<;>exact h.heap.below.tape
  rcases hal with rfl|rfl<;>exact h.heap.below.output
 refine hput _ _ hrun (hmore j k v hkv hns _ _ ?_);refine h.step (dst:=some d) hok (F':=F) (T':=T) (h.heap.wrote hl (b:=b) hBn hkp hsz (fun c _ hne=>hkeep c hne) ?_) ?_ fun k r v hl hr=>hr.mono (fun _ h=>h) hFk
 .rw[hγ];refine⟨b,rfl,hB,.inr ⟨m,es,clock,sn.push e.born,hset.1,hFm,(hFk m hFm).trans hhm,hk,⟨hp1,hp2⟩,fun j k d e h1 h2=>(QO j k d e h1 h2).mono (fun _ h=>h) hFk,?_⟩⟩;rw[Array.toList_push,hsn,List.filterMap_append];simp[hj]
 refine⟨#[.bool true,e.key,e.val],rfl,rfl,fun q t u ht hu=>?_⟩
 match q with
 |0=>cases ht;cases hu;exact CRel.lit _
 |1=>cases ht;cases hu;rw[hkk];exact CRel.lit _
 |2=>cases ht;cases hu;exact(QO j k v e hkv hj).mono (fun _ h=>h) hFk
 |q+3=>simp at ht
def Qh (P:Program) (ops:Array Oper) (k m:Nat) (s:HS) (M:HS->Prop):Prop:=
 ∀(w0:World) (B:Nat->Prop) (U:Nat->Option Value) (F:Nat->Prop) (T:Nat->Value) (a:Act) (w:World) (Q:Exit->Act->World->Prop) (Xs:List Nat),Rel w0 B U F T s a w->
  (∀s' F' T' a' w',M s'->(∀b,F b->F' b)->(∀b,F' b->F b\/¬B b)->Rel w0 B U F' T' s' a' w'->wpOps P ops Q Xs a' w')->wpOps P ops Q (List.range' k m++Xs) a w
inductive RunsN (P:Program) (ops:Array Oper):List Oper->HS->(HS->Prop)->Prop
 |many {l:List Oper} {s:HS} {K:HS->Prop} {M:HS->Prop} (m:Nat):(∀k,(∀(j:Nat) o,(l.take m)[j]? =some o->ops[k+j]? =some o)->Qh P ops k (l.take m).length s M)->(∀s',M s'->RunsN P ops (l.drop m) s' K)->RunsN P ops l s K
 |done {l:List Oper} {s:HS} {K:HS->Prop}:wpR P ops l s K->RunsN P ops l s K
 |cut {l:List Oper} {s s1 s2:HS} {K:HS->Prop} (k:Nat):wpR P ops (l.take k) s (fun t=>t=s1)->le s1 s2->RunsN P ops (l.drop k) s2 K->RunsN P ops l s K
 | call {l:List Oper} {o:Oper} {s:HS} {K:HS->Prop} {X:Type} {f:FuncId} {d:Nat} {pv:Option Value} {objs:List (Nat×Ob)} {args:List TV} (Y I:Nat->Nat) {J:X->Prop} {r:X->RV} {objs':X->List (Nat×Ob)}:gOfN s o=some (f,args.map (TV.ren Y []),d)->pvOK pv s Y->HandS Y I objs [] s->
   (∀y,J y->HandS Y I objs (objs' y) s)->ConN P f pv objs args J r objs'->(∀y,J y->X40 ((objs' y).map (·.1)) (r y)=true)->
   (∀y,J y->RunsN P ops l (({s with objs:=X02 I (objs' y) (WB (objs.map fun p=>Y p.1) s.objs)}:HS).put (some d) ((r y).ren I [])) K)->RunsN P ops (o::l) s K
 |X4X {l:List Oper} {o:Oper} {s:HS} {K:HS->Prop} {M:HS->Prop}:o.guard=none->X4X P s (opd s.regs) o (fun d r ob=>M ((s.made d ob).put (some d) r))->(∀s',M s'->RunsN P ops l s' K)->RunsN P ops (o::l) s K
 |skip {l:List Oper} {o:Oper} {s:HS} {K:HS->Prop} (y:Value):ZM ops o s=some false->XP s o.dst=true->RunsN P ops l (s.put o.dst (.v (.one (.gd false (.c (.lit y)))))) K->RunsN P ops (o::l) s K
 | next {l:List Oper} {o:Oper} {s:HS} {K:HS->Prop} {x:Operand} {d n:Nat} {li:List (Value×CD)} {seen:List Nat}:o.guard=none->o.op=.next x false->o.dst=some d->opd s.regs x=.v (.one (.at_ n 0))->lkp s.objs n=some (.it li seen)->XP s (some d)=true->
   (∀(j:Nat) k v,li[j]? =some (k,v)->j∉seen->RunsN P ops l (({s with objs:=ins n (.it li (seen++[j])) s.objs}:HS).put (some d) (tupN k v)) K)->
   ((∀j:Nat,j<li.length->j∈seen)->RunsN P ops l (s.put (some d) (.tup [.one (.c (.lit (.bool false)))])) K)->RunsN P ops (o::l) s K
theorem X92 {ops:Array Oper} {K:HS->Prop} {Q:Exit->Act->World->Prop} {l:List Oper} {s:HS} (h:RunsN P ops l s K):∀(Xs:List Nat) (k:Nat) (F:Nat->Prop) (T:Nat->Value) (a:Act) (w:World),(∀j o,l[j]? =some o->ops[k+j]? =some o)->
  Rel w0 B U F T s a w->(∀s' F' T' a' w',K s'->(∀b,F b->F' b)->(∀b,F' b->F b\/¬B b)->Rel w0 B U F' T' s' a' w'->wpOps P ops Q Xs a' w')->wpOps P ops Q (List.range' k l.length++Xs) a w:=by
 induction h with
 |done hw=>exact fun Xs k F T a w hd hr hK=>QY _ k _ F T a w hd hr hw hK
 | many m hm _ ih=>
   intro Xs k F T a w hd hr hK;rename_i l s K' M _;have hl:l.length=(l.take m).length+(l.drop m).length:=by rw[<-List.length_append,List.take_append_drop]
   rw[hl,X2S,Dc];refine hm k (fun j o hj=>?_) w0 B U F T a w Q _ hr fun s' F2 γ2 a2 w2 hM h3 h4 hr2=>?_
   .rw[Nw]at hj;split at hj
    .exact hd j o hj
    cases hj
   refine ih s' hM Xs (k+(l.take m).length) F2 γ2 a2 w2 (fun j o hj=>?_) hr2 fun s3 F3 γ3 a3 w3 hk3 h5 h6 hr3=>?_
   .rw[Nn]at hj;have hlt:m+j<l.length:=(N8.1 hj).1;have:=hd (m+j) o hj;rw[Nt,Nat.min_eq_left (by omega),D9];exact this
   exact hK s3 F3 γ3 a3 w3 hk3 (fun b hb=>h5 b (h3 b hb)) (fun b hb=>(h6 b hb).elim (h4 b) .inr) hr3
 | cut n hw hle _ ih=>
   intro Xs k F T a w hd hr hK;rename_i l s s1 s2 K' _;have hl:l.length=(l.take n).length+(l.drop n).length:=by rw[<-List.length_append,List.take_append_drop]
   rw[hl,X2S,Dc];refine QY (l.take n) k s F T a w (fun j o hj=>?_) hr hw fun s' F1 γ1 a1 w1 hs' h1 h2 hr1=>?_
   .rw[Nw]at hj;split at hj
    .exact hd j o hj
    cases hj
   subst hs';obtain⟨F2,γ2,h3,h4,hr2⟩:=hle w0 B U F1 γ1 a1 w1 hr1;refine ih Xs (k+(l.take n).length) F2 γ2 a1 w1 (fun j o hj=>?_) hr2 fun s3 F3 γ3 a3 w3 hk3 h5 h6 hr3=>?_
   .rw[Nn]at hj;have hlt:n+j<l.length:=(N8.1 hj).1;have:=hd (n+j) o hj;rw[Nt,Nat.min_eq_left (by omega),D9];exact this
   exact hK s3 F3 γ3 a3 w3 hk3 (fun b hb=>h5 b (h3 b (h1 b hb))) (fun b hb=>(h6 b hb).elim (fun hb=>(h4 b hb).elim (h2 b) .inr) .inr) hr3
 | call Y I hg hp hd0 hd hcon honly _ ih=>
   intro Xs k F T a w hdd hr hK;rw[List.length_cons,List.range'_succ,List.cons_append,wpOps_cons];have hi:=hdd 0 _ rfl;refine X8h hi hr hg hp hd0 hd hcon honly fun y hy F2 γ2 a2 w2 h3 h4 hr2=>?_;refine ih y hy Xs (k+1) F2 γ2 a2 w2 (fun j o' hj=>by have:=hdd (j+1) o' hj;rwa [show k+1+j=k+(j+1) by omega]) hr2 fun s3 F3 γ3 a3 w3 hk3 h5 h6 hr3=>?_;exact hK s3 F3 γ3 a3 w3 hk3 (fun b hb=>h5 b (h3 b hb)) (fun b hb=>(h6 b hb).elim (h4 b) .inr) hr3
 | X4X hgd hc _ ih=>
   intro Xs k F T a w hdd hr hK;rw[List.length_cons,List.range'_succ,List.cons_append,wpOps_cons];have hi:=hdd 0 _ rfl;refine callF_wp hi hr hgd hc fun s' F2 γ2 a2 w2 hm h3 h4 hr2=>?_;refine ih s' hm Xs (k+1) F2 γ2 a2 w2 (fun j o' hj=>by have:=hdd (j+1) o' hj;rwa [show k+1+j=k+(j+1) by omega]) hr2 fun s3 F3 γ3 a3 w3 hk3 h5 h6 hr3=>?_;exact hK s3 F3 γ3 a3 w3 hk3 (fun b hb=>h5 b (h3 b hb)) (fun b hb=>(h6 b hb).elim (h4 b) .inr) hr3
 | skip y hg hok _ ih=>
   intro Xs k F T a w hdd hr hK;rw[List.length_cons,List.range'_succ,List.cons_append,wpOps_cons];have hi:=hdd 0 _ rfl;refine skipS y hi hr hg hok fun a2 hr2=>?_;exact ih Xs (k+1) F T a2 w (fun j o' hj=>by have:=hdd (j+1) o' hj;rwa [show k+1+j=k+(j+1) by omega]) hr2 hK
 | next hgd ho hdst hx hl hok _ _ ih1 ih2=>
   intro Xs k F T a w hdd hr hK;rw[List.length_cons,List.range'_succ,List.cons_append,wpOps_cons];have hi:=hdd 0 _ rfl;refine X7M hi hr hgd ho hdst hx hl hok (fun j key v hj hn a' w' hr2=>?_) fun hall a' w' hr2=>?_
   .exact ih1 j key v hj hn Xs (k+1) F T a' w' (fun j o' hj=>by have:=hdd (j+1) o' hj;rwa [show k+1+j=k+(j+1) by omega]) hr2 hK
   exact ih2 hall Xs (k+1) F T a' w' (fun j o' hj=>by have:=hdd (j+1) o' hj;rwa [show k+1+j=k+(j+1) by omega]) hr2 hK
theorem HT_runsN {id:Nat} {ops:Array Oper} {s:HS} {Q:Exit->HS->Prop} (h:RunsN P ops ops.toList s (Q .normal)):HT P (.region id ops false) s Q:=by
 intro w0 B U F T a w hr;refine wp_region ?_
 have:=X92 (w0:=w0) (B:=B) (U:=U) (Q:=fun e a' w'=>∃(s':HS) (F':Nat->Prop) (T':Nat->Value),Q e s'/\(∀b,F b->F' b)/\(∀b,F' b->F b\/¬B b)/\Rel w0 B U F' T' s' a' w') h [] 0 F T a w (by simp) hr
  fun s' F' T' a' w' hk h1 h2 h3=>⟨s',F',T',hk,h1,h2,h3⟩
 rw[List.range_eq_range'];simpa using this
theorem RunsN.cutE {ops:Array Oper} {l:List Oper} {s s1 s2:HS} {p:Prop} {K:HS->Prop} (k:Nat) (cs:List CR) (h:evc P ops (l.take k) s cs=some (s1,p)) (hp:p) (hle:le s1 s2) (hr:RunsN P ops (l.drop k) s2 K):RunsN P ops l s K:=
 .cut k (Qm _ _ _ _ _ h hp rfl) hle hr
theorem RunsN.doneE {ops:Array Oper} {l:List Oper} {s s1:HS} {p:Prop} {K:HS->Prop} (cs:List CR) (h:evc P ops l s cs=some (s1,p)) (hp:p) (hq:K s1):RunsN P ops l s K:=
 .done (Qm _ _ _ _ _ h hp hq)
end
end Go.Hl
namespace Go.Hl
open Go Go.RowKit
def Qa (P:Program) (ops:Array Oper) (i:Nat) (s:HS) (M:HS->Prop):Prop:=
 ∀(w0:World) (B:Nat->Prop) (U:Nat->Option Value) (F:Nat->Prop) (T:Nat->Value) (a:Act) (w:World) (Kc:Act->World->Prop) (Q:Exit->Act->World->Prop),Rel w0 B U F T s a w->
  (∀s' F' T' a' w',M s'->(∀b,F b->F' b)->(∀b,F' b->F b\/¬B b)->Rel w0 B U F' T' s' a' w'->Kc a' w')->wpOp P ops Q i Kc a w
section
variable {P:Program} {ops:Array Oper}
theorem Qa.ev {i:Nat} {o:Oper} {s s1:HS} {M:HS->Prop} {p:Prop} (cs:List CR) (ho:ops[i]? =some o) (h:evc P ops [o] s cs=some (s1,p)) (hp:p) (hm:M s1):Qa P ops i s M:=by
 intro w0 B U F T a w Kc Q hr hK;refine X1A ho hr (Qm (K:=M) [o] s s1 cs p h hp hm) fun s' F' T' a' w' hw h1 h2 hr2=>?_;exact hK s' F' T' a' w' hw h1 h2 hr2
theorem Qa.mono {i:Nat} {s:HS} {M M':HS->Prop} (h:Qa P ops i s M) (hm:∀u,M u->M' u):Qa P ops i s M':=
 fun w0 B U F T a w Kc Q hr hK=>h w0 B U F T a w Kc Q hr fun s' F' T' a' w' hw=>hK s' F' T' a' w' (hm s' hw)
theorem Qa.le {i:Nat} {s:HS} {M M':HS->Prop} (h:Qa P ops i s M) (hm:∀u,M u->∃t,le u t/\M' t):Qa P ops i s M':=by
 intro w0 B U F T a w Kc Q hr hK;refine h w0 B U F T a w Kc Q hr fun s' F' T' a' w' hw h1 h2 hr2=>?_;obtain⟨t,hle,ht⟩:=hm s' hw;obtain⟨F2,γ2,h3,h4,hr3⟩:=hle w0 B U F' T' a' w' hr2;exact hK t F2 γ2 a' w' ht (fun b hb=>h3 b (h1 b hb)) (fun b hb=>(h4 b hb).elim (h2 b) .inr) hr3
theorem Qa.pre {i:Nat} {s t:HS} {M:HS->Prop} (hle:Hl.le s t) (h:Qa P ops i t M):Qa P ops i s M:=by
 intro w0 B U F T a w Kc Q hr hK;obtain⟨F2,γ2,h3,h4,hr3⟩:=hle w0 B U F T a w hr;exact h w0 B U F2 γ2 a w Kc Q hr3 fun s' F' T' a' w' hw h1 h2 hr2=>hK s' F' T' a' w' hw (fun b hb=>h1 b (h3 b hb)) (fun b hb=>(h2 b hb).elim (h4 b) .inr) hr2
theorem Qa.call {i:Nat} {o:Oper} {s:HS} {M:HS->Prop} {X:Type} {f:FuncId} {d:Nat} {pv:Option Value} {objs:List (Nat×Ob)} {args:List TV} (Y I:Nat->Nat) {J:X->Prop} {r:X->RV} {objs':X->List (Nat×Ob)} (ho:ops[i]? =some o)
  (hg:gOfN s o=some (f,args.map (TV.ren Y []),d)) (hp:pvOK pv s Y) (hd0:HandS Y I objs [] s) (hd:∀y,J y->HandS Y I objs (objs' y) s) (hcon:ConN P f pv objs args J r objs') (hout:∀y,J y->X40 ((objs' y).map (·.1)) (r y)=true)
  (hm:∀y,J y->M (({s with objs:=X02 I (objs' y) (WB (objs.map fun p=>Y p.1) s.objs)}:HS).put (some d) ((r y).ren I []))):Qa P ops i s M:=by
 intro w0 B U F T a w Kc Q hr hK;exact X8h ho hr hg hp hd0 hd hcon hout fun y hy F' T' a' w' h1 h2 hr2=>hK _ F' T' a' w' (hm y hy) h1 h2 hr2
def fwdB (ops:Array Oper):Bool:=
 (List.range ops.size).all fun i=>match ops[i]? with
  |some o=>o.after.toList.all fun e=> !Region.binds .any e||decide (e.on<i)
  |none=>false
def X0T (R:List Nat) (i:Nat):List Nat:=R.filter fun j=>decide (j≠i)
theorem Qa.evE {i:Nat} {o:Oper} {s t:HS} (ho:ops[i]? =some o) (h:evc P ops [o] s []=some (t,True)):Qa P ops i s (fun u=>u=t):=.ev [] ho h trivial rfl
theorem Qa.evL {i:Nat} {o:Oper} {s t u:HS} (ho:ops[i]? =some o) (h:evc P ops [o] s []=some (t,True)) (hl:Hl.le t u):Qa P ops i s (fun v=>v=u):=.le (.evE ho h) fun v hv=>⟨u,by rw[hv];exact hl,rfl⟩
theorem Qa.evN {i:Nat} {o:Oper} {R:List Nat} {nx:List Nat->HS} (nx':List Nat->HS) (ho:ops[i]? =some o) (h:evc P ops [o] (nx R) []=some (nx' (X0T R i),True)) (hl:Hl.le (nx' (X0T R i)) (nx (X0T R i))):
  Qa P ops i (nx R) (fun u=>u=nx (X0T R i)):=.evL ho h hl
def trS (b:HS) (outs:List (Nat×Nat×RV)) (R:List Nat):HS:={b with regs:=outs.foldl (fun u m=>if R.contains m.1 then u else ins m.2.1 m.2.2 u) b.regs}
end
def bitsL (n m:Nat):List Nat:=(List.range n).filter fun i=>decide (m/2 ^ i%2=1)
@[simp] theorem bits_mem (n m i:Nat):(i∈bitsL n m)=(i<n/\m/2 ^ i%2=1):=by simp[bitsL]
@[simp] theorem X9k (R:List Nat) (i j:Nat):(j∈X0T R i)=(j∈R/\j≠i):=by simp[X0T]
def allM {T:Type} (p:T->Prop):List T->Prop
 |[]=>True
 |[x]=>p x
 |x::l=>p x/\allM p l
section
variable {P:Program} {ops:Array Oper}
theorem RunsN.callA {l:List Oper} {o:Oper} {s:HS} {K:HS->Prop} {X:Type} {f:FuncId} {d:Nat} {pv:Option Value} {objs:List (Nat×Ob)} {args:List TV} (Y I:Nat->Nat) {J:X->Prop} {r:X->RV} {objs':X->List (Nat×Ob)} (hcon:ConN P f pv objs args J r objs')
  (hn:∀y,J y->RunsN P ops l (({s with objs:=X02 I (objs' y) (WB (objs.map fun p=>Y p.1) s.objs)}:HS).put (some d) ((r y).ren I [])) K)
  (hg:gOfN s o=some (f,args.map (TV.ren Y []),d):=by(simp[gOfN,X3n,X0N,catT,TV.ren,CV.ren];rfl))
  (hp:pvOK pv s Y:=by(first|exact .inl rfl|exact .inr ⟨rfl,rfl⟩))
  (hd0:HandS Y I objs [] s:=by(refine Z8 ?_ ?_ ?_ ?_ ?_<;>simp[rbB,X0A,Wj,CV.ren,Ob.ren,lkp,X02]))
  (hd:∀y,J y->HandS Y I objs (objs' y) s:=by(intro _ _;refine Z8 ?_ ?_ ?_ ?_ ?_<;>simp[rbB,X0A,Wj,CV.ren,Ob.ren,lkp,X02]))
  (hout:∀y,J y->X40 ((objs' y).map (·.1)) (r y)=true:=by(intro _ _;rfl)):RunsN P ops (o::l) s K:=.call Y I hg hp hd0 hd hcon hout hn
theorem Qa.callA {i:Nat} {o:Oper} {s:HS} {M:HS->Prop} {X:Type} {f:FuncId} {d:Nat} {pv:Option Value} {objs:List (Nat×Ob)} {args:List TV} (Y I:Nat->Nat) {J:X->Prop} {r:X->RV} {objs':X->List (Nat×Ob)} (hcon:ConN P f pv objs args J r objs') (ho:ops[i]? =some o)
  (hm:∀y,J y->M (({s with objs:=X02 I (objs' y) (WB (objs.map fun p=>Y p.1) s.objs)}:HS).put (some d) ((r y).ren I [])))
  (hg:gOfN s o=some (f,args.map (TV.ren Y []),d):=by(simp[gOfN,X3n,X0N,catT,TV.ren,CV.ren,trS,ins];rfl))
  (hp:pvOK pv s Y:=by(first|exact .inl rfl|exact .inr ⟨rfl,rfl⟩))
  (hd0:HandS Y I objs [] s:=by(refine Z8 ?_ ?_ ?_ ?_ ?_<;>simp[trS,ins,rbB,X0A,Wj,CV.ren,Ob.ren,lkp]))
  (hd:∀y,J y->HandS Y I objs (objs' y) s:=by(intro _ _;refine Z8 ?_ ?_ ?_ ?_ ?_<;>simp[trS,ins,rbB,X0A,Wj,CV.ren,Ob.ren,lkp]))
  (hout:∀y,J y->X40 ((objs' y).map (·.1)) (r y)=true:=by(intro _ _;rfl)):Qa P ops i s M:=.call Y I ho hg hp hd0 hd hcon hout hm
end
end Go.Hl
