/- Part of an evaluator that is sound over the model. Conditions: none. -/
import Derived.Test.YtdccocolnaklkaaGreatDoorH6
set_option linter.unusedSimpArgs false
set_option linter.unusedVariables false
namespace Go.Hl
open Go Go.RowKit
theorem X9o {s:HS} (k:Nat) (cs:List CD) (h:lkp s.regs k=some (.v (.agg (cs.map .c)))):le s {s with regs:=ins k (.v (.one (.c (.ag cs)))) s.regs}:=by
 intro w0 B U F T a w hr;refine⟨F,T,fun _ h=>h,fun _ h=>.inl h,hr.heap,hr.defers,hr.nt,fun j r hj=>?_⟩;by_cases e1:j=k
 .subst e1;rw[Qb]at hj;simp only[NG,Option.some.injEq]at hj;subst hj;obtain⟨vs,hv,hsz,hc⟩:=hr.regs j _ h;show CRel F w (.ag cs) _;rw[hv];have:=CRel.ag (F:=F) (w:=w) cs vs.toList (by simpa using hsz) fun i d u hd hu=>hc i (.c d) u (by simp[hd]) (by simpa using hu);simpa using this
 rw[Xp e1]at hj;exact hr.regs j r hj
theorem le_ofAg {s:HS} (k:Nat) (cs:List CD) (h:lkp s.regs k=some (.v (.one (.c (.ag cs))))):le s {s with regs:=ins k (.v (.agg (cs.map .c))) s.regs}:=by
 intro w0 B U F T a w hr;refine⟨F,T,fun _ h=>h,fun _ h=>.inl h,hr.heap,hr.defers,hr.nt,fun j r hj=>?_⟩;by_cases e1:j=k
 .subst e1;rw[Qb]at hj;simp only[NG,Option.some.injEq]at hj;subst hj;have hx:CRel F w (.ag cs) _:=hr.regs j _ h;generalize a.tmps.getD j undef=v at hx;cases hx with
  | ag _ vs hl hc=>
    refine⟨vs.toArray,rfl,by simpa using hl,fun i x u hx hu=>?_⟩;simp only[Nf,N8]at hx;obtain⟨d,hd,rfl⟩:=hx;exact hc i d u hd (by simpa using hu)
 rw[Xp e1]at hj;exact hr.regs j r hj
def ConL (P:Program) (f:FuncId) (objs:List (Nat×Ob)) (args:List TV) (r:RV):Prop:=
 XZ P f=true/\∀(F:Nat->Prop) (T:Nat->Value) (w:World) (vs:Array Value),HeapRel w (ownB T objs w) (fun _=>none) F T objs w->vs.size=args.length->
  (∀(j:Nat) t u,args[j]? =some t->vs[j]? =some u->XJ F T w t u)->
  Calls P f vs w fun x w'=>∃(v:Value) (N:Nat->Prop) (T':Nat->Value),x=.returned v/\Kept (ownB T objs w) w w'/\(∀c,N c->¬ownB T objs w c/\c<w'.heap.size)/\X9 (fun c=>F c\/N c) T' w' r v/\
   HeapRel w (ownB T objs w) (fun _=>none) (fun c=>F c\/N c) T' objs w'/\∀n o,lkp objs n=some o->T' n=T n
section
variable {P:Program} {F:Nat->Prop} {T T':Nat->Value} {w w' w0:World} {B:Nat->Prop} {U:Nat->Option Value}
theorem X3C {f:FuncId} {fn:Func} {c:Code} {objs:List (Nat×Ob)} {args:List TV} {r:RV} (hf:P.funcs[f]? =some fn)
  (h:HT P c ⟨fn.ntmps,Wx 0 args,objs⟩ (fun e s'=>(e=.normal\/e=.ret)/\∃s2,le s' s2/\(∃ts,X0Z P s2 fn.results.toList=some ts/\r=Xl ts)/\∀n o,lkp objs n=some o->lkp s2.objs n=some o))
  (hpin:∀n o,lkp objs n=some o->1000000<=n) (hb:fn.body=some c:=by exact rfl) (hcall:XZ P f=true:=by kernel_rfl) (hnt:args.length<=fn.ntmps:=by exact Da rfl):ConL P f objs args r:=by
 refine⟨hcall,fun F T w vs hh hsz hargs=>?_⟩
 let π0:Nat->Option Value:=fun n=>if(lkp objs n).isSome then some (T n)else none
 have hh0:HeapRel w (ownB T objs w) π0 F T objs w:=⟨hh.below,hh.hB,hh.fsz,hh.ob,hh.apart,hh.sep,fun n v hv=>by
  simp only[π0]at hv;split at hv
  .rename_i hl;obtain⟨o,ho⟩:=Option.isSome_iff_exists.1 hl;cases hv;exact⟨hpin n o ho,rfl⟩
  cases hv⟩
 have hrel:Rel w (ownB T objs w) π0 F T ⟨fn.ntmps,Wx 0 args,objs⟩ {tmps:=vs++Array.replicate (fn.ntmps - vs.size) undef,defers:=[]} w:=by
  refine⟨hh0,rfl,by simp;omega,fun k r hl=>?_⟩;obtain⟨h1,t,ht,rfl⟩:=WC args 0 k r hl;have hk:k<vs.size:=by rw[hsz];exact(N5.1 ht).1
  have hv:(vs++Array.replicate (fn.ntmps - vs.size) undef).getD k undef=vs[k]:=by
   rw[Nq,NQ hk];simp[hk]
  rw[hv];exact hargs (k - 0) t vs[k] ht (by simp[hk])
 refine calls_of_wp hf hb (wp_mono (h w _ _ F T _ w hrel) ?_);rintro x a' w' ⟨s',F1,γ1,⟨he,s2,hle,⟨ts,hts,rfl⟩,hobjs⟩,h1,h2,hr'⟩;obtain⟨F2,γ2,h3,h4,hr2⟩:=hle w _ _ F1 γ1 a' w' hr';obtain⟨us,hus,hul,huc⟩:=Z0 hr2 hts
 have hFF:∀c,F2 c->F c\/(F2 c/\¬ownB T objs w c):=by
  intro c hc;rcases h4 c hc with h5|h5
  .rcases h2 c h5 with h6|h6
   .exact .inl h6
   exact .inr ⟨hc,h6⟩
  exact .inr ⟨hc,h5⟩
 have hEq:(fun c=>F c\/(F2 c/\¬ownB T objs w c))=F2:=by
  funext c
  refine propext ⟨fun h=>?_,hFF c⟩;rcases h with h|h
  .exact h3 c (h1 c h)
  exact h.1
 have hres:∃v,(results fn a'.tmps).run P w'=.ok v w'/\X9 F2 γ2 w' (Xl ts) v:=by
  rw[ZG,Sem.run_bind,hus,Result.andThen_ok];refine⟨_,rfl,?_⟩
  match ts,us,hul,huc with
  |[],[],_,_=>exact⟨#[],rfl,rfl,by simp⟩
  |[t],[u],_,hc=>exact hc 0 t u rfl rfl
  |t1::t2::ts,u1::u2::us,hl,hc=>exact⟨(u1::u2::us).toArray,by simp,by simpa using hl,fun j t u ht hu=>hc j t u ht (by simpa using hu)⟩
 obtain⟨v,hv,hvr⟩:=hres
 have key:a'.defers=[]/\∃v,(results fn a'.tmps).run P w'=.ok v w'/\∃(v2:Value) (N:Nat->Prop) (T':Nat->Value),Ending.returned v=.returned v2/\Kept (ownB T objs w) w w'/\
   (∀c,N c->¬ownB T objs w c/\c<w'.heap.size)/\X9 (fun c=>F c\/N c) T' w' (Xl ts) v2/\
   HeapRel w (ownB T objs w) (fun _=>none) (fun c=>F c\/N c) T' objs w'/\∀n o,lkp objs n=some o->T' n=T n:=by
  refine⟨hr2.defers,v,hv,v,fun c=>F2 c/\¬ownB T objs w c,γ2,rfl,hr2.heap.below,fun c hc=>⟨hc.2,hr2.heap.fsz c hc.1⟩,hvr.mono hFF fun _ _=>rfl,?_,fun n o hl=>?_⟩
  .rw[hEq];exact(hr2.heap.less hobjs).nopin
  exact(hr2.heap.pin n (T n) (by simp only[π0,hl];rfl)).2
 rcases he with rfl|rfl
 .exact key
 exact key
theorem Hand.lent {Y:Nat->Nat} {objs sobjs:List (Nat×Ob)} (hd:Hand Y objs sobjs) (h:HeapRel w0 B U F T sobjs w) (hk:Kept (ownB (fun n=>T (Y n)) objs w) w w') {N:Nat->Prop}
  (hN:∀c,N c->¬ownB (fun n=>T (Y n)) objs w c/\c<w'.heap.size) (hh:HeapRel w (ownB (fun n=>T (Y n)) objs w) (fun _=>none) (fun c=>F c\/N c) T' objs w') (hp:∀n o,lkp objs n=some o->T' n=T (Y n)):
  (∀b,N b->¬B b)/\(∀c,F c->w'.heap[c]? =w.heap[c]?)/\HeapRel w0 B U (fun c=>F c\/N c) T sobjs w':=by
 have own:∀b,X0Q (fun n=>T (Y n)) objs b->∃n o,lkp objs n=some o/\lkp sobjs (Y n)=some o/\Blk (T (Y n)) b:=by
  rintro b ⟨n,o,ho,hb⟩;exact⟨n,o,ho,hd.at_ n o ho,hb⟩
 have hBo:∀b,B b->ownB (fun n=>T (Y n)) objs w b:=by
  intro b hb;refine⟨h.hB b hb,fun ho=>?_⟩;obtain⟨n,o,_,h1,h2⟩:=own b ho;exact((h.ob _ _ h1).blk_lt h2).1 hb
 have hNB:∀b,N b->¬B b:=fun b hb hx=>(hN b hb).1 (hBo b hx)
 have hF:∀c,F c->w'.heap[c]? =w.heap[c]? :=fun c hc=>hk.block c ⟨h.fsz c hc,fun ho=>by
  obtain⟨n,o,_,h1,h2⟩:=own c ho
  exact h.apart _ _ h1 c h2 hc⟩
 have hsep:∀m o,lkp sobjs m=some o->(∀n o',lkp objs n=some o'->Y n≠m)->∀b,Blk (T m) b->ownB (fun n=>T (Y n)) objs w b:=by
  intro m o h1 h2 b hb;refine⟨((h.ob m o h1).blk_lt hb).2,fun ho=>?_⟩;obtain⟨n,o',h3,h4,h5⟩:=own b ho;exact h.sep _ _ _ _ h1 h4 (Ne.symm (h2 n o' h3)) b hb h5
 have hcase:∀m,(∃n o,lkp objs n=some o/\Y n=m)\/∀n o',lkp objs n=some o'->Y n≠m:=by
  intro m;by_cases hx:∃n o,lkp objs n=some o/\Y n=m
  .exact .inl hx
  exact .inr fun n o' h1 h2=>hx ⟨n,o',h1,h2⟩
 refine⟨hNB,hF,?_⟩
 exact {
  below:=h.below.trans ⟨hk.os,hk.tape,hk.output,hk.size,fun c hc=>hk.block c (hBo c hc)⟩
  hB:=fun c hc=>NA (h.hB c hc) hk.size
  fsz:=fun c hc=>by
   rcases hc with hc|hc
   .exact NA (h.fsz c hc) hk.size
   exact(hN c hc).2
  ob :=fun m o hl=>by
   rcases hcase m with⟨n,o',h1,rfl⟩|hno
   .have h2:=hd.at_ n o' h1;rw[hl]at h2;cases h2;have h3:=hh.ob n o h1;rw[hp n o h1]at h3;have h4:=hd.row n o h1;cases o with
    | row e s rows=>
      have h5:Xm (fun c=>F c\/N c) w' (ownB (fun n=>T (Y n)) objs w) e s (T (Y n)) rows:=h3;exact X8b h5 fun b hb hx=>(h3.blk_lt ((W6 (Xm.sl h5)).2 hb)).1 (hBo b hx)
    |_=>cases h4
   have h2:=h.ob m o hl;exact h2.mono (fun _ h=>.inl h) hF fun c hc=>hk.block c (hsep m o hl hno c hc)
  apart:=fun m o hl c hc hFc=>by
   rcases hcase m with⟨n,o',h1,rfl⟩|hno
   .rw[<-hp n o' h1]at hc;exact hh.apart n o' h1 c hc hFc
   rcases hFc with hFc|hFc
   .exact h.apart m o hl c hc hFc
   exact(hN c hFc).1 (hsep m o hl hno c hc)
  sep:=h.sep
  pin:=h.pin}
theorem X9S {s:HS} {a:Act} {ops:Array Oper} {i:Nat} {o:Oper} {f:FuncId} {d:Nat} {objs:List (Nat×Ob)} {args:List TV} {Y:Nat->Nat} {r:RV} {Kc:Act->World->Prop} {Q:Exit->Act->World->Prop} (hi:ops[i]? =some o) (h:Rel w0 B U F T s a w)
  (hc:gOf s o=some (f,args.map (TV.ren Y []),d)) (hd:Hand Y objs s.objs) (hok:∀t∈args,t.okNil []=true) (hcon:ConL P f objs args r) (honly:r.onlyB false 0=true)
  (hK:∀F' a' w',(∀b,F b->F' b)->(∀b,F' b->F b\/¬B b)->Rel w0 B U F' T (s.put (some d) r) a' w'->Kc a' w'):wpOp P ops Q i Kc a w:=by
 unfold gOf at hc;split at hc
 .rename_i x as0 ts0 d0 hgd ho hdst;split at hc
  .rename_i f0 ts hf hts;split at hc
   .rename_i hokd;cases hc;obtain⟨hcall,hcon⟩:=hcon;have hx:=h.opd x;rw[hf]at hx;obtain⟨cvs,hv,hcl,_⟩:=hx;have:cvs=[]:=Np (by simpa using hcl);subst this;have hv':a.eval x=.func (.func f) #[] #[]:=hv
    have hrun:(execOp a.eval o).run P w=.ok (.enter f (as0.map a.eval)) w:=by
     unfold XZ at hcall;split at hcall
     .rename_i fn hfn;simp only[N4,Nk]at hcall;have hnm:¬fn.name= "runtime.NumGoroutine" :=by simpa using hcall.1
      have hnb:¬fn.body=none:=by
       intro hb;rw[hb]at hcall;cases hcall.2
      simp[execOp,ho,resolve,hv',Deferred.ofValue,invoke,callFunc,hfn,hnm,hnb]
     cases hcall
    unfold wpOp;rw[hi];simp only;have hwant:Region.wanted o (yielded ops a.tmps)=true:=by unfold Region.wanted;rw[hgd]
    rw[hwant];simp only[NG];refine .inl ?_;unfold Oper.wp;rw[hrun,Oper.upon_enter];obtain⟨hlen,hget⟩:=ZN hts;refine(hcon F (fun n=>T (Y n)) w (as0.map a.eval) (hd.heap h.heap) (by simpa using hlen.symm) fun j t u ht hu=>?_).mono ?_
    .obtain⟨y,hy,hgy⟩:=hget j (t.ren Y []) (by simp[ht])
     have hu':u=a.eval y:=by
      rw[Array.getElem?_map,<-Array.getElem?_toList,hy]at hu;exact(Option.some.inj hu).symm
     rw[hu'];have:=h.opd y;rw[hgy]at this;exact XJ.ren (Y:=Y) (nils:=[]) (fun n _=>rfl) (fun n hn=>by cases hn) (hok t (N3 ht)) this
    rintro x w' ⟨v,N,T',rfl,hk,hN,hr,hh,hp⟩;obtain⟨h1,h2,h3⟩:=hd.lent h.heap hk hN hh hp;refine hK (fun c=>F c\/N c) _ _ (fun _ h=>.inl h) (fun c hc=>hc.imp id fun hc=>h1 c hc) ?_;rw[hdst];exact h.step (objs':=s.objs) hokd h3 (hr.only (ob:=false) (d:=0) honly (by simp)) fun k r v _ hr=>hr.mono (fun _ h=>.inl h) h2
   cases hc
  cases hc
 cases hc
theorem X6l {id:Nat} {ops:Array Oper} (k:Nat) (objs:List (Nat×Ob)) (args:List TV) (Y:Nat->Nat) (r:RV) (cs1 cs2:List CR) {s s1 s3:HS} {p q:Prop} {o:Oper} {f:FuncId} {d:Nat} {Q:Exit->HS->Prop} (ho:ops[k]? =some o)
  (hpre:evc P ops (ops.toList.take k) s cs1=some (s1,p)) (hp:p)
  (hg:gOf s1 o=some (f,args.map (TV.ren Y []),d)) (hd:Hand Y objs s1.objs) (hok:∀t∈args,t.okNil []=true) (hcon:ConL P f objs args r) (honly:r.onlyB false 0=true)
  (hpost:evc P ops (ops.toList.drop (k+1)) (s1.put (some d) r) cs2=some (s3,q)) (hq':q) (hq:Q .normal s3):HT P (.region id ops false) s Q:=by
 intro w0 B U F T a w hr;refine wp_region ?_;rw[X3N ho];refine QS (ops.toList.take k) 0 s F T a w (fun j o' hj=>?_) hr (Qn _ _ _ _ _ hpre hp rfl:wpR P ops (ops.toList.take k) s (fun t=>t=s1)) fun s' F1 γ1 a1 w1 hs' h1 h2 hr1=>?_
 .rw[Nv]at hj;split at hj
  .rw[Nat.zero_add];simpa using hj
  cases hj
 subst hs';rw[wpOps_cons];refine X9S ho hr1 hg hd hok hcon honly fun F2 a2 w2 h3 h4 hr2=>?_
 have:=QS (Q:=fun e a' w'=>∃(s':HS) (F':Nat->Prop) (T':Nat->Value),Q e s'/\(∀b,F b->F' b)/\(∀b,F' b->F b\/¬B b)/\Rel w0 B U F' T' s' a' w') (Xy:=[]) (ops.toList.drop (k+1)) (k+1) _ F2 γ1 a2 w2 (fun j o' hj=>by
   rw[No]at hj;simpa using hj) hr2 (Qn _ _ _ _ _ hpost hq' rfl:wpR P ops (ops.toList.drop (k+1)) _ (fun t=>t=s3)) fun s4 F4 γ4 a4 w4 hs4 h5 h6 hr4=>?_
 .simpa using this
 subst hs4;exact⟨s4,F4,γ4,hq,fun b hb=>h5 b (h3 b (h1 b hb)),fun b hb=>(h6 b hb).elim (fun hb=>(h4 b hb).elim (h2 b) .inr) .inr,hr4⟩
end
theorem Qk.lent {P:Program} {ops:Array Oper} {i:Nat} {o:Oper} {s:HS} {M:HS->Prop} {f:FuncId} {d:Nat} {objs:List (Nat×Ob)} {args:List TV} (Y:Nat->Nat) {r:RV} (hcon:ConL P f objs args r) (ho:ops[i]? =some o)
  (hg:gOf s o=some (f,args.map (TV.ren Y []),d)) (hd:Hand Y objs s.objs) (hok:∀t∈args,t.okNil []=true) (honly:r.onlyB false 0=true) (hm:M (s.put (some d) r)):Qk P ops i s M:=by
 intro w0 B U F T a w Kc Q hr hK;exact X9S ho hr hg hd hok hcon honly fun F' a' w' h1 h2 hr2=>hK _ F' T a' w' hm h1 h2 hr2
theorem pin_l {objs:List (Nat×Ob)} (h:(objs.all fun p=>decide (1000000<=p.1))=true) (n:Nat) (o:Ob) (hl:lkp objs n=some o):1000000<=n:=by
 rw[Nh]at h;simpa using h _ (XE hl)
def renC:List CV->List CV->List (Nat×Nat)
 | x::l,y::m=>match y,x with
   | .own n,.own n'=>if n=n' then renC l m else(n,n')::renC l m
   |_,_=>renC l m
 |_,_=>[]
def nilC:List CV->List CV->List Nat
 | x::l,y::m=>match y,x with
   | .own n,.c (.lit (.slice none 0 0))=>n::nilC l m
   |_,_=>nilC l m
 |_,_=>[]
def renO (a:List (Nat×Ob)):List (Nat×Ob)->List (Nat×Nat)
 |[]=>[]
 | (k,o)::m=>match o,lkp a k with
   | .box y,some (.box x)=>renC x y++renO a m
   |_,_=>renO a m
def nilO (a:List (Nat×Ob)):List (Nat×Ob)->List Nat
 |[]=>[]
 | (k,o)::m=>match o,lkp a k with
   | .box y,some (.box x)=>nilC x y++nilO a m
   |_,_=>nilO a m
theorem X59 {s s':HS} {l:List (Nat×Nat)} {nils:List Nat} (h1:renS s.regs s'.regs++renO s.objs s'.objs=l:=by simp[renS,renO,renC,upS,Ql];rfl) (h2:nilN s.regs s'.regs++nilO s.objs s'.objs=nils:=by simp[nilN,nilO,nilC,upS,Ql];rfl) (hn:s'.nt=s.nt:=by rfl)
  (hr:ZM (fun k r=>r.okNil nils=true/\opd s.regs (.tmp k)=r.ren (WN (toN l)) nils) s'.regs:=by simp[upS,Ql,toN, *])
  (ho:ZM (fun n o=>if nils.contains n then(match o with| .row _ sz []=>0<sz|_=>False)else o.okNil nils=true/\lkp s.objs (WN (toN l) n)=some (o.ren (WN (toN l)) nils)) s'.objs:=by simp[*,upS,toN])
  (hi:ZM (fun n _=>ZM (fun m _=>n=m\/WN (toN l) n≠WN (toN l) m\/nils.contains n=true\/nils.contains m=true) s'.objs) s'.objs:=by simp[upS,toN])
  (hp:nils.all (fun n=>decide (n<1000000))=true:=by rfl):le s s':=QJ _ nils hn hr ho hi hp
theorem pin_mk {objs:List (Nat×Ob)} (h:(objs.all fun p=>match p.2 with| .box _=>decide (1000000<=p.1)|_=>true)=true) (n:Nat) (cs:List CV) (hl:lkp objs n=some (.box cs)):1000000<=n:=by
 rw[Nh]at h;have:=h _ (XE hl);simpa using this
theorem X3X {P:Program} {rs:List ResultVar} {s:HS} {r:RV} {objs':List (Nat×Ob)} {ts:List TV} (hr:X0Z P s rs=some ts) (he:r=Xl ts) (ho:∀p∈objs',lkp s.objs p.1=some p.2):
  ∃s2,le s s2/\(∃ts,X0Z P s2 rs=some ts/\r=Xl ts)/\∀n o,lkp objs' n=some o->lkp s2.objs n=some o:=
 ⟨s,le_refl s,⟨ts,hr,he⟩,fun n o h=>ho _ (XE h)⟩
theorem HT_endL {P:Program} {rs:List ResultVar} {s s2:HS} {r:RV} {objs':List (Nat×Ob)} {ts:List TV} (hl:le s s2) (hr:X0Z P s2 rs=some ts) (he:r=Xl ts) (ho:∀p∈objs',lkp s2.objs p.1=some p.2):
  ∃s2,le s s2/\(∃ts,X0Z P s2 rs=some ts/\r=Xl ts)/\∀n o,lkp objs' n=some o->lkp s2.objs n=some o:=
 ⟨s2,hl,⟨ts,hr,he⟩,fun n o h=>ho _ (XE h)⟩
attribute [simp] X0S okTV X3T Zk X2x rbB
end Go.Hl
