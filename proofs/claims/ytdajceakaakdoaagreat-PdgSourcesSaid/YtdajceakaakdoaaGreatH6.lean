/- Part of an evaluator that is sound over the model. Conditions: none. -/
import Derived.Test.YtdajceakaakdoaaGreatH5
import Derived.Maps.RangeRun
import Derived.Laws.Entries
set_option linter.unusedSimpArgs false
set_option linter.unusedVariables false
namespace Go.Hl
open Go Go.RowKit
open Go.ChangeMaps (setBlock)
def ConF {X:Type} (P:Program) (f:FuncId) (fresh:Bool) (args:List TV) (J:X->Prop) (r:X->RV) (ob:X->Option Ob) (d:Nat):Prop:=
 Q5 P f=true/\∀(F:Nat->Prop) (w:World) (vs:Array Value),(∀b,F b->b<w.heap.size)->vs.size=args.length->
  (∀(j:Nat) t u,args[j]? =some t->vs[j]? =some u->XI F noγ w t u)->
  Calls P f vs w fun e w'=>∃(y:X) (v:Value) (N:Nat->Prop) (T':Nat->Value),J y/\e=.returned v/\Below w.heap.size w w'/\(∀b,N b->w.heap.size<=b/\b<w'.heap.size)/\
   Xa (Res fresh F N) T' w' (r y) v/\∀o,ob y=some o->Q0 (Res fresh F N) T' w' (fun b=>b<w.heap.size) (T' d) o/\∀b,Blk (T' d) b->¬N b
def callF (P:Program) (s:HS) (g:Operand->RV) (o:Oper) (K:Nat->RV->Option Ob->Prop):Prop:=
 match o.op,o.dst with
 | .call {callee:=.value x,args:=args, .. },some d=>match Wu s.objs (g x),X1w s.objs g args.toList with
   | some (f,own,es),some ts=>∃(fresh:Bool) (X:Type) (J:X->Prop) (r:X->RV) (ob:X->Option Ob),ConF P f fresh (ts++es) J r ob d/\(fresh=true\/(own||args.toList.any fun x=>(g x).ownB)=false)/\
     (∀y,J y->((ob y).isSome=true->Wb d s=true)/\(r y).onlyB (ob y).isSome d=true/\(∀o,ob y=some o->o.flat=true))/\XP s (some d)=true/\∀y,J y->K d (r y) (ob y)
   |_,_=>False
 |_,_=>False
section
variable {P:Program} {F:Nat->Prop} {T:Nat->Value} {w w' w0:World} {B:Nat->Prop} {U:Nat->Option Value}
theorem X8r {s:HS} {a:Act} {o:Oper} {g:Operand->RV} {K:Nat->RV->Option Ob->Prop} (h:Rel w0 B U F T s a w) (hg:∀x,Xa F T w (g x) (a.eval x)) (hc:callF P s g o K) {Kc:Act->World->Prop} {Q:Exit->Act->World->Prop}
  (hK:∀d r ob F' T' v w',o.dst=some d->XP s (some d)=true->K d r ob->(∀b,F b->F' b)->(∀b,F' b->F b\/¬B b)->Rel w0 B U F' T' (s.made d ob) a w'->Xa F' T' w' r v->Kc (a.put o.dst v) w')
  :o.wp P a w Kc Q:=by
 unfold callF at hc;split at hc
 .rename_i x args ts d ho hd;split at hc
  .rename_i f own es tvs hf hts;obtain⟨fresh,X,J,rF,obF,⟨hcall,hcon⟩,hown,hall,hok,hkF⟩:=hc;obtain⟨us,hv',hul,hes,hesd⟩:=X1D h.heap hf (hg x)
   have hrun:(execOp a.eval o).run P w=.ok (.enter f (args.map a.eval++us.toArray)) w:=by
    unfold Q5 at hcall;split at hcall
    .rename_i fn hfn;simp only[N4,Nw]at hcall;have hnm:¬fn.name= "runtime.NumGoroutine" :=by simpa using hcall.1
     have hnb:¬fn.body=none:=by
      intro hb;rw[hb]at hcall;cases hcall.2
     simp[execOp,ho,resolve,hv',Deferred.ofValue,invoke,callFunc,hfn,hnm,hnb]
    cases hcall
   unfold Oper.wp;rw[hrun,Oper.upon_enter];obtain⟨hl,hts'⟩:=X1d hts
   -- the set of blocks that the callee may look at
   have hcase:∃F2:Nat->Prop,(∀b,F2 b->b<w.heap.size)/\(fresh=false->∀b,F2 b->F b)/\
     ∀(j:Nat) t u,(tvs++es)[j]? =some t->(args.map a.eval++us.toArray)[j]? =some u->XI F2 noγ w t u:=by
    have hget:∀(j:Nat) x u,args.toList[j]? =some x->(args.map a.eval)[j]? =some u->u=a.eval x:=by
     intro j x u hx hu;have hx':args[j]? =some x:=by simpa using hx
     rw[Array.getElem?_map,hx']at hu;simpa using hu.symm
    have hsz:(args.map a.eval).size=tvs.length:=by rw[Array.size_map,hl,Array.length_toList]
    have both:∀G:Nat->Prop,(∀(j:Nat) t u,tvs[j]? =some t->(args.map a.eval)[j]? =some u->XI G noγ w t u)->(∀(j:Nat) t u,es[j]? =some t->us[j]? =some u->XI G noγ w t u)->
      ∀(j:Nat) t u,(tvs++es)[j]? =some t->(args.map a.eval++us.toArray)[j]? =some u->XI G noγ w t u:=by
     intro G h1 h2 j t u ht hu;by_cases hj:j<tvs.length
     .rw[Ns hj]at ht;rw[D5 (by omega)]at hu;exact h1 j t u ht hu
     rw[Nn (D6 hj)]at ht;rw[Array.getElem?_append_right (by omega),hsz]at hu;exact h2 _ t u ht (by simpa using hu)
    rcases hown with rfl|hown
    .refine⟨fun b=>F b\/X1Z T s.objs b,?_,by simp,both _ ?_ hes⟩
     .rintro b (hb|⟨n,o',hl',hb⟩)
      .exact h.heap.fsz b hb
      exact((h.heap.ob n o' hl').blk_lt hb).2
     intro j t u ht hu;obtain⟨y,hy,hbr⟩:=hts' j t ht;rw[hget j y u hy hu];exact X2M h.heap hbr (hg y)
    simp only[NV]at hown;refine⟨F,h.heap.fsz,fun _ _ h=>h,both _ ?_ (hesd hown.1)⟩;intro j t u ht hu;obtain⟨y,hy,hbr⟩:=hts' j t ht;rw[hget j y u hy hu];refine X4C h.heap ?_ hbr (hg y);have hown2:=hown.2;rw[Dd]at hown2;simpa using hown2 y (N3 hy)
   obtain⟨F2,hF2,hF2F,hargs⟩:=hcase;refine(hcon F2 w (args.map a.eval++us.toArray) hF2 (by simp[hl,hul]) hargs).mono ?_;rintro e w' ⟨y,v,N,T',hΦ,rfl,hb,hN,hr,hobj⟩;obtain⟨hunm,honly,hflat⟩:=hall y hΦ;have hk:=hkF y hΦ;generalize rF y=r at*;generalize obF y=ob at*
   have hres:∀b,Res fresh F2 N b->F b\/N b:=by
    rintro b (hb|⟨hfr,hb⟩)
    .exact .inr hb
    exact .inl (hF2F hfr b hb)
   have hheap:=h.heap.called hb hN;have hFk:∀b,F b->w'.heap[b]? =w.heap[b]? :=fun b hF=>hb.block b (h.heap.fsz b hF)
   have hNB:∀b,(F b\/N b)->F b\/¬B b:=by
    rintro b (hb|hb)
    .exact .inl hb
    exact .inr fun hx=>Dz _ (NJ (h.heap.hB b hx) (hN b hb).1)
   cases ob with
   | none=>
     refine hK d r none (fun b=>F b\/N b) T v w' hd hok hk (fun _ h=>.inl h) hNB ?_ ((hr.mono hres fun _ _=>rfl).only honly (by simp));exact⟨hheap,h.defers,h.nt,fun k r hl=>(h.regs k r hl).mono (fun _ h=>.inl h) hFk⟩
   | some o'=>
     obtain⟨ho1,ho2⟩:=hobj o' rfl;have hun:=hunm rfl;have hnew:∀b,Blk (T' d) b->w.heap.size<=b:=fun b hb=>D6 (ho1.blk_lt hb).1;have hfl:=hflat o' rfl;have hob':Q0 (fun b=>F b\/N b) (upd T d (T' d)) w' (fun b=>b<w.heap.size) (T' d) o':=(ho1.mono hres (fun _ _=>rfl) (fun _ _=>rfl)).only hfl
     have hobB:Q0 (fun b=>F b\/N b) (upd T d (T' d)) w' B (T' d) o':=by
      cases o' with
      |box cs=>obtain⟨b,e,vs,h1,h2,h3⟩:=hob';exact⟨b,e,vs,h1,fun hx=>h2 (h.heap.hB _ hx),h3⟩
      |row e' s' rows=>exact Xv.low (fun b hx=>h.heap.hB b hx) hob'
      |mp l=>obtain⟨b,es,clock,h1,h2,h3⟩:=hob';exact⟨b,es,clock,h1,fun hx=>h2 (h.heap.hB _ hx),h3⟩
      | mat e e' s' rows=>
        obtain⟨o,is,h1,h2,h3,⟨xs,h4,h5⟩,h6,h7⟩:=hob';refine⟨o,is,h1,h2,h3,⟨xs,h4.low (fun b hx=>h.heap.hB b hx),h5⟩,fun i v r hv hr=>?_,h7⟩;have:=h6 i v r hv hr;cases r with
        |none=>exact this
        |some rr=>exact Xv.low (fun b hx=>h.heap.hB b hx) this
      |refs e ns=>cases hfl
      |mps e ms=>cases hfl
      |it l seen=>cases hfl
     have hheap':HeapRel w0 B U (fun b=>F b\/N b) (upd T d (T' d)) (ins d o' s.objs) w':={
      below:=hheap.below
      hB:=hheap.hB
      fsz:=hheap.fsz
      ob:=fun n o ho=>by
       rw[XQ]at ho;split at ho
       .rename_i e;cases ho;subst e;rw[Xt];exact hobB
       rename_i e;rw[Xe _ e];exact(hheap.ob n o ho).upd (WG hun n o ho).2
      apart:=fun n o ho b hbk hF=>by
       rw[XQ]at ho;split at ho
       .rename_i e;rw[e,Xt]at hbk;rcases hF with hF|hF
        .have:=hnew b hbk;have:=h.heap.fsz b hF;omega
        exact ho2 b hbk hF
       rename_i e;rw[Xe _ e]at hbk;exact hheap.apart n o ho b hbk hF
      sep:=fun n m on om hn hm hne b hbn hbm=>by
       rw[XQ]at hn hm;split at hn
       .rename_i e;rw[e,Xt]at hbn;split at hm
        .rename_i e';exact hne (e.trans e'.symm)
        rename_i e';rw[Xe _ e']at hbm;have h1:=hnew b hbn;have h2:=(h.heap.ob m om hm).blk_lt hbm;omega
       rename_i e;rw[Xe _ e]at hbn;split at hm
       .rename_i e';rw[e',Xt]at hbm;have h1:=hnew b hbm;have h2:=(h.heap.ob n on hn).blk_lt hbn;omega
       rename_i e';rw[Xe _ e']at hbm;exact h.heap.sep n m on om hn hm hne b hbn hbm
      pin:=fun n v hv=>by
       obtain⟨h1,h2⟩:=h.heap.pin n v hv;have:=X0a hun
       exact⟨h1,by rw[Xe _ (by omega)];exact h2⟩}
     refine hK d r (some o') (fun b=>F b\/N b) (upd T d (T' d)) v w' hd hok hk (fun _ h=>.inl h) hNB ?_ ((hr.mono hres fun _ _=>rfl).only honly (fun _=>by rw[Xt]));exact⟨hheap',h.defers,h.nt,fun k r hl=>((h.regs k r hl).mono (fun _ h=>.inl h) hFk).upd (Z2 hun hl)⟩
  exact hc.elim
 exact hc.elim
theorem X9W {X:Type} {f:FuncId} {fn:Func} {c:Code} {args:List TV} {fresh:Bool} {J:X->Prop} {r:X->RV} {ob:X->Option Ob} {d:Nat} (hf:P.funcs[f]? =some fn) (hb:fn.body=some c) (hcall:Q5 P f=true) (hnt:args.length<=fn.ntmps)
  (h:HT P c ⟨fn.ntmps,QQ 0 args,[]⟩ (fun e s'=>(e=.normal\/e=.ret)/\∃y,J y/\∃s2,le s' s2/\RetOK P fn.results.toList s2 fresh (r y) (ob y) d)):ConF P f fresh args J r ob d:=by
 refine⟨hcall,fun F w vs hF hsz hargs=>?_⟩
 have hrel:Rel w (fun b=>b<w.heap.size) (fun _=>none) F noγ ⟨fn.ntmps,QQ 0 args,[]⟩ {tmps:=vs++Array.replicate (fn.ntmps - vs.size) undef,defers:=[]} w:=by
  refine⟨⟨Kept.refl _ _,fun _ h=>h,hF,by simp[lkp],by simp[lkp],by simp[lkp],by simp⟩,rfl,by simp;omega,fun k r hl=>?_⟩;obtain⟨_,t,ht,rfl⟩:=Ze args 0 k r hl;simp only[Nat.sub_zero]at ht;have hk:k<vs.size:=by rw[hsz];exact(N5.1 ht).1
  have hv:(vs++Array.replicate (fn.ntmps - vs.size) undef).getD k undef=vs[k]:=by
   rw[Nu,D5 hk];simp[hk]
  rw[hv];exact hargs k t _ ht (by simp[hk])
 refine calls_of_wp hf hb (wp_mono (h w (fun b=>b<w.heap.size) (fun _=>none) F noγ _ w hrel) ?_);rintro e a' w' ⟨s',F1,γ1,⟨he,y,hΦ,s2,hle,hret⟩,h1,h2,hr'⟩;obtain⟨F2,γ2,h3,h4,hr2⟩:=hle w (fun b=>b<w.heap.size) (fun _=>none) F1 γ1 a' w' hr';obtain⟨ts,hts,hry⟩:=hret.res;have hlit:=hret.lit;rw[hry]at hlit;obtain⟨us,hus,hul,huc⟩:=Zz hr2 hts
 have key:a'.defers=[]/\∃v,(results fn a'.tmps).run P w'=.ok v w'/\∃(y:X) (v2:Value) (N:Nat->Prop) (T':Nat->Value),J y/\Ending.returned v=.returned v2/\Below w.heap.size w w'/\(∀b,N b->w.heap.size<=b/\b<w'.heap.size)/\
   Xa (Res fresh F N) T' w' (r y) v2/\∀o,ob y=some o->Q0 (Res fresh F N) T' w' (fun b=>b<w.heap.size) (T' d) o/\∀b,Blk (T' d) b->¬N b:=by
  have hFF:∀b,F2 b->Res false F (fun b=>F2 b/\w.heap.size<=b) b:=by
   intro b hb;rcases h4 b hb with h5|h5
   .rcases h2 b h5 with h6|h6
    .exact .inr ⟨rfl,h6⟩
    exact .inl ⟨hb,D6 h6⟩
   exact .inl ⟨hb,D6 h5⟩
  have hres:∃v,(results fn a'.tmps).run P w'=.ok v w'/\Xa F2 γ2 w' (XL ts) v:=by
   rw[X07,Sem.run_bind,hus,Result.andThen_ok];refine⟨_,rfl,?_⟩
   match ts,us,hul,huc with
   |[],[],_,_=>exact⟨#[],rfl,rfl,by simp⟩
   |[t],[u],_,hc=>exact hc 0 t u rfl rfl
   |t1::t2::ts,u1::u2::us,hl,hc=>exact⟨(u1::u2::us).toArray,by simp,by simpa using hl,fun j t u ht hu=>hc j t u ht (by simpa using hu)⟩
  obtain⟨v,hv,hvr⟩:=hres;refine⟨hr2.defers,v,hv,y,v,fun b=>F2 b/\w.heap.size<=b,γ2,hΦ,rfl,hr2.heap.below.below,fun b hb=>⟨hb.2,hr2.heap.fsz b hb.1⟩,?_,fun o ho=>⟨?_,fun b hb hN=>hr2.heap.apart d o (hret.objs o ho) b hb hN.1⟩⟩
  .rw[hry];cases fresh with
   |false=>exact hvr.mono hFF fun _ _=>rfl
   |true=>exact hvr.lits (hlit rfl).1
  have:=hr2.heap.ob d o (hret.objs o ho);cases fresh with
  |false=>exact this.mono hFF (fun _ _=>rfl) fun _ _=>rfl
  |true=>exact this.lits ((hlit rfl).2 o ho)
 rcases he with rfl|rfl
 .exact key
 exact key
theorem callF_wp {ops:Array Oper} {i:Nat} {o:Oper} {s:HS} {a:Act} {K:HS->Prop} {Kc:Act->World->Prop} {Q:Exit->Act->World->Prop} (hi:ops[i]? =some o) (h:Rel w0 B U F T s a w) (hgd:o.guard=none)
  (hc:callF P s (opd s.regs) o fun d r ob=>K ((s.made d ob).put (some d) r))
  (hK:∀s' F' T' a' w',K s'->(∀b,F b->F' b)->(∀b,F' b->F b\/¬B b)->Rel w0 B U F' T' s' a' w'->Kc a' w'):wpOp P ops Q i Kc a w:=by
 unfold wpOp;rw[hi];simp only;have hwant:Region.wanted o (yielded ops a.tmps)=true:=by unfold Region.wanted;rw[hgd]
 rw[hwant];simp only[Nf];refine .inl ?_;refine X8r h h.opd hc fun d r ob F' T' v w' hd hok hk h1 h2 hr hv=>?_;refine hK _ F' T' _ _ hk h1 h2 ?_;rw[hd];have hok':XP (s.made d ob) (some d)=true:=by cases ob<;>exact hok
 exact hr.step (objs':=(s.made d ob).objs) hok' hr.heap hv fun _ _ _ _ h=>h
end
def Z7 {X:Type} (P:Program) (f:FuncId) (pv:Option Value) (objs:List (Nat×Ob)) (args:List TV) (J:X->Prop) (r:X->RV) (objs':X->List (Nat×Ob)):Prop:=
 Q5 P f=true/\∀(F:Nat->Prop) (T:Nat->Value) (w:World) (vs:Array Value),HeapRel w (ownB T objs w) (fun _=>none) F T objs w->(∀v,pv=some v->T 1000000=v)->vs.size=args.length->
  (∀(j:Nat) t u,args[j]? =some t->vs[j]? =some u->XI F T w t u)->
  Calls P f vs w fun x w'=>∃(y:X) (v:Value) (N:Nat->Prop) (T':Nat->Value),J y/\x=.returned v/\Kept (ownB T objs w) w w'/\(∀c,N c->¬ownB T objs w c/\c<w'.heap.size)/\Xa (fun c=>F c\/N c) T' w' (r y) v/\
   HeapRel w (ownB T objs w) (fun _=>none) (fun c=>F c\/N c) T' (objs' y) w'/\∀n cs,lkp objs n=some (.box cs)->T' n=T n
section
variable {P:Program} {F:Nat->Prop} {T T':Nat->Value} {w w' w0:World} {B:Nat->Prop} {U:Nat->Option Value}
theorem X46.toN {f:FuncId} {objs objs':List (Nat×Ob)} {args:List TV} {r:RV} (h:X46 P f objs args r objs'):Z7 (X:=Unit) P f none objs args (fun _=>True) (fun _=>r) (fun _=>objs'):=
 ⟨h.1,fun F T w vs hh _ hs ha=>(h.2 F T w vs hh hs ha).mono fun e w' ⟨v,N,T',h1,h2⟩=>⟨(),v,N,T',trivial,h1,h2⟩⟩
theorem XV {X:Type} {f:FuncId} {fn:Func} {c:Code} {pv:Option Value} {objs:List (Nat×Ob)} {args:List TV} {J:X->Prop} {r:X->RV} {objs':X->List (Nat×Ob)} (hf:P.funcs[f]? =some fn) (hb:fn.body=some c) (hcall:Q5 P f=true) (hnt:args.length<=fn.ntmps)
  (hpin:∀n cs,lkp objs n=some (.box cs)->1000000<=n) (hpv:∀v,pv=some v->∃cs,lkp objs 1000000=some (.box cs))
  (h:HT P c ⟨⟨fn.ntmps,pv⟩,QQ 0 args,objs⟩ (fun e s'=>(e=.normal\/e=.ret)/\∃y,J y/\∃s2,le s' s2/\(∃ts,X34 P s2 fn.results.toList=some ts/\r y=XL ts)/\∀n o,lkp (objs' y) n=some o->lkp s2.objs n=some o)):Z7 P f pv objs args J r objs':=by
 refine⟨hcall,fun F T w vs hh hpg hsz hargs=>?_⟩
 let π0:Nat->Option Value:=fun n=>match lkp objs n with
  |some (.box _)=>some (T n)
  |_=>none
 have hh0:HeapRel w (ownB T objs w) π0 F T objs w:=⟨hh.below,hh.hB,hh.fsz,hh.ob,hh.apart,hh.sep,fun n v hv=>by
  simp only[π0]at hv;split at hv
  .rename_i cs hl;cases hv;exact⟨hpin n cs hl,rfl⟩
  cases hv⟩
 have hrel:Rel w (ownB T objs w) π0 F T ⟨⟨fn.ntmps,pv⟩,QQ 0 args,objs⟩ {tmps:=vs++Array.replicate (fn.ntmps - vs.size) undef,defers:=[]} w:=by
  refine⟨hh0,rfl,⟨by simp;omega,fun v hv=>?_⟩,fun k r hl=>?_⟩
  .obtain⟨cs,hcs⟩:=hpv v hv;simp only[π0,hcs];rw[hpg v hv]
  obtain⟨h1,t,ht,rfl⟩:=Ze args 0 k r hl;have hk:k<vs.size:=by rw[hsz];exact(N5.1 ht).1
  have hv:(vs++Array.replicate (fn.ntmps - vs.size) undef).getD k undef=vs[k]:=by
   rw[Nu,D5 hk];simp[hk]
  rw[hv];exact hargs (k - 0) t vs[k] ht (by simp[hk])
 refine calls_of_wp hf hb (wp_mono (h w _ _ F T _ w hrel) ?_);rintro x a' w' ⟨s',F1,γ1,⟨he,y,hΦ,s2,hle,⟨ts,hts,hry⟩,hobjs⟩,h1,h2,hr'⟩;obtain⟨F2,γ2,h3,h4,hr2⟩:=hle w _ _ F1 γ1 a' w' hr';obtain⟨us,hus,hul,huc⟩:=Zz hr2 hts
 have hFF:∀c,F2 c->F c\/(F2 c/\¬ownB T objs w c):=by
  intro c hc;rcases h4 c hc with h5|h5
  .rcases h2 c h5 with h6|h6
   .exact .inl h6
   exact .inr ⟨hc,h6⟩
  exact .inr ⟨hc,h5⟩
 have hEq:(fun c=>F c\/(F2 c/\¬ownB T objs w c))=F2:=by
  funext c
  refine propext ⟨fun h=>?_,hFF c⟩;rcases h with h|h
  .exact h3 c (h1 c h)
  exact h.1
 have hres:∃v,(results fn a'.tmps).run P w'=.ok v w'/\Xa F2 γ2 w' (XL ts) v:=by
  rw[X07,Sem.run_bind,hus,Result.andThen_ok];refine⟨_,rfl,?_⟩
  match ts,us,hul,huc with
  |[],[],_,_=>exact⟨#[],rfl,rfl,by simp⟩
  |[t],[u],_,hc=>exact hc 0 t u rfl rfl
  |t1::t2::ts,u1::u2::us,hl,hc=>exact⟨(u1::u2::us).toArray,by simp,by simpa using hl,fun j t u ht hu=>hc j t u ht (by simpa using hu)⟩
 obtain⟨v,hv,hvr⟩:=hres
 have key:a'.defers=[]/\∃v,(results fn a'.tmps).run P w'=.ok v w'/\∃(y:X) (v2:Value) (N:Nat->Prop) (T':Nat->Value),J y/\Ending.returned v=.returned v2/\Kept (ownB T objs w) w w'/\
   (∀c,N c->¬ownB T objs w c/\c<w'.heap.size)/\Xa (fun c=>F c\/N c) T' w' (r y) v2/\
   HeapRel w (ownB T objs w) (fun _=>none) (fun c=>F c\/N c) T' (objs' y) w'/\∀n cs,lkp objs n=some (.box cs)->T' n=T n:=by
  refine⟨hr2.defers,v,hv,y,v,fun c=>F2 c/\¬ownB T objs w c,γ2,hΦ,rfl,hr2.heap.below,fun c hc=>⟨hc.2,hr2.heap.fsz c hc.1⟩,by rw[hry];exact hvr.mono hFF fun _ _=>rfl,?_,fun n cs hl=>?_⟩
  .rw[hEq];exact(hr2.heap.less hobjs).nopin
  exact(hr2.heap.pin n (T n) (by simp only[π0,hl])).2
 rcases he with rfl|rfl
 .exact key
 exact key
def X23:RV->Option (FuncId×List TV)
 | .v (.one (.fn f caps))=>some (f,caps.map fun p=>.one (.at_ p.1 p.2))
 | .v (.one (.c (.fn f ds)))=>some (f,ds.map fun d=>.one (.c d))
 |_=>none
theorem Zx {x:RV} {f:FuncId} {es:List TV} {v:Value} (h:X23 x=some (f,es)) (hr:Xa F T w x v):
  ∃us:List Value,v=.func (.func f) #[] us.toArray/\us.length=es.length/\∀(j:Nat) t u,es[j]? =some t->us[j]? =some u->XI F T w t u:=by
 unfold X23 at h;split at h
 .cases h;obtain⟨vs,rfl,hl,hc⟩:=hr;refine⟨vs,rfl,by simp[hl],fun j t u ht hu=>?_⟩;rw[Np]at ht;simp only[N8]at ht;obtain⟨p,hp,rfl⟩:=ht;exact hc j p u hp hu
 .rename_i f ds;cases h;have hr':CRel F w (.fn f ds) v:=hr;cases hr' with
  | fn _ _ vs hl hc=>
    refine⟨vs,rfl,by simp[hl],fun j t u ht hu=>?_⟩;rw[Np]at ht;simp only[N8]at ht;obtain⟨d,hd,rfl⟩:=ht;exact hc j d u hd hu
 cases h
def catT (ts:List TV):List TV->List TV
 |[]=>ts
 |e::es=>ts++e::es
theorem Xbn (ts es:List TV):catT ts es=ts++es:=by
 cases es<;>simp[catT]
def gOfN (s:HS) (o:Oper):Option (FuncId×List TV×Nat):=
 match o.guard,o.op,o.dst with
 | none,.call {callee:=.value x,args:=args, .. },some d=>match X23 (opd s.regs x),X1Q (opd s.regs) args.toList with
   |some (f,es),some ts=>if XP s (some d)=true then some (f,catT ts es,d)else none
   |_,_=>none
 |_,_,_=>none
def pvOK (pv:Option Value) (s:HS) (Y:Nat->Nat):Prop:=pv=none\/(s.nt.pv=pv/\Y 1000000=1000000)
theorem XbB {X:Type} {s:HS} {a:Act} {ops:Array Oper} {i:Nat} {o:Oper} {f:FuncId} {d:Nat} {pv:Option Value} {objs:List (Nat×Ob)} {args:List TV} {Y I:Nat->Nat} {J:X->Prop} {r:X->RV} {objs':X->List (Nat×Ob)} {Kc:Act->World->Prop} {Q:Exit->Act->World->Prop} (hi:ops[i]? =some o) (h:Rel w0 B U F T s a w)
  (hc:gOfN s o=some (f,args.map (TV.ren Y []),d)) (hp:pvOK pv s Y) (hd0:HandS Y I objs [] s) (hd:∀y,J y->HandS Y I objs (objs' y) s) (hcon:Z7 P f pv objs args J r objs') (hout:∀y,J y->X38 ((objs' y).map (·.1)) (r y)=true)
  (hK:∀y,J y->∀F' γ2 a' w',(∀b,F b->F' b)->(∀b,F' b->F b\/¬B b)->Rel w0 B U F' γ2 (({s with objs:=XJ I (objs' y) (XU (objs.map fun p=>Y p.1) s.objs)}:HS).put (some d) ((r y).ren I [])) a' w'->Kc a' w'):wpOp P ops Q i Kc a w:=by
 have hpg:∀v,pv=some v->T (Y 1000000)=v:=by
  intro v hv;rcases hp with h1|⟨h1,h2⟩
  .rw[h1]at hv;cases hv
  rw[h2];exact(h.heap.pin 1000000 v (h.nt.2 v (h1.trans hv))).2
 unfold gOfN at hc;split at hc
 .rename_i x as0 ts0 d0 hgd ho hdst;split at hc
  .rename_i f0 es0 ts hf hts;split at hc
   .rename_i hokd;simp only[Option.some.injEq,Prod.mk.injEq]at hc;obtain⟨rfl,hca,rfl⟩:=hc;obtain⟨hcall,hcon⟩:=hcon;obtain⟨cvs,hv,hcl,hcc⟩:=Zx hf (h.opd x);have hv':a.eval x=.func (.func f0) #[] cvs.toArray:=hv
    have hrun:(execOp a.eval o).run P w=.ok (.enter f0 (as0.map a.eval++cvs.toArray)) w:=by
     unfold Q5 at hcall;split at hcall
     .rename_i fn hfn;simp only[N4,Nw]at hcall;have hnm:¬fn.name= "runtime.NumGoroutine" :=by simpa using hcall.1
      have hnb:¬fn.body=none:=by
       intro hb;rw[hb]at hcall;cases hcall.2
      simp[execOp,ho,resolve,hv',Deferred.ofValue,invoke,callFunc,hfn,hnm,hnb]
     cases hcall
    unfold wpOp;rw[hi];simp only;have hwant:Region.wanted o (yielded ops a.tmps)=true:=by unfold Region.wanted;rw[hgd]
    rw[hwant];simp only[Nf];refine .inl ?_;unfold Oper.wp;rw[hrun,Oper.upon_enter];obtain⟨hlen,hget⟩:=X2C hts;rw[Xbn]at hca;have hsz:(as0.map a.eval).size=ts.length:=by rw[Array.size_map,hlen,Array.length_toList]
    refine(hcon F (fun n=>T (Y n)) w (as0.map a.eval++cvs.toArray) (hd0.heap h.heap) hpg ?_ fun j t u ht hu=>?_).mono ?_
    .have:=congrArg List.length hca;simp only[N9,NO]at this;simp only[Array.size_append,hsz,List.size_toArray];omega
    .have key:XI F T w (t.ren Y []) u:=by
      have hm:(ts++es0)[j]? =some (t.ren Y []):=by rw[hca];simp[ht]
      by_cases hj:j<ts.length
      .rw[Ns hj]at hm;rw[D5 (by omega)]at hu;obtain⟨y,hy,hgy⟩:=hget j _ hm
       have hu':u=a.eval y:=by
        rw[Array.getElem?_map,<-Array.getElem?_toList,hy]at hu;exact(Option.some.inj hu).symm
       rw[hu'];have:=h.opd y;rw[hgy]at this;exact this
      rw[Nn (D6 hj)]at hm;rw[Array.getElem?_append_right (by omega),hsz]at hu;exact hcc _ _ u hm (by simpa using hu)
     refine XI.ren (Y:=Y) (nils:=[]) (fun n _=>rfl) (fun n hn=>by cases hn) ?_ key;cases t with
     |one x=>exact X0S x
     |agg xs=>simp only[TV.okNil,Nm];exact fun x _=>X0S x
    rintro x w' ⟨y,v,N,T',hΦ,rfl,hk,hN,hr,hh,hbx⟩;obtain⟨h1,h2,γ2,h3,h5,h4⟩:=(hd y hΦ).after h.heap hk hN hh hbx;refine hK y hΦ (fun c=>F c\/N c) γ2 _ _ (fun _ h=>.inl h) (fun c hc=>hc.imp id fun hc=>h1 c hc) ?_;rw[hdst];exact h.step (objs':=XJ I (objs' y) (XU (objs.map fun p=>Y p.1) s.objs)) hokd h3 (rv_out h5 (hout y hΦ) hr) fun k r v hl hr=>Xa.agree (h4 r ⟨k,hl⟩) (hr.mono (fun _ h=>.inl h) h2)
   cases hc
  cases hc
 cases hc
abbrev tupN (k:Value) (v:CD):RV:=.tup [.one (.c (.lit (.bool true))),.one (.c (.lit k)),.one (.c v)]
theorem XaE {s:HS} {a:Act} {ops:Array Oper} {i:Nat} {o:Oper} {x:Operand} {d n:Nat} {l:List (Value×CD)} {seen:List Nat} {Kc:Act->World->Prop} {Q:Exit->Act->World->Prop} (hi:ops[i]? =some o) (h:Rel w0 B U F T s a w)
  (hgd:o.guard=none) (ho:o.op=.next x false) (hdst:o.dst=some d) (hx:opd s.regs x=.v (.one (.at_ n 0))) (hl:lkp s.objs n=some (.it l seen)) (hok:XP s (some d)=true)
  (hmore:∀(j:Nat) k v,l[j]? =some (k,v)->j∉seen->∀a' w',Rel w0 B U F T (({s with objs:=ins n (.it l (seen++[j])) s.objs}:HS).put (some d) (tupN k v)) a' w'->Kc a' w')
  (hdone:(∀j:Nat,j<l.length->j∈seen)->∀a' w',Rel w0 B U F T (s.put (some d) (.tup [.one (.c (.lit (.bool false)))])) a' w'->Kc a' w'):wpOp P ops Q i Kc a w:=by
 have hxv:=h.opd x;rw[hx]at hxv;obtain⟨b,hγ,hv⟩:=hxv;obtain⟨b',hγ',hB,hit⟩:=h.heap.ob n _ hl;rw[hγ]at hγ';cases hγ';have hBn:Blk (T n) b:=by rw[hγ];rfl
 unfold wpOp;rw[hi];simp only;have hwant:Region.wanted o (yielded ops a.tmps)=true:=by unfold Region.wanted;rw[hgd]
 rw[hwant];simp only[Nf];refine .inl ?_;unfold Oper.wp
 have hfalse:Xa F T w (.tup [.one (.c (.lit (.bool false)))]) (.tuple #[.bool false]):=
  ⟨#[.bool false],rfl,rfl,fun j t u ht hu=>by
   match j with
   |0=>cases ht;cases hu;exact CRel.lit _
   |j+1=>simp at ht⟩
 have hput:∀v w',(Instr.next (.pointer (some ⟨b,0,none⟩)) false o.type).run P w=.ok v w'->Kc (a.put (some d) v) w'->o.upon P a Kc Q ((execOp a.eval o).run P w):=by
  intro v w' hrun hk;have hv':a.eval x=.pointer (some ⟨b,0,none⟩):=hv;simp[execOp,ho,hv',hrun,Result.andThen];rw[Oper.upon_value,hdst];exact hk
 have hrelF:∀{w2:World},w2=w->Rel w0 B U F T (s.put (some d) (.tup [.one (.c (.lit (.bool false)))])) (a.put (some d) (.tuple #[.bool false])) w2:=by
  rintro _ rfl;exact h.step (dst:=some d) (objs':=s.objs) hok h.heap hfalse fun _ _ _ _ h=>h
 rcases hit with⟨rfl,hhp⟩|⟨m,es,clock,sn,hhp,hFm,hhm,hk,⟨hp1,hp2⟩,X9i,hsn⟩
 .refine hput (.tuple #[.bool false]) w ?_ (hdone (fun j hj=>absurd hj (Dy j)) _ _ (hrelF rfl));simp only[Instr.next,getObj,Sem.run_bind,Sem.run,hhp,Result.andThen];rfl
 have hne:b≠m:=fun e=>h.heap.apart n _ hl b hBn (e▸hFm);have hlen:es.size=l.length:=by have:=congrArg List.length hk;simpa using this
 have hinj:∀(i j:Nat) (x y:MapEntry),es[i]? =some x->es[j]? =some y->x.born=y.born->i=j:=by
  intro i j x y hx hy hxy;rw[List.pairwise_iff_getElem]at hp1;obtain⟨hi,rfl⟩:=NM.1 hx;obtain⟨hj,rfl⟩:=NM.1 hy;rcases Nat.lt_trichotomy i j with h|h|h
  .have:=hp1 i j (by simpa using hi) (by simpa using hj) h;simp only[Array.getElem_toList]at this;omega
  .exact h
  have:=hp1 j i (by simpa using hj) (by simpa using hi) h;simp only[Array.getElem_toList]at this;omega
 have hseen:∀(j:Nat) (e:MapEntry),es[j]? =some e->(sn.contains e.born=true↔j∈seen):=by
  intro j e he;have h1:sn.contains e.born=true↔e.born∈sn.toList:=by simp
  rw[h1,hsn,List.mem_filterMap];constructor
  .rintro⟨j',hj',he'⟩;cases hx:es[j']? with
   |none=>rw[hx]at he';cases he'
   | some e2=>
     rw[hx]at he';have:=hinj j' j e2 e hx he (by simpa using he');exact this▸hj'
  intro hj;exact⟨j,hj,by rw[he];rfl⟩
 rcases run_next_at (P:=P) w o.type b m clock clock sn es clock hhp hhm hp2 (NK _)with⟨h0,hrun⟩|⟨e,he,w1,hal,hrun⟩
 .refine hput _ w hrun (hdone (fun j hj=>?_) _ _ (hrelF rfl));obtain⟨e,he⟩:∃e,es[j]? =some e:=⟨es[j]'(by omega),NC (by omega)⟩;refine(hseen j e he).1 ?_;refine Classical.byContradiction fun hc=>?_;have:e∈leftOf es sn:=Array.mem_filter.2 ⟨Array.mem_of_getElem? he,by simpa using hc⟩;have h2:=Array.size_pos_of_mem this;omega
 obtain⟨hem,hes⟩:=mem_left he;obtain⟨j,hj⟩:=Array.mem_iff_getElem?.1 (Array.mem_toList_iff.1 hem);have hjs:j<l.length:=by rw[<-hlen];exact(NM.1 hj).1
 obtain⟨⟨k,v⟩,hkv⟩:∃p,l[j]? =some p:=⟨l[j],NA hjs⟩
 have hkk:e.key=k:=by
  have:=congrArg (·[j]?) hk;simp only[Np,D8,hj,hkv,Option.map_some,Option.some.injEq]at this;exact this
 have hns:j∉seen:=fun hm=>by have:=(hseen j e hj).2 hm;rw[hes]at this;cases this
 have hr1:w1.heap[b]? =some (.mapIter (some m) clock sn clock):=by rcases hal with rfl|rfl<;>exact hhp
 have hset:=MapKept.heap_set (o':=.mapIter (some m) clock (sn.push e.born) clock) hr1;have hw1:∀c:Nat,w1.heap[c]? =w.heap[c]? :=by rcases hal with rfl|rfl<;>exact fun _=>rfl
 have hkeep:∀c:Nat,c≠b->(setBlock w1 b (.mapIter (some m) clock (sn.push e.born) clock)).heap[c]? =w.heap[c]? :=fun c hc=>(hset.2 c hc).trans (hw1 c);have hFk:∀c:Nat,F c->(setBlock w1 b (.mapIter (some m) clock (sn.push e.born) clock)).heap[c]? =w.heap[c]? :=fun c hc=>hkeep c fun e'=>h.heap.apart n _ hl b hBn (e'▸hc);have hsz:w.heap.size<=(setBlock w1 b (.mapIter (some m) clock (sn.push e.born) clock)).heap.size:=by rcases hal with rfl|rfl<;>simp[setBlock]
 have hkp:Kept B w0 (setBlock w1 b (.mapIter (some m) clock (sn.push e.born) clock)):=by
  refine⟨?_,?_,?_,Dx h.heap.below.size hsz,fun c hc=>(hkeep c fun e'=>hB (e'▸hc)).trans (h.heap.below.block c hc)⟩
  .rcases hal with rfl|rfl<;>exact h.heap.below.os
  .rcases hal with rfl|rfl<;>exact h.heap.below.tape
  rcases hal with rfl|rfl<;>exact h.heap.below.output
 refine hput _ _ hrun (hmore j k v hkv hns _ _ ?_);refine h.step (dst:=some d) hok (F':=F) (T':=T) (h.heap.wrote hl (b:=b) hBn hkp hsz (fun c _ hne=>hkeep c hne) ?_) ?_ fun k r v hl hr=>hr.mono (fun _ h=>h) hFk
 .rw[hγ];refine⟨b,rfl,hB,.inr ⟨m,es,clock,sn.push e.born,hset.1,hFm,(hFk m hFm).trans hhm,hk,⟨hp1,hp2⟩,fun j k d e h1 h2=>(X9i j k d e h1 h2).mono (fun _ h=>h) hFk,?_⟩⟩;rw[Array.toList_push,hsn,List.filterMap_append];simp[hj]
 refine⟨#[.bool true,e.key,e.val],rfl,rfl,fun q t u ht hu=>?_⟩
 match q with
 |0=>cases ht;cases hu;exact CRel.lit _
 |1=>cases ht;cases hu;rw[hkk];exact CRel.lit _
 |2=>cases ht;cases hu;exact(X9i j k v e hkv hj).mono (fun _ h=>h) hFk
 |q+3=>simp at ht
def QF (P:Program) (ops:Array Oper) (k m:Nat) (s:HS) (M:HS->Prop):Prop:=
 ∀(w0:World) (B:Nat->Prop) (U:Nat->Option Value) (F:Nat->Prop) (T:Nat->Value) (a:Act) (w:World) (Q:Exit->Act->World->Prop) (Xr:List Nat),Rel w0 B U F T s a w->
  (∀s' F' T' a' w',M s'->(∀b,F b->F' b)->(∀b,F' b->F b\/¬B b)->Rel w0 B U F' T' s' a' w'->wpOps P ops Q Xr a' w')->wpOps P ops Q (List.range' k m++Xr) a w
inductive RunsN (P:Program) (ops:Array Oper):List Oper->HS->(HS->Prop)->Prop
 |many {l:List Oper} {s:HS} {K:HS->Prop} {M:HS->Prop} (m:Nat):(∀k,(∀(j:Nat) o,(l.take m)[j]? =some o->ops[k+j]? =some o)->QF P ops k (l.take m).length s M)->(∀s',M s'->RunsN P ops (l.drop m) s' K)->RunsN P ops l s K
 |done {l:List Oper} {s:HS} {K:HS->Prop}:wpR P ops l s K->RunsN P ops l s K
 |cut {l:List Oper} {s s1 s2:HS} {K:HS->Prop} (k:Nat):wpR P ops (l.take k) s (fun t=>t=s1)->le s1 s2->RunsN P ops (l.drop k) s2 K->RunsN P ops l s K
 | call {l:List Oper} {o:Oper} {s:HS} {K:HS->Prop} {X:Type} {f:FuncId} {d:Nat} {pv:Option Value} {objs:List (Nat×Ob)} {args:List TV} (Y I:Nat->Nat) {J:X->Prop} {r:X->RV} {objs':X->List (Nat×Ob)}:gOfN s o=some (f,args.map (TV.ren Y []),d)->pvOK pv s Y->HandS Y I objs [] s->
   (∀y,J y->HandS Y I objs (objs' y) s)->Z7 P f pv objs args J r objs'->(∀y,J y->X38 ((objs' y).map (·.1)) (r y)=true)->
   (∀y,J y->RunsN P ops l (({s with objs:=XJ I (objs' y) (XU (objs.map fun p=>Y p.1) s.objs)}:HS).put (some d) ((r y).ren I [])) K)->RunsN P ops (o::l) s K
 |callF {l:List Oper} {o:Oper} {s:HS} {K:HS->Prop} {M:HS->Prop}:o.guard=none->callF P s (opd s.regs) o (fun d r ob=>M ((s.made d ob).put (some d) r))->(∀s',M s'->RunsN P ops l s' K)->RunsN P ops (o::l) s K
 |skip {l:List Oper} {o:Oper} {s:HS} {K:HS->Prop} (y:Value):Zi ops o s=some false->XP s o.dst=true->RunsN P ops l (s.put o.dst (.v (.one (.gd false (.c (.lit y)))))) K->RunsN P ops (o::l) s K
 | next {l:List Oper} {o:Oper} {s:HS} {K:HS->Prop} {x:Operand} {d n:Nat} {li:List (Value×CD)} {seen:List Nat}:o.guard=none->o.op=.next x false->o.dst=some d->opd s.regs x=.v (.one (.at_ n 0))->lkp s.objs n=some (.it li seen)->XP s (some d)=true->
   (∀(j:Nat) k v,li[j]? =some (k,v)->j∉seen->RunsN P ops l (({s with objs:=ins n (.it li (seen++[j])) s.objs}:HS).put (some d) (tupN k v)) K)->
   ((∀j:Nat,j<li.length->j∈seen)->RunsN P ops l (s.put (some d) (.tup [.one (.c (.lit (.bool false)))])) K)->RunsN P ops (o::l) s K
theorem XcH {ops:Array Oper} {K:HS->Prop} {Q:Exit->Act->World->Prop} {l:List Oper} {s:HS} (h:RunsN P ops l s K):∀(Xr:List Nat) (k:Nat) (F:Nat->Prop) (T:Nat->Value) (a:Act) (w:World),(∀j o,l[j]? =some o->ops[k+j]? =some o)->
  Rel w0 B U F T s a w->(∀s' F' T' a' w',K s'->(∀b,F b->F' b)->(∀b,F' b->F b\/¬B b)->Rel w0 B U F' T' s' a' w'->wpOps P ops Q Xr a' w')->wpOps P ops Q (List.range' k l.length++Xr) a w:=by
 induction h with
 |done hw=>exact fun Xr k F T a w hd hr hK=>Zo _ k _ F T a w hd hr hw hK
 | many m hm _ ih=>
   intro Xr k F T a w hd hr hK;rename_i l s K' M _;have hl:l.length=(l.take m).length+(l.drop m).length:=by rw[<-List.length_append,List.take_append_drop]
   rw[hl,X4c,Df];refine hm k (fun j o hj=>?_) w0 B U F T a w Q _ hr fun s' F2 γ2 a2 w2 hM h3 h4 hr2=>?_
   .rw[NE]at hj;split at hj
    .exact hd j o hj
    cases hj
   refine ih s' hM Xr (k+(l.take m).length) F2 γ2 a2 w2 (fun j o hj=>?_) hr2 fun s3 F3 γ3 a3 w3 hk3 h5 h6 hr3=>?_
   .rw[Ny]at hj;have hlt:m+j<l.length:=(N5.1 hj).1;have:=hd (m+j) o hj;rw[NG,Nat.min_eq_left (by omega),DI];exact this
   exact hK s3 F3 γ3 a3 w3 hk3 (fun b hb=>h5 b (h3 b hb)) (fun b hb=>(h6 b hb).elim (h4 b) .inr) hr3
 | cut n hw hle _ ih=>
   intro Xr k F T a w hd hr hK;rename_i l s s1 s2 K' _;have hl:l.length=(l.take n).length+(l.drop n).length:=by rw[<-List.length_append,List.take_append_drop]
   rw[hl,X4c,Df];refine Zo (l.take n) k s F T a w (fun j o hj=>?_) hr hw fun s' F1 γ1 a1 w1 hs' h1 h2 hr1=>?_
   .rw[NE]at hj;split at hj
    .exact hd j o hj
    cases hj
   subst hs';obtain⟨F2,γ2,h3,h4,hr2⟩:=hle w0 B U F1 γ1 a1 w1 hr1;refine ih Xr (k+(l.take n).length) F2 γ2 a1 w1 (fun j o hj=>?_) hr2 fun s3 F3 γ3 a3 w3 hk3 h5 h6 hr3=>?_
   .rw[Ny]at hj;have hlt:n+j<l.length:=(N5.1 hj).1;have:=hd (n+j) o hj;rw[NG,Nat.min_eq_left (by omega),DI];exact this
   exact hK s3 F3 γ3 a3 w3 hk3 (fun b hb=>h5 b (h3 b (h1 b hb))) (fun b hb=>(h6 b hb).elim (fun hb=>(h4 b hb).elim (h2 b) .inr) .inr) hr3
 | call Y I hg hp hd0 hd hcon honly _ ih=>
   intro Xr k F T a w hdd hr hK;rw[List.length_cons,List.range'_succ,List.cons_append,wpOps_cons];have hi:=hdd 0 _ rfl;refine XbB hi hr hg hp hd0 hd hcon honly fun y hy F2 γ2 a2 w2 h3 h4 hr2=>?_;refine ih y hy Xr (k+1) F2 γ2 a2 w2 (fun j o' hj=>by have:=hdd (j+1) o' hj;rwa [show k+1+j=k+(j+1) by omega]) hr2 fun s3 F3 γ3 a3 w3 hk3 h5 h6 hr3=>?_;exact hK s3 F3 γ3 a3 w3 hk3 (fun b hb=>h5 b (h3 b hb)) (fun b hb=>(h6 b hb).elim (h4 b) .inr) hr3
 | callF hgd hc _ ih=>
   intro Xr k F T a w hdd hr hK;rw[List.length_cons,List.range'_succ,List.cons_append,wpOps_cons];have hi:=hdd 0 _ rfl;refine callF_wp hi hr hgd hc fun s' F2 γ2 a2 w2 hm h3 h4 hr2=>?_;refine ih s' hm Xr (k+1) F2 γ2 a2 w2 (fun j o' hj=>by have:=hdd (j+1) o' hj;rwa [show k+1+j=k+(j+1) by omega]) hr2 fun s3 F3 γ3 a3 w3 hk3 h5 h6 hr3=>?_;exact hK s3 F3 γ3 a3 w3 hk3 (fun b hb=>h5 b (h3 b hb)) (fun b hb=>(h6 b hb).elim (h4 b) .inr) hr3
 | skip y hg hok _ ih=>
   intro Xr k F T a w hdd hr hK;rw[List.length_cons,List.range'_succ,List.cons_append,wpOps_cons];have hi:=hdd 0 _ rfl;refine skipS y hi hr hg hok fun a2 hr2=>?_;exact ih Xr (k+1) F T a2 w (fun j o' hj=>by have:=hdd (j+1) o' hj;rwa [show k+1+j=k+(j+1) by omega]) hr2 hK
 | next hgd ho hdst hx hl hok _ _ ih1 ih2=>
   intro Xr k F T a w hdd hr hK;rw[List.length_cons,List.range'_succ,List.cons_append,wpOps_cons];have hi:=hdd 0 _ rfl;refine XaE hi hr hgd ho hdst hx hl hok (fun j key v hj hn a' w' hr2=>?_) fun hall a' w' hr2=>?_
   .exact ih1 j key v hj hn Xr (k+1) F T a' w' (fun j o' hj=>by have:=hdd (j+1) o' hj;rwa [show k+1+j=k+(j+1) by omega]) hr2 hK
   exact ih2 hall Xr (k+1) F T a' w' (fun j o' hj=>by have:=hdd (j+1) o' hj;rwa [show k+1+j=k+(j+1) by omega]) hr2 hK
theorem Xw {id:Nat} {ops:Array Oper} {s:HS} {Q:Exit->HS->Prop} (h:RunsN P ops ops.toList s (Q .normal)):HT P (.region id ops false) s Q:=by
 intro w0 B U F T a w hr;refine wp_region ?_
 have:=XcH (w0:=w0) (B:=B) (U:=U) (Q:=fun e a' w'=>∃(s':HS) (F':Nat->Prop) (T':Nat->Value),Q e s'/\(∀b,F b->F' b)/\(∀b,F' b->F b\/¬B b)/\Rel w0 B U F' T' s' a' w') h [] 0 F T a w (by simp) hr
  fun s' F' T' a' w' hk h1 h2 h3=>⟨s',F',T',hk,h1,h2,h3⟩
 rw[List.range_eq_range'];simpa using this
theorem RunsN.cutE {ops:Array Oper} {l:List Oper} {s s1 s2:HS} {p:Prop} {K:HS->Prop} (k:Nat) (cs:List CR) (h:evc P ops (l.take k) s cs=some (s1,p)) (hp:p) (hle:le s1 s2) (hr:RunsN P ops (l.drop k) s2 K):RunsN P ops l s K:=
 .cut k (QZ _ _ _ _ _ h hp rfl) hle hr
theorem RunsN.doneE {ops:Array Oper} {l:List Oper} {s s1:HS} {p:Prop} {K:HS->Prop} (cs:List CR) (h:evc P ops l s cs=some (s1,p)) (hp:p) (hq:K s1):RunsN P ops l s K:=
 .done (QZ _ _ _ _ _ h hp hq)
def pnC (v:Value) (x y:CV):Prop:=x=y\/(x=.at_ 1000000 0/\y=.c (.lit v))\/(x=.c (.lit v)/\y=.at_ 1000000 0)
def pnL (v:Value):List CV->List CV->Prop
 |[],[]=>True
 |x::xs,y::ys=>pnC v x y/\pnL v xs ys
 |_,_=>False
def pnO (v:Value):Ob->Ob->Prop
 | .box xs,o=>∃ys,o=.box ys/\pnL v xs ys
 |o,o'=>o=o'
def pnR (v:Value):RV->RV->Prop
 | .v (.one x),r=>∃y,r=.v (.one y)/\pnC v x y
 |r,r'=>r=r'
theorem X7i {v u:Value} {x y:CV} {b:Nat} (hγ:T 1000000=v) (hb:v=.pointer (some ⟨b,0,none⟩)) (h:pnC v x y) (hr:Xs F T w x u):Xs F T w y u:=by
 rcases h with rfl|⟨rfl,rfl⟩|⟨rfl,rfl⟩
 .exact hr
 .obtain⟨b',h1,h2⟩:=hr;rw[hγ]at h1;have:u=v:=by rw[h2,h1]
  subst this;exact CRel.lit _
 cases hr;exact⟨b,by rw[hγ,hb],hb⟩
theorem X86 {v:Value} {b:Nat} (hγ:T 1000000=v) (hb:v=.pointer (some ⟨b,0,none⟩)):∀{xs ys:List CV} {us:List Value},pnL v xs ys->(∀(j:Nat) x u,xs[j]? =some x->us[j]? =some u->Xs F T w x u)->ys.length=xs.length/\∀(j:Nat) y u,ys[j]? =some y->us[j]? =some u->Xs F T w y u
 |[],[],us,_,_=>⟨rfl,fun j y u h=>by simp at h⟩
 |x::xs,y::ys,[],h,hr=>⟨by have:=(X86 hγ hb (us:=[]) h.2 (fun j x u _ h=>by simp at h)).1;simp[this],fun j y u _ h=>by simp at h⟩
 | x::xs,y::ys,u::us,h,hr=>by
   obtain⟨h1,h2⟩:=X86 hγ hb (us:=us) h.2 fun j x u hx hu=>hr (j+1) x u hx hu;refine⟨by simp[h1],fun j z u' hz hu=>?_⟩
   match j with
   |0=>cases hz;cases hu;exact X7i hγ hb h.1 (hr 0 x u rfl rfl)
   |j+1=>exact h2 j z u' hz hu
 |[],_::_,_,h,_=>h.elim
 |_::_,[],_,h,_=>h.elim
theorem XaU {x y:HS} {v:Value} {cs:List CV} (hv:x.nt.pv=some v) (hbx:lkp x.objs 1000000=some (.box cs)) (hn:y.nt=x.nt) (hr:WY (fun k r=>∃r0,lkp x.regs k=some r0/\pnR v r0 r) y.regs) (ho:WY (fun n o=>∃o0,lkp x.objs n=some o0/\pnO v o0 o) y.objs):le x y:=by
 intro w0 B U F T a w h;have hγ:T 1000000=v:=(h.heap.pin 1000000 v (h.nt.2 v hv)).2;obtain⟨b,e,vs,hb,_⟩:=h.heap.ob 1000000 _ hbx;rw[hγ]at hb
 have hO:∀n o,lkp y.objs n=some o->∃o0,lkp x.objs n=some o0/\(Q0 F T w B (T n) o0->Q0 F T w B (T n) o):=by
  intro n o hl;obtain⟨o0,h1,h2⟩:=Z0 ho n o (XC hl);refine⟨o0,h1,fun h3=>?_⟩;cases o0 with
  | box xs=>
    obtain⟨ys,rfl,h4⟩:=h2;obtain⟨b',e',us,h5,h6,h7,h8,h9⟩:=h3;obtain⟨h10,h11⟩:=X86 hγ hb (us:=us.toList) h4 fun j x u hx hu=>h9 j x u hx (by simpa using hu);exact⟨b',e',us,h5,h6,h7,by rw[h8,h10],fun j z u hz hu=>h11 j z u hz (by simpa using hu)⟩
  |row _ _ _=>cases h2;exact h3
  |mp _=>cases h2;exact h3
  |mat _ _ _ _=>cases h2;exact h3
  |refs _ _=>cases h2;exact h3
  |mps _ _=>cases h2;exact h3
  |it _ _=>cases h2;exact h3
 refine⟨F,T,fun _ h=>h,fun _ h=>.inl h,⟨?_,h.defers,by rw[hn];exact h.nt,fun k r hl=>?_⟩⟩
 .exact {
   below:=h.heap.below
   hB:=h.heap.hB
   fsz:=h.heap.fsz
   ob:=fun n o hl=>by obtain⟨o0,h1,h2⟩:=hO n o hl;exact h2 (h.heap.ob n o0 h1)
   apart:=fun n o hl=>by obtain⟨o0,h1,_⟩:=hO n o hl;exact h.heap.apart n o0 h1
   sep:=fun n m on om hn hm=>by obtain⟨o1,h1,_⟩:=hO n on hn;obtain⟨o2,h2,_⟩:=hO m om hm;exact h.heap.sep n m o1 o2 h1 h2
   pin:=h.heap.pin}
 obtain⟨r0,h1,h2⟩:=Z0 hr k r (XC hl);have h3:=h.regs k r0 h1
 match r0,h2,h3 with
 | .v (.one z),h2,h3=>obtain⟨y,rfl,h4⟩:=h2;exact X7i hγ hb h4 h3
 | .v (.agg zs),h2,h3=>cases h2;exact h3
 | .tup ts,h2,h3=>cases h2;exact h3
end
end Go.Hl
namespace Go.Hl
open Go Go.RowKit
def Q4 (P:Program) (ops:Array Oper) (i:Nat) (s:HS) (M:HS->Prop):Prop:=
 ∀(w0:World) (B:Nat->Prop) (U:Nat->Option Value) (F:Nat->Prop) (T:Nat->Value) (a:Act) (w:World) (Kc:Act->World->Prop) (Q:Exit->Act->World->Prop),Rel w0 B U F T s a w->
  (∀s' F' T' a' w',M s'->(∀b,F b->F' b)->(∀b,F' b->F b\/¬B b)->Rel w0 B U F' T' s' a' w'->Kc a' w')->wpOp P ops Q i Kc a w
section
variable {P:Program} {ops:Array Oper}
theorem Q4.ev {i:Nat} {o:Oper} {s s1:HS} {M:HS->Prop} {p:Prop} (cs:List CR) (ho:ops[i]? =some o) (h:evc P ops [o] s cs=some (s1,p)) (hp:p) (hm:M s1):Q4 P ops i s M:=by
 intro w0 B U F T a w Kc Q hr hK;refine X2N ho hr (QZ (K:=M) [o] s s1 cs p h hp hm) fun s' F' T' a' w' hw h1 h2 hr2=>?_;exact hK s' F' T' a' w' hw h1 h2 hr2
theorem Q4.mono {i:Nat} {s:HS} {M M':HS->Prop} (h:Q4 P ops i s M) (hm:∀u,M u->M' u):Q4 P ops i s M':=
 fun w0 B U F T a w Kc Q hr hK=>h w0 B U F T a w Kc Q hr fun s' F' T' a' w' hw=>hK s' F' T' a' w' (hm s' hw)
theorem Q4.le {i:Nat} {s:HS} {M M':HS->Prop} (h:Q4 P ops i s M) (hm:∀u,M u->∃t,le u t/\M' t):Q4 P ops i s M':=by
 intro w0 B U F T a w Kc Q hr hK;refine h w0 B U F T a w Kc Q hr fun s' F' T' a' w' hw h1 h2 hr2=>?_;obtain⟨t,hle,ht⟩:=hm s' hw;obtain⟨F2,γ2,h3,h4,hr3⟩:=hle w0 B U F' T' a' w' hr2;exact hK t F2 γ2 a' w' ht (fun b hb=>h3 b (h1 b hb)) (fun b hb=>(h4 b hb).elim (h2 b) .inr) hr3
theorem Q4.call {i:Nat} {o:Oper} {s:HS} {M:HS->Prop} {X:Type} {f:FuncId} {d:Nat} {pv:Option Value} {objs:List (Nat×Ob)} {args:List TV} (Y I:Nat->Nat) {J:X->Prop} {r:X->RV} {objs':X->List (Nat×Ob)} (ho:ops[i]? =some o)
  (hg:gOfN s o=some (f,args.map (TV.ren Y []),d)) (hp:pvOK pv s Y) (hd0:HandS Y I objs [] s) (hd:∀y,J y->HandS Y I objs (objs' y) s) (hcon:Z7 P f pv objs args J r objs') (hout:∀y,J y->X38 ((objs' y).map (·.1)) (r y)=true)
  (hm:∀y,J y->M (({s with objs:=XJ I (objs' y) (XU (objs.map fun p=>Y p.1) s.objs)}:HS).put (some d) ((r y).ren I []))):Q4 P ops i s M:=by
 intro w0 B U F T a w Kc Q hr hK;exact XbB ho hr hg hp hd0 hd hcon hout fun y hy F' T' a' w' h1 h2 hr2=>hK _ F' T' a' w' (hm y hy) h1 h2 hr2
def Zv (ops:Array Oper) (R:List Nat):List Nat:=
 R.filter fun i=>match ops[i]? with
  |some o=>o.after.toList.all fun e=> !Region.binds .any e|| !R.contains e.on
  |none=>false
def X5a (ops:Array Oper):Bool:=
 (List.range ops.size).all fun i=>match ops[i]? with
  |some o=>o.after.toList.all fun e=> !Region.binds .any e||decide (e.on<i)
  |none=>false
def Qv (R:List Nat) (i:Nat):List Nat:=R.filter fun j=>decide (j≠i)
def clB (ops:Array Oper) (cl:List (List Nat)):Bool:=
 cl.contains (List.range ops.size)&&cl.all fun R=>(Zv ops R).all fun i=>cl.contains (Qv R i)
theorem XcQ {w0:World} {B:Nat->Prop} {U:Nat->Option Value} {TR:List Nat->HS->Prop} {cl:List (List Nat)} {Q:Exit->Act->World->Prop} (hfw:X5a ops=true) (hcl:clB ops cl=true)
  (hstep:∀R∈cl,∀i∈Zv ops R,∀s,TR R s->Q4 P ops i s (TR (Qv R i))):
  ∀(fuel:Nat) (listed:Array Bool) (s:HS) (F:Nat->Prop) (T:Nat->Value) (a:Act) (w:World),listed.size=ops.size->Xr ops listed∈cl->(Xr ops listed).length<=fuel->TR (Xr ops listed) s->Rel w0 B U F T s a w->
  (∀s' F' T' a' w',TR [] s'->(∀b,F b->F' b)->(∀b,F' b->F b\/¬B b)->Rel w0 B U F' T' s' a' w'->Q .normal a' w')->wpAny P .any ops Q fuel listed a w:=by
 have hnr:∀listed:Array Bool,Xr ops listed=[]->Region.ready .any ops listed=[]:=by
  intro listed h0;refine List.eq_nil_iff_forall_not_mem.2 fun i hi=>?_;obtain⟨h1,h2,_⟩:=QI.1 hi;have:=XR.2 ⟨h1,h2⟩;rw[h0]at this;cases this
 have hrn:∀listed:Array Bool,listed.size=ops.size->Region.ready .any ops listed=[]->Xr ops listed=[]:=by
  intro listed hsz h0;cases hres:Xr ops listed with
  |nil=>rfl
  | cons i l=>
    have hi:i∈Xr ops listed:=by rw[hres];simp
    obtain⟨hlt,hun⟩:=XR.1 hi
    have:i∈Region.ready .any ops listed:=by
     refine QI.2 ⟨hlt,hun,ops[i],by simp[hlt],fun e he hb=>?_⟩
     have hon:e.on<i:=by
      unfold X5a at hfw;rw[Nm]at hfw;have h1:=hfw i (by simpa using hlt);rw[NC hlt]at h1;simp only[Nm]at h1;have h2:=h1 e (by simpa using he);simp only[hb,Bool.not_true,Bool.false_or,N6]at h2;exact h2
     have hnot:e.on∉Xr ops listed:=by
      intro hm;have hs:=Qo (ops:=ops) listed;rw[hres]at hs hm;rcases Nh.1 hm with e'|hm
      .omega
      have:=(NQ.1 hs).1 _ hm;omega
     rw[XR]at hnot;have hel:e.on<listed.size:=by omega
     rw[Nu,NC hel]at hnot⊢;simp only[Option.getD_some,not_and,Bool.not_eq_false]at hnot⊢;exact hnot (by omega)
    rw[h0]at this;cases this
 intro fuel
 induction fuel with
 | zero=>
   intro listed s F T a w hsz hin hlen ht hr hK;have h0:Xr ops listed=[]:=Nv (by omega);rw[h0]at ht;exact⟨hnr listed h0,hK s F T a w ht (fun _ h=>h) (fun _ h=>.inl h) hr⟩
 | succ fuel ih=>
   intro listed s F T a w hsz hin hlen ht hr hK;refine⟨fun h0=>?_,fun i hi=>?_⟩
   .rw[hrn listed hsz h0]at ht;exact hK s F T a w ht (fun _ h=>h) (fun _ h=>.inl h) hr
   obtain⟨hlt,hun,oi,hoi,hpre⟩:=QI.1 hi;have hir:i∈Xr ops listed:=XR.2 ⟨hlt,hun⟩;have hset:=X3w hsz hir
   have hir2:i∈Zv ops (Xr ops listed):=by
    refine NR.2 ⟨hir,?_⟩;rw[hoi];simp only[Nm,Nl,Nw];intro e he;cases hb:Region.binds .any e with
    |false=>exact .inl rfl
    | true=>
      refine .inr ?_;have h1:=hpre e (by simpa using he) hb;refine Bool.eq_false_iff.2 fun hc=>?_;have h2:=XR.1 (by simpa using hc:e.on∈Xr ops listed);have hel:e.on<listed.size:=by omega
      rw[Nu,NC hel]at h1;have h3:=h2.2;rw[Nu,NC hel]at h3;simp only[Option.getD_some]at h1 h3;rw[h1]at h3;cases h3
   have hm:Qv (Xr ops listed) i∈cl:=by
    unfold clB at hcl;simp only[N4,Nm]at hcl;simpa using hcl.2 _ hin i hir2
   refine hstep _ hin i hir2 s ht w0 B U F T a w _ Q hr fun s' F' T' a' w' hw h1 h2 hr2=>?_;refine ih (listed.setIfInBounds i true) s' F' T' a' w' (by simpa using hsz) (by rw[hset];exact hm) ?_ (by rw[hset];exact hw) hr2 fun s3 F3 γ3 a3 w3 hk h5 h6 hr3=>hK s3 F3 γ3 a3 w3 hk (fun b hb=>h5 b (h1 b hb)) (fun b hb=>(h6 b hb).elim (h2 b) .inr) hr3;obtain⟨x2,y2,g1,g2,_,_⟩:=X1y (Qo (ops:=ops) listed) hir;rw[hset,g2];rw[g1]at hlen;simp only[N9,List.length_cons]at hlen⊢;omega
theorem X8W {id:Nat} (TR:List Nat->HS->Prop) (cl:List (List Nat)) {s:HS} {Q:Exit->HS->Prop} (hm:P.follows .mixedOrders=true) (hfw:X5a ops=true) (hcl:clB ops cl=true)
  (hs:TR (List.range ops.size) s) (hstep:∀R∈cl,∀i∈Zv ops R,∀s,TR R s->Q4 P ops i s (TR (Qv R i))) (hq:∀s,TR [] s->Q .normal s):HT P (.region id ops true) s Q:=by
 intro w0 B U F T a w hr
 have hrest:Xr ops (Array.replicate ops.size false)=List.range ops.size:=by
  unfold Xr;refine DB.2 fun i hi=>?_;have:i<ops.size:=by simpa using hi
  simp[this]
 have hin:List.range ops.size∈cl:=by
  unfold clB at hcl;simp only[N4]at hcl;simpa using hcl.1
 refine wp_region_any hm (XcQ (P:=P) (ops:=ops) (w0:=w0) (B:=B) (U:=U) (TR:=TR) (cl:=cl) hfw hcl hstep ops.size (Array.replicate ops.size false) s F T a {w with drawn:=w.drawn+1} (by simp) (by rw[hrest];exact hin) (by rw[hrest];simp) (by rw[hrest];exact hs) ?_ fun s' F' T' a' w' hk h1 h2 h3=>⟨s',F',T',hq s' hk,h1,h2,h3⟩);exact⟨hr.heap.drew,hr.defers,hr.nt,fun k r hk=>(hr.regs k r hk).mono (w:=w) (w':={w with drawn:=w.drawn+1}) (fun _ h=>h) fun _ _=>rfl⟩
theorem Q4.evE {i:Nat} {o:Oper} {s t:HS} (ho:ops[i]? =some o) (h:evc P ops [o] s []=some (t,True)):Q4 P ops i s (fun u=>u=t):=.ev [] ho h trivial rfl
theorem Q4.evL {i:Nat} {o:Oper} {s t u:HS} (ho:ops[i]? =some o) (h:evc P ops [o] s []=some (t,True)) (hl:Hl.le t u):Q4 P ops i s (fun v=>v=u):=.le (.evE ho h) fun v hv=>⟨u,by rw[hv];exact hl,rfl⟩
theorem Q4.evN {i:Nat} {o:Oper} {R:List Nat} {nx:List Nat->HS} (nx':List Nat->HS) (ho:ops[i]? =some o) (h:evc P ops [o] (nx R) []=some (nx' (Qv R i),True)) (hl:Hl.le (nx' (Qv R i)) (nx (Qv R i))):
  Q4 P ops i (nx R) (fun u=>u=nx (Qv R i)):=.evL ho h hl
def stB (ops:Array Oper) (steps:List (List Nat×Nat)):Bool:=steps.all fun p=>(Zv ops p.1).all fun i=>steps.contains (p.1,i)
theorem X6F {id:Nat} (nx:List Nat->HS) (steps:List (List Nat×Nat)) {s:HS} {Q:Exit->HS->Prop} (hm:P.follows .mixedOrders=true) (hfw:X5a ops=true) (hcl:clB ops ([]::steps.map (·.1))=true) (hst:stB ops steps=true)
  (h0:s=nx (List.range ops.size)) (hstep:∀p∈steps,Q4 P ops p.2 (nx p.1) (fun u=>u=nx (Qv p.1 p.2))) (hq:Q .normal (nx [])):HT P (.region id ops true) s Q:=by
 refine X8W (fun R s=>s=nx R) ([]::steps.map (·.1)) hm hfw hcl h0 (fun R hR i hi u hu=>?_) fun u hu=>by rw[hu];exact hq
 subst hu;rcases Nh.1 hR with rfl|hR
 .simp[Zv]at hi
 obtain⟨p,hp,rfl⟩:=NF.1 hR;unfold stB at hst;simp only[Nm]at hst;have:=hst p hp i hi;exact hstep (p.1,i) (by simpa using this)
def trS (b:HS) (outs:List (Nat×Nat×RV)) (R:List Nat):HS:={b with regs:=outs.foldl (fun u m=>if R.contains m.1 then u else ins m.2.1 m.2.2 u) b.regs}
end
theorem Xbe {x:HS} {regs:List (Nat×RV)} (h:WY (fun k r=>∃r0 t,lkp x.regs k=some r0/\X22 x.objs r0=some t/\r=.v t) regs):le x ⟨x.nt,regs,[]⟩:=by
 intro w0 B U F T a w hr;refine⟨fun b=>F b\/X1Z T x.objs b,T,fun _ h=>.inl h,fun b hb=>?_,⟨hr.heap.below,hr.heap.hB,fun b hb=>?_,by simp[lkp],by simp[lkp],by simp[lkp],hr.heap.pin⟩,hr.defers,hr.nt,fun k r hk=>?_⟩
 .rcases hb with hb|⟨n,o,hl,hb⟩
  .exact .inl hb
  exact .inr ((hr.heap.ob n o hl).blk_lt hb).1
 .rcases hb with hb|⟨n,o,hl,hb⟩
  .exact hr.heap.fsz b hb
  exact((hr.heap.ob n o hl).blk_lt hb).2
 obtain⟨r0,t,h1,h2,rfl⟩:=Z0 h k r (XC hk);have h3:=X2M hr.heap h2 (hr.regs k r0 h1);show XI _ T w t _;unfold X22 at h2;split at h2
 .split at h2
  .rename_i y hy;cases h2;exact X5j hy h3
  cases h2
 .split at h2
  .rename_i ys hy;cases h2;obtain⟨vs,h4,hs,hc⟩:=h3;obtain⟨g1,g2⟩:=X0i hr.heap hy;refine⟨vs,h4,hs,fun j y u hyj hu=>?_⟩;obtain⟨x,hx,hb⟩:=g2 j y hyj;exact X5j hb (hc j y u hyj hu)
  cases h2
 cases h2
theorem Xbp {s:HS} {v:Value} {cs:List CV} (k:Nat) (x y:CV) (hv:s.nt.pv=some v) (hbx:lkp s.objs 1000000=some (.box cs)) (hk:lkp s.regs k=some (.v (.one x))) (hp:pnC v x y):le s {s with regs:=ins k (.v (.one y)) s.regs}:=by
 intro w0 B U F T a w h;have hγ:T 1000000=v:=(h.heap.pin 1000000 v (h.nt.2 v hv)).2;obtain⟨b,e,vs,hb,_⟩:=h.heap.ob 1000000 _ hbx;rw[hγ]at hb;refine⟨F,T,fun _ h=>h,fun _ h=>.inl h,h.heap,h.defers,h.nt,fun j r hj=>?_⟩;by_cases e1:j=k
 .subst e1;rw[XQ]at hj;simp only[Nf,Option.some.injEq]at hj;subst hj;exact X7i hγ hb hp (h.regs j _ hk)
 rw[Xz e1]at hj;exact h.regs j r hj
theorem X4F {s:HS} {v:Value} {cs:List CV} (k:Nat) (hv:s.nt.pv=some v) (hbx:lkp s.objs 1000000=some (.box cs)) (hk:lkp s.regs k=some (.v (.one (.c (.lit v))))):le s {s with regs:=ins k (.v (.one (.at_ 1000000 0))) s.regs}:=
 Xbp k _ _ hv hbx hk (.inr (.inr ⟨rfl,rfl⟩))
theorem X4p {s:HS} {v:Value} {cs:List CV} (k:Nat) (hv:s.nt.pv=some v) (hbx:lkp s.objs 1000000=some (.box cs)) (hk:lkp s.regs k=some (.v (.one (.at_ 1000000 0)))):le s {s with regs:=ins k (.v (.one (.c (.lit v)))) s.regs}:=
 Xbp k _ _ hv hbx hk (.inr (.inl ⟨rfl,rfl⟩))
theorem XbG {P:Program} {rs:List ResultVar} {s:HS} {r:RV} {d:Nat} {Q:Exit->HS->Prop} (hQ:(∃s2,le s s2/\RetOK P rs s2 false r none d)->Q .ret s) {regs:List (Nat×RV)} (hle:le s ⟨s.nt,regs,[]⟩) {ts:List TV} (hr:X34 P ⟨s.nt,regs,[]⟩ rs=some ts) (he:r=XL ts):HT P .ret s Q:=
 Qe (hQ ⟨_,hle,⟨ts,hr,he⟩,by simp,fun h=>by cases h⟩)
def Zd (n m:Nat):List Nat:=(List.range n).filter fun i=>decide (m/2 ^ i%2=1)
@[simp] theorem bits_mem (n m i:Nat):(i∈Zd n m)=(i<n/\m/2 ^ i%2=1):=by simp[Zd]
@[simp] theorem Qh (R:List Nat) (i j:Nat):(j∈Qv R i)=(j∈R/\j≠i):=by simp[Qv]
def X1C {T:Type} (p:T->Prop):List T->Prop
 |[]=>True
 |[x]=>p x
 |x::l=>p x/\X1C p l
theorem X1N {T:Type} {p:T->Prop}:∀{l:List T},X1C p l->∀x∈l,p x
 |[],_,x,h=>by cases h
 |[y],h,x,hx=>by rw[Nk.1 hx];exact h
 | y::z::l,h,x,hx=>by
   rcases Nh.1 hx with rfl|hx
   .exact h.1
   exact X1N h.2 x hx
def msB (ops:Array Oper) (n:Nat) (ms:List (Nat×List Nat)):Bool:=ms.all fun m=>(Zv ops (Zd n m.1)).all fun i=>m.2.contains i
theorem WQ {P:Program} {ops:Array Oper} {id:Nat} (nx:List Nat->HS) (n M:Nat) (ms:List (Nat×List Nat)) {s:HS} {Q:Exit->HS->Prop} (hm:P.follows .mixedOrders=true) (hfw:X5a ops=true) (hn:Zd n M=List.range ops.size) (hcl:clB ops ([]::ms.map fun m=>Zd n m.1)=true) (hst:msB ops n ms=true)
  (h0:s=nx (Zd n M)) (hstep:X1C (fun m=>X1C (fun i=>Q4 P ops i (nx (Zd n m.1)) (fun u=>u=nx (Qv (Zd n m.1) i))) m.2) ms) (hq:Q .normal (nx [])):HT P (.region id ops true) s Q:=by
 refine X8W (fun R s=>s=nx R) ([]::ms.map fun m=>Zd n m.1) hm hfw hcl (by rw[<-hn];exact h0) (fun R hR i hi u hu=>?_) fun u hu=>by rw[hu];exact hq
 subst hu;rcases Nh.1 hR with rfl|hR
 .simp[Zv]at hi
 obtain⟨m,hm1,rfl⟩:=NF.1 hR;unfold msB at hst;simp only[Nm]at hst;exact X1N (X1N hstep m hm1) i (by simpa using hst m hm1 i hi)
section
variable {P:Program} {ops:Array Oper}
theorem RunsN.callA {l:List Oper} {o:Oper} {s:HS} {K:HS->Prop} {X:Type} {f:FuncId} {d:Nat} {pv:Option Value} {objs:List (Nat×Ob)} {args:List TV} (Y I:Nat->Nat) {J:X->Prop} {r:X->RV} {objs':X->List (Nat×Ob)} (hcon:Z7 P f pv objs args J r objs')
  (hn:∀y,J y->RunsN P ops l (({s with objs:=XJ I (objs' y) (XU (objs.map fun p=>Y p.1) s.objs)}:HS).put (some d) ((r y).ren I [])) K)
  (hg:gOfN s o=some (f,args.map (TV.ren Y []),d):=by(simp[gOfN,X23,X1Q,catT,TV.ren,CV.ren];rfl))
  (hp:pvOK pv s Y:=by(first|exact .inl rfl|exact .inr ⟨rfl,rfl⟩))
  (hd0:HandS Y I objs [] s:=by(refine QG ?_ ?_ ?_ ?_ ?_<;>simp[rbB,QR,Qc,CV.ren,Ob.ren,lkp,XJ]))
  (hd:∀y,J y->HandS Y I objs (objs' y) s:=by(intro _ _;refine QG ?_ ?_ ?_ ?_ ?_<;>simp[rbB,QR,Qc,CV.ren,Ob.ren,lkp,XJ]))
  (hout:∀y,J y->X38 ((objs' y).map (·.1)) (r y)=true:=by(intro _ _;rfl)):RunsN P ops (o::l) s K:=.call Y I hg hp hd0 hd hcon hout hn
theorem Q4.callA {i:Nat} {o:Oper} {s:HS} {M:HS->Prop} {X:Type} {f:FuncId} {d:Nat} {pv:Option Value} {objs:List (Nat×Ob)} {args:List TV} (Y I:Nat->Nat) {J:X->Prop} {r:X->RV} {objs':X->List (Nat×Ob)} (hcon:Z7 P f pv objs args J r objs') (ho:ops[i]? =some o)
  (hm:∀y,J y->M (({s with objs:=XJ I (objs' y) (XU (objs.map fun p=>Y p.1) s.objs)}:HS).put (some d) ((r y).ren I [])))
  (hg:gOfN s o=some (f,args.map (TV.ren Y []),d):=by(simp[gOfN,X23,X1Q,catT,TV.ren,CV.ren,trS,ins];rfl))
  (hp:pvOK pv s Y:=by(first|exact .inl rfl|exact .inr ⟨rfl,rfl⟩))
  (hd0:HandS Y I objs [] s:=by(refine QG ?_ ?_ ?_ ?_ ?_<;>simp[trS,ins,rbB,QR,Qc,CV.ren,Ob.ren,lkp]))
  (hd:∀y,J y->HandS Y I objs (objs' y) s:=by(intro _ _;refine QG ?_ ?_ ?_ ?_ ?_<;>simp[trS,ins,rbB,QR,Qc,CV.ren,Ob.ren,lkp]))
  (hout:∀y,J y->X38 ((objs' y).map (·.1)) (r y)=true:=by(intro _ _;rfl)):Q4 P ops i s M:=.call Y I ho hg hp hd0 hd hcon hout hm
end
def CV.mv (n d:Nat):CV->CV
 | .own m=>if m=n then .own d else .own m
 |x=>x
def TV.mv (n d:Nat):TV->TV
 | .one x=>.one (x.mv n d)
 | .agg xs=>.agg (xs.map (CV.mv n d))
def RV.mv (n d:Nat):RV->RV
 | .v t=>.v (t.mv n d)
 | .tup ts=>.tup (ts.map (TV.mv n d))
def Ob.mv (n d:Nat):Ob->Ob
 | .box cs=>.box (cs.map (CV.mv n d))
 |o=>o
section
variable {P:Program} {F:Nat->Prop} {T T':Nat->Value} {w w' w0:World} {B:Nat->Prop} {U:Nat->Option Value}
theorem Xs.mv {n d:Nat} (hh:hd (T d)=hd (T n)) {x:CV} {v:Value} (h:Xs F T w x v):Xs F T w (x.mv n d) v:=by
 cases x with
 | own m=>
   simp only[CV.mv];split
   .rename_i e;subst e;exact⟨by rw[hh];exact h.1,h.2⟩
   exact h
 |_=>exact h
theorem Xq.mv {n d:Nat} (hh:hd (T d)=hd (T n)) {xs:List CV} {vs:Array Value} (h:Xq F T w xs vs):Xq F T w (xs.map (CV.mv n d)) vs:=by
 refine⟨by simpa using h.1,fun j x u hx hu=>?_⟩;rw[Np]at hx;simp only[N8]at hx;obtain⟨y,hy,rfl⟩:=hx;exact(h.2 j y u hy hu).mv hh
theorem XI.mv {n d:Nat} (hh:hd (T d)=hd (T n)) {x:TV} {v:Value} (h:XI F T w x v):XI F T w (x.mv n d) v:=by
 cases x with
 |one x=>exact Xs.mv hh h
 |agg xs=>obtain⟨vs,rfl,hc⟩:=h;exact⟨vs,rfl,hc.mv hh⟩
theorem Xa.mv {n d:Nat} (hh:hd (T d)=hd (T n)) {x:RV} {v:Value} (h:Xa F T w x v):Xa F T w (x.mv n d) v:=by
 cases x with
 |v t=>exact XI.mv hh h
 | tup ts=>
   obtain⟨vs,rfl,hs,hc⟩:=h;refine⟨vs,rfl,by simpa using hs,fun j x u hx hu=>?_⟩;rw[Np]at hx;simp only[N8]at hx;obtain⟨y,hy,rfl⟩:=hx;exact(hc j y u hy hu).mv hh
theorem Q0.mv {n d:Nat} (hh:hd (T d)=hd (T n)) {x:Value} {o:Ob} (h:Q0 F T w B x o):Q0 F T w B x (o.mv n d):=by
 cases o with
 |box cs=>obtain⟨b,e,vs,h1,h2,h3,h4⟩:=h;exact⟨b,e,vs,h1,h2,h3,h4.mv hh⟩
 |_=>exact h
theorem HeapRel.mv {n d:Nat} {objs:List (Nat×Ob)} (hh:hd (T d)=hd (T n)) (h:HeapRel w0 B U F T objs w):HeapRel w0 B U F T (W9 (Ob.mv n d) objs) w:=by
 have hl:∀m o,lkp (W9 (Ob.mv n d) objs) m=some o->∃o0,lkp objs m=some o0/\o=o0.mv n d:=by
  intro m o ho;rw[ZC]at ho;simp only[N8]at ho;obtain⟨o0,h1,rfl⟩:=ho;exact⟨o0,h1,rfl⟩
 exact {
  below:=h.below
  hB:=h.hB
  fsz:=h.fsz
  ob:=fun m o ho=>by
   obtain⟨o0,h1,rfl⟩:=hl m o ho;exact(h.ob m o0 h1).mv hh
  apart:=fun m o ho=>by
   obtain⟨o0,h1,_⟩:=hl m o ho;exact h.apart m o0 h1
  sep:=fun m k om ok hm hk=>by
   obtain⟨o1,h1,_⟩:=hl m om hm;obtain⟨o2,h2,_⟩:=hl k ok hk;exact h.sep m k o1 o2 h1 h2
  pin:=h.pin}
theorem Qq {ops:Array Oper} {i:Nat} {o:Oper} {a:Act} {Q:Exit->Act->World->Prop} {Kc:Act->World->Prop} {nx:Next} {v:Value} (hi:ops[i]? =some o) (hgd:o.guard=none) (hrun:(execOp a.eval o).run P w=.ok nx w')
  (hnx:nx=.value v\/nx=.skip/\v=undef) (hk:Kc (a.put o.dst v) w'):wpOp P ops Q i Kc a w:=by
 unfold wpOp;rw[hi];simp only;have hwant:Region.wanted o (yielded ops a.tmps)=true:=by unfold Region.wanted;rw[hgd]
 rw[hwant];simp only[Nf];refine .inl ?_;unfold Oper.wp;rw[hrun];rcases hnx with rfl|⟨rfl,rfl⟩
 .exact hk
 exact hk
theorem X9K {objs:List (Nat×Ob)} {t tE e e' ty:TypeId} {te tte:TI} {s n i d:Nat} {rows:List (Option (List (List CD)))} {rs more:List (List CD)} {v src:Value} (hh:HeapRel w0 B U F T objs w)
  (hl:lkp objs n=some (.mat e e' s rows)) (hri:rows[i]? =some (some rs)) (hv:Xs F T w (.sub n i) v) (hdn:∀m o,lkp objs m=some o->m≠d/\¬o.men d) (hd6:d<1000000)
  (hu:P.underlying t=some (.slice e')) (hti:XK P e'=some te) (hts:te.size=s) (hzl:te.zero.length=te.size) (htte:XK P tE=some tte) (hs1:tte.size=1)
  (hms:∀r∈more,r.length=te.size)
  (hsrc:(src=.slice none 0 0/\more=[])\/∃a c,∃news:List Value,src=.slice (some a) more.length c/\news.length=more.length*te.size/\
   (∀j u,news[j]? =some u->w.cell? (a.add j)=some u)/\(∀u∈news,u.oneCell'=true)/\
   ∀i j d,XN more i j=some d->∃u,news[i*te.size+j]? =some u/\CRel F w d u)
  (hmax:rs.length+more.length<=maxLen) (hby:(rs.length+more.length)*te.bytes<=140737488355328):
  ∃(b oo len cap:Nat) (v':Value) (w1 W:World) (x:Value),hd (T n)=.slice (some ⟨b,oo,none⟩) len cap/\i<len/\(Builtin.append_ #[t,t] ty #[v,src]).run P w=.ok v' w1/\
   (storeVar tE ⟨b,oo+i,none⟩ v').run P w1=.ok () W/\hd x=hd (T n)/\HeapRel w0 B U F (upd T d x) (ins d (.mat e e' s (rows.set i (some (rs++more)))) (del n objs)) W/\(∀c,F c->W.heap[c]? =w.heap[c]?):=by
 obtain⟨o',is,hγ,h0,hlen,⟨xs,hown,hxs⟩,hin,hd1,hd2⟩:=hh.ob n _ hl;obtain⟨vs,hγ',hvi,hv1,hvu⟩:=hv;rw[hγ]at hγ';cases hγ';have hvi':is[i]? =some v:=by simpa using hvi
 have hlt:i<rows.length:=(N5.1 hri).1;have hil:i<is.length:=by rw[hlen];exact hlt
 have hro:Xv F w B e' s v rs:=hin i v (some rs) hvi' hri;obtain⟨_,hss,xv,hownv,hx1,hxc⟩:=hro;have hvsl:=hownv.sl;have hbv:∀b,v.ownBlock=some b->Blk (T n) b:=fun b hb=>by rw[hγ];exact⟨v,by simp[N3 hvi'],by rw[X0s hvsl];exact hb⟩
 obtain⟨v',w1,hrun,hgr,hblk,hform,hF1,hrow⟩:=X18 (P:=P) (w:=w) (B:=B) (F:=F) (ty:=ty) (src:=src) (more:=more) (rows:=rs) (v:=v) (xs:=xv) hu hti (by omega) hzl (by rw[hts];exact hownv) hh.hB
  (by rw[hts];exact hss) hx1 (by rw[hts];exact hxc) hms hsrc hmax hby hh.fsz (fun b hb=>hh.apart n _ hl b (hbv b hb))
 have hrow:Xv F w1 B e' s v' (rs++more):=by rw[<-hts];exact hrow T
 obtain⟨ti',td,z,hi,htd,hz,g1,g2,g3,g4,g5⟩:=XH htte;rcases hown.2 with⟨hn,hz0⟩|⟨b,oo,cap,cur,hob,hBb,hhb,hrest⟩
 .omega
 subst hob;have hBn:Blk (T n) b:=by rw[hγ];exact⟨.slice (some ⟨b,oo,none⟩) rows.length cap,by simp,rfl⟩
 have hFb:¬F b:=hh.apart n _ hl b hBn;have hbs:b<w.heap.size:=((hh.ob n _ hl).blk_lt hBn).2;have hb1:w1.heap[b]? =w.heap[b]? :=hgr.block b hbs fun e'=>hd1 i v b hvi' (by rw[X0s hvsl];exact e'.symm) rfl;have hown1:QN w1 B e 1 (.slice (some ⟨b,oo,none⟩) rows.length cap) rows.length xs:=hown.mono fun c hc=>by cases hc;exact hb1
 have hone:v'.oneCell'=true:=by obtain⟨_,_,_,rfl⟩:=hform;rfl
 have hcy:v'.cells= #[v']:=X0W hone;have hk1:Kept B w0 w1:=hh.below.grown hgr hh.hB fun k hk hx=>((hh.ob n _ hl).blk_lt (hbv k hk)).1 hx;obtain⟨W,hrunW,hWo,hWs,hWB,hownW⟩:=X2h (P:=P) hi (v:=v') (by rw[hcy,g1,hs1];rfl) (by rw[hcy];simpa using hone) hown1 (k:=i) (by rw[hcy];simp;omega) hk1;have hFW:∀c,F c->W.heap[c]? =w.heap[c]? :=fun c hc=>(hWo c fun e'=>hFb (e'▸hc)).trans (hF1 c hc)
 -- what blocks the new header may name
 have hvb:∀c,blk v'=some c->w.heap.size<=c\/blk v=some c:=fun c hc=>(hblk c hc).imp id fun h=>by rw[X0s hvsl];exact h
 have hnb:∀c,blk v'=some c->c≠b/\∀(k:Nat) u,k≠i->is[k]? =some u->blk u≠some c:=by
  intro c hc;refine⟨fun e'=>?_,fun k u hk hu hcu=>?_⟩
  .subst e';rcases hvb c hc with h|h
   .omega
   exact hd1 i v c hvi' h rfl
  rcases hvb c hc with h|h
  .have:=((hh.ob n _ hl).blk_lt (by rw[hγ];exact⟨u,by simp[N3 hu],hcu⟩:Blk (T n) c)).2;omega
  exact hd2 k i u v c hu hvi' hk hcu h
 have hset:∀(k:Nat) u r,(is.set i v')[k]? =some u->(rows.set i (some (rs++more)))[k]? =some r->(k=i/\u=v'/\r=some (rs++more))\/(k≠i/\is[k]? =some u/\rows[k]? =some r):=by
  intro k u r hu hr;by_cases e':k=i
  .subst e';rw[NX hil]at hu;rw[NX hlt]at hr;cases hu;cases hr;exact .inl ⟨rfl,rfl,rfl⟩
  rw[Du (Ne.symm e')]at hu hr;exact .inr ⟨e',hu,hr⟩
 have hset1:∀(k:Nat) u,(is.set i v')[k]? =some u->(k=i/\u=v')\/(k≠i/\is[k]? =some u):=by
  intro k u hu;by_cases e':k=i
  .subst e';rw[NX hil]at hu;cases hu;exact .inl ⟨rfl,rfl⟩
  rw[Du (Ne.symm e')]at hu;exact .inr ⟨e',hu⟩
 refine⟨b,oo,rows.length,cap,v',w1,W,.agg (.slice (some ⟨b,oo,none⟩) rows.length cap::is.set i v').toArray,by rw[hγ];rfl,hlt,hrun,hrunW,by rw[hγ];rfl,?_,hFW⟩;refine hh.moved (ns:=[n]) (by simp[hl]) (fun m o hm=>?_) hdn hWB (by rw[hWs];exact hgr.size) (fun k hk hne=>?_) ?_ hd6 ?_
 .obtain⟨h1,h2⟩:=Ql hm;exact⟨by simpa using h1,h2⟩
 .rw[hWo k fun e'=>hne n (by simp) (e'▸hBn)];exact hgr.block k hk fun e'=>hne n (by simp) (hbv k e'.symm)
 .rintro c ⟨u,hu,huc⟩;simp only[Nh]at hu;rcases hu with rfl|hu
  .exact .inr ⟨n,by simp,by cases huc;exact hBn⟩
  rcases Dg hu with hu|rfl
  .exact .inr ⟨n,by simp,by rw[hγ];exact⟨u,by simp[hu],huc⟩⟩
  rcases hvb c huc with h|h
  .exact .inl h
  exact .inr ⟨n,by simp,hbv c (by rw[<-X0s hvsl];exact h)⟩
 refine⟨_,_,rfl,h0,by simp[hlen],⟨_,by rw[DF];exact hownW,fun k u r hu hr=>?_⟩,fun k u r hu hr=>?_,fun k u c hu huc=>?_,fun j k u u2 c hu hu2 hjk huc=>?_⟩
 .rw[hcy];rw[WK _ _ _ _ (by simp[hown.1];omega)];rcases hset k u r hu hr with⟨rfl,rfl,rfl⟩|⟨hne,hu',hr'⟩
  .simp[X0k]
  rw[N7 (by simp;omega)];exact hxs k u r hu' hr'
 .rcases hset k u r hu hr with⟨rfl,rfl,rfl⟩|⟨hne,hu',hr'⟩
  .exact Xv.mono (fun _ h=>h) (fun c hc=>hWo c fun e'=>hFb (e'▸hc)) (fun c hc=>hWo c (hnb c hc).1) hrow
  have:=hin k u r hu' hr';cases r with
  |none=>exact this
  | some rr=>
    have hub:∀c,blk u=some c->c<w.heap.size:=fun c hc=>((hh.ob n _ hl).blk_lt (by rw[hγ];exact⟨u,by simp[N3 hu'],hc⟩:Blk (T n) c)).2;exact Xv.mono (fun _ h=>h) hFW (fun c hc=>(hWo c fun e'=>hd1 k u c hu' hc (by rw[e'];rfl)).trans (hgr.block c (hub c hc) fun e'=>hd2 k i u v c hu' hvi' hne hc (by rw[X0s hvsl];exact e'.symm))) this
 .rcases hset1 k u hu with⟨rfl,rfl⟩|⟨hne,hu'⟩
  .intro e';cases e';exact(hnb _ huc).1 rfl
  exact hd1 k u c hu' huc
 rcases hset1 j u hu with⟨rfl,rfl⟩|⟨hne,hu'⟩
 .rcases hset1 k u2 hu2 with⟨rfl,rfl⟩|⟨hne2,hu2'⟩
  .exact absurd rfl hjk
  exact(hnb c huc).2 k u2 hne2 hu2'
 rcases hset1 k u2 hu2 with⟨rfl,rfl⟩|⟨hne2,hu2'⟩
 .intro hvc;exact(hnb c hvc).2 j u hne hu' huc
 exact hd2 j k u u2 c hu' hu2' hjk huc
theorem HeapRel.mapd {n d:Nat} {objs:List (Nat×Ob)} {x:Value} (h:HeapRel w0 B U F (upd T d x) objs w) (hnd:n≠d) (hx:hd x=hd (T n)):HeapRel w0 B U F (upd T d x) (W9 (Ob.mv n d) objs) w:=
 h.mv (by rw[Xt,Xe _ hnd];exact hx)
end
def neT (d:Nat):Operand->Bool
 | .tmp t=>decide (t≠d)
 |_=>true
def X9c (P:Program) (s:HS) (o1 o2 o3:Oper):Option HS:=
 match o1.guard,o1.op,o1.dst,o2.guard,o2.op,o2.dst,o3.guard,o3.op with
 | none, .call {callee:=.builtin .append,args:=as0,argTypes:=ts, .. },some d1,none,.indexAddr tM xm xi,some d2,none,.store tE (.tmp e2) (.tmp e1)=>
   match as0.toList,ts.toList with
   | [x, y],[t,t']=>if t=t'/\e2=d2/\e1=d1/\d1≠d2/\neT d1 xm=true/\neT d1 xi=true/\XP s (some d1)=true/\XP s (some d2)=true/\XP s o3.dst=true then
     match Z5 P t,Z5 P tM,opd s.regs x,opd s.regs xm,Wo (opd s.regs xi)with
     | some e',some eM,.v (.one (.sub n i)),.v (.one (.own n')),some (.int .i64 i')=>if n'=n/\i'=(i:Int)/\Wb d1 s=true then
       match XK P e',XK P eM,XK P tE,lkp s.objs n with
       | some te,some tm,some tte,some (.mat e e2' sz rows)=>match rows[i]?,Wq s.objs te.size (opd s.regs y)with
         | some (some rs),some more=>if e2'=e'/\te.size=sz/\te.zero.length=te.size/\tm.size=1/\tte.size=1/\W4 (rs.length+more.length) te.bytes then
           let t:=((({s with objs:=W9 (Ob.mv n d1) (ins d1 (.mat e e' sz (rows.set i (some (rs++more)))) (del n s.objs))}:HS).put (some d1) (.v (.one .any))).put (some d2) (.v (.one .any))).put o3.dst (.v (.one .any))
           some {t with regs:=W9 (RV.mv n d1) t.regs}
           else none
         |_,_=>none
       |_,_,_,_=>none
       else none
     |_,_,_,_,_=>none
     else none
   |_,_=>none
 |_,_,_,_,_,_,_,_=>none
section
variable {P:Program} {F:Nat->Prop} {T T':Nat->Value} {w w' w0:World} {B:Nat->Prop} {U:Nat->Option Value}
theorem X0c {a:Act} {d:Nat} {v:Value} {x:Operand} (h:neT d x=true):(a.put (some d) v).eval x=a.eval x:=by
 cases x with
 | tmp t=>
   have ht:t≠d:=by simpa[neT]using h
   show((a.tmps.setIfInBounds d v).getD t undef)=a.tmps.getD t undef;rw[Nu,NI (Ne.symm ht),<-Array.getD_eq_getD_getElem?]
 |_=>rfl
theorem X0I {a:Act} {d:Nat} {v:Value} (h:d<a.tmps.size):(a.put (some d) v).eval (.tmp d)=v:=by
 show((a.tmps.setIfInBounds d v).getD d undef)=v;rw[Nu,Array.getElem?_setIfInBounds_self_of_lt h];rfl
theorem QF.matA {ops:Array Oper} {k:Nat} {s s':HS} {o1 o2 o3:Oper} (h1:ops[k]? =some o1) (h2:ops[k+1]? =some o2) (h3:ops[k+2]? =some o3) (h:X9c P s o1 o2 o3=some s'):QF P ops k 3 s (fun u=>u=s'):=by
 intro w0 B U F T a w Q Xr hr hK;unfold X9c at h;split at h
 .rename_i as0 ts d1 tM xm xi d2 tE e2 e1 hg1 ho1 hd1 hg2 ho2 hd2 hg3 ho3;split at h
  .rename_i x y t t' has hts;split at h
   .rename_i hc;obtain⟨rfl,rfl,rfl,hdd,hxm,hxi,hok1,hok2,hok3⟩:=hc;split at h
    .rename_i e' eM n i n' i' he heM hx hm hi;split at h
     .rename_i hc2;obtain⟨rfl,rfl,hun⟩:=hc2;split at h
      .rename_i te tm tte e e2' sz rows hte htm htte hl;split at h
       .rename_i rs more hri hmore;split at h
        .rename_i hc3;obtain⟨rfl,hsz,hzl,hm1,ht1,hroom⟩:=hc3;cases h;have eas:as0= #[x,y]:=by obtain⟨l⟩:=as0;simpa using has
         have ets:ts= #[t,t]:=by obtain⟨l⟩:=ts;simpa using hts
         subst eas;subst ets
         have hpos:0<te.size:=by
          obtain⟨o',is,hγ,h0,_⟩:=hr.heap.ob _ _ hl;omega
         have hnd:n'≠e1:=(WG hun n' _ hl).1;have hxv:=hr.opd x;rw[hx]at hxv;have hmv:=hr.opd xm;rw[hm]at hmv;have hiv:=Xa.lit_eq hi (hr.opd xi);obtain⟨hms,hsrc⟩:=X2R hpos hr.heap (hr.opd y) hmore;obtain⟨b,oo,len,cap,v',w1,W,xx,hob,hlt,hrun,hrunW,hhd,hhp,hF⟩:=X9K (P:=P) (tE:=tE) (ty:=o1.type) hr.heap hl hri hxv (fun m o hm=>WG hun m o hm) (X0a hun) (Qk he) hte hsz hzl htte ht1 hms hsrc hroom.1 hroom.2;obtain⟨i',td,z,hi',htd,hz,g1,g2,g3,g4,g5⟩:=XH htm;have hs1:e1<a.tmps.size:=by rw[hr.nt.1];simpa[XP]using hok1
         have hs2:e2<a.tmps.size:=by rw[hr.nt.1];simpa[XP]using hok2
         show wpOps P ops Q (k::(k+1)::(k+2)::Xr) a w;rw[wpOps_cons];refine Qq (nx:=.value v') (v:=v') (w':=w1) h1 hg1 ?_ (.inl rfl) ?_
         .unfold execOp;rw[ho1];simp[resolve,invoke,builtin,hrun]
         rw[hd1,wpOps_cons];refine Qq (nx:=.value (.pointer (some ⟨b,oo+i,none⟩))) (v:=.pointer (some ⟨b,oo+i,none⟩)) (w':=w1) h2 hg2 ?_ (.inl rfl) ?_
         .unfold execOp;rw[ho2];have hvm:a.eval xm=.slice (some ⟨b,oo,none⟩) len cap:=by rw[hmv.1,hob]
          simp[X0c hxm,X0c hxi,hvm,hiv,Instr.indexAt,asIntOf,run_underlying (Qk heM),hlt,XF hi',g1,hm1,Wa]
         rw[hd2,wpOps_cons];refine Qq (nx:=.skip) (v:=undef) (w':=W) h3 hg3 ?_ (.inr ⟨rfl,rfl⟩) ?_
         .unfold execOp;rw[ho3];have q1:((a.put (some e1) v').put (some e2) (.pointer (some ⟨b,oo+i,none⟩))).eval (.tmp e2)=.pointer (some ⟨b,oo+i,none⟩):=X0I (by simpa[Act.put]using hs2);have q2:((a.put (some e1) v').put (some e2) (.pointer (some ⟨b,oo+i,none⟩))).eval (.tmp e1)=v':=by rw[X0c (by simp[neT,hdd])];exact X0I hs1
          simp[q1,q2,Instr.storeAt,Instr.sureAddr,hrunW]
         have hkeep:∀(j:Nat) r v,lkp s.regs j=some r->Xa F T w r v->Xa F (upd T e1 xx) W r v:=fun j r v hj hv=>(hv.mono (fun _ h=>h) hF).upd (Z2 hun hj);have r1:=hr.step (dst:=some e1) (r:=.v (.one .any)) (v:=v') hok1 (hhp.mapd hnd hhd) trivial hkeep;have r2:=r1.step (dst:=some e2) (r:=.v (.one .any)) (v:=.pointer (some ⟨b,oo+i,none⟩)) hok2 r1.heap trivial (fun _ _ _ _ h=>h)
         have r3:=r2.step (dst:=o3.dst) (r:=.v (.one .any)) (v:=undef) (by cases hd3:o3.dst with
          |none=>rfl
          |some d3=>rw[hd3]at hok3;exact hok3) r2.heap trivial (fun _ _ _ _ h=>h)
         have hh2:hd (upd T e1 xx e1)=hd (upd T e1 xx n'):=by rw[Xt,Xe _ hnd];exact hhd
         refine hK _ F (upd T e1 xx) _ W rfl (fun _ h=>h) (fun _ h=>.inl h) ⟨r3.heap,r3.defers,r3.nt,fun j r hj=>?_⟩;rw[ZC]at hj;simp only[N8]at hj;obtain⟨r0,h0,rfl⟩:=hj;exact(r3.regs j r0 h0).mv hh2
        cases h
       cases h
      cases h
     cases h
    cases h
   cases h
  cases h
 cases h
theorem RunsN.matA {ops:Array Oper} {l:List Oper} {s s':HS} {K:HS->Prop} {o1 o2 o3:Oper} (h:X9c P s o1 o2 o3=some s') (hr:RunsN P ops l s' K):RunsN P ops (o1::o2::o3::l) s K:=by
 refine .many (M:=fun u=>u=s') 3 (fun k hk=>?_) fun u hu=>by rw[hu];exact hr
 exact QF.matA (hk 0 o1 rfl) (hk 1 o2 rfl) (hk 2 o3 rfl) h
def ConR (P:Program) (f:FuncId) (e:TypeId) (sz:Nat) (rs rs':List (List CD)):Prop:=
 Q5 P f=true/\∀(F:Nat->Prop) (B:Nat->Prop) (w:World) (v:Value),Xv F w B e sz v rs->(∀b,F b->b<w.heap.size)->(∀b,blk v=some b->¬F b)->
  Calls P f #[v] w fun x w'=>x=.returned (.tuple #[])/\w'.os=w.os/\w'.tape=w.tape/\w'.output=w.output/\w.heap.size<=w'.heap.size/\(∀k,k<w.heap.size->blk v≠some k->w'.heap[k]? =w.heap[k]?)/\Xv F w' B e sz v rs'
def X8Z (s:HS) (o:Oper):Option (FuncId×Nat×Nat×TypeId×TypeId×Nat×List (Option (List (List CD)))×List (List CD)×Nat):=
 match o.guard,o.op,o.dst with
 | none, .call {callee:=.value x,args:=args, .. },some d=>match X23 (opd s.regs x),args.toList with
   | some (f,[]),[y]=>match opd s.regs y with
     | .v (.one (.sub n i))=>match lkp s.objs n with
       | some (.mat e e' sz rows)=>match rows[i]? with
         |some (some rs)=>if XP s (some d)=true/\0<rs.length then some (f,n,i,e,e',sz,rows,rs,d)else none
         |_=>none
       |_=>none
     |_=>none
   |_,_=>none
 |_,_,_=>none
theorem QF.subA {ops:Array Oper} {k:Nat} {s:HS} {o:Oper} {f:FuncId} {n i d sz:Nat} {e e':TypeId} {rows:List (Option (List (List CD)))} {rs rs':List (List CD)} (h1:ops[k]? =some o) (h:X8Z s o=some (f,n,i,e,e',sz,rows,rs,d))
  (hcon:ConR P f e' sz rs rs'):QF P ops k 1 s (fun u=>u=({s with objs:=ins n (.mat e e' sz (rows.set i (some rs'))) s.objs}:HS).put (some d) (.tup [])):=by
 intro w0 B U F T a w Q Xr hr hK;unfold X8Z at h;split at h
 .rename_i x as0 ats d1 hg ho hd1;split at h
  .rename_i f1 y hx has;split at h
   .rename_i n1 i1 hy;split at h
    .rename_i e1 e1' sz1 rows1 hl;split at h
     .rename_i rs1 hri;split at h
      .rename_i hc;obtain⟨hok,hlen0⟩:=hc;cases h;have eas:as0= #[y]:=by obtain⟨l⟩:=as0;simpa using has
       subst eas;obtain⟨hcall,hcon⟩:=hcon;obtain⟨cvs,hv,hcl,_⟩:=Zx hx (hr.opd x);have hcv:cvs=[]:=Nv (by simpa using hcl);subst hcv;have hv':a.eval x=.func (.func f) #[] #[]:=hv;have hyv:=hr.opd y;rw[hy]at hyv;obtain⟨vs,hvs,hsub,hv1,hvu⟩:=hyv;obtain⟨o',is,hγ,h0,hlen,⟨xs,hown,hxs⟩,hin,hd1',hd2⟩:=hr.heap.ob n _ hl;rw[hγ]at hvs;cases hvs;have hvi:is[i]? =some (a.eval y):=by simpa using hsub
       have hro:Xv F w B e' sz (a.eval y) rs:=hin i _ (some rs) hvi hri
       obtain⟨b,hb⟩:∃b,blk (a.eval y)=some b:=by
        obtain⟨_,_,xs,hown,_⟩:=hro;rcases hown.2 with⟨_,hn⟩|⟨b,oo,cap,cur,hv,_⟩
        .omega
        exact⟨b,by rw[hv];rfl⟩
       have hBn:Blk (T n) b:=by rw[hγ];exact⟨a.eval y,by simp[N3 hvi],hb⟩
       have hlt:i<rows.length:=(N5.1 hri).1
       have hrun:(execOp a.eval o).run P w=.ok (.enter f (#[y].map a.eval)) w:=by
        unfold Q5 at hcall;split at hcall
        .rename_i fn hfn;simp only[N4,Nw]at hcall;have hnm:¬fn.name= "runtime.NumGoroutine" :=by simpa using hcall.1
         have hnb:¬fn.body=none:=by
          intro hb;rw[hb]at hcall;cases hcall.2
         simp[execOp,ho,resolve,hv',Deferred.ofValue,invoke,callFunc,hfn,hnm,hnb]
        cases hcall
       show wpOps P ops Q (k::Xr) a w;rw[wpOps_cons];unfold wpOp;rw[h1];simp only;have hwant:Region.wanted o (yielded ops a.tmps)=true:=by unfold Region.wanted;rw[hg]
       rw[hwant];simp only[Nf];refine .inl ?_;unfold Oper.wp;rw[hrun,Oper.upon_enter];have hargs:(#[y].map a.eval:Array Value)= #[a.eval y]:=by simp
       rw[hargs];refine(hcon F B w (a.eval y) hro hr.heap.fsz (fun c hc=>hr.heap.apart n _ hl c (by rw[hγ];exact⟨a.eval y,by simp[N3 hvi],hc⟩))).mono ?_;rintro z w' ⟨rfl,q1,q2,q3,q4,q5,hro'⟩;have hkeep:∀c,c<w.heap.size->c≠b->w'.heap[c]? =w.heap[c]? :=fun c hc hne=>q5 c hc fun e=>hne (by rw[hb]at e;cases e;rfl);have hFk:∀c,F c->w'.heap[c]? =w.heap[c]? :=fun c hc=>hkeep c (hr.heap.fsz c hc) fun e'=>hr.heap.apart n _ hl b hBn (e'▸hc);have hkp:Kept B w0 w':=hr.heap.below.trans ⟨q1,q2,q3,q4,fun c hc=>hkeep c (hr.heap.hB c hc) fun e'=>((hr.heap.ob n _ hl).blk_lt hBn).1 (e'▸hc)⟩
       have hob:Q0 F T w' B (T n) (.mat e e' sz (rows.set i (some rs'))):=by
        have hil:∀(k:Nat) v c,is[k]? =some v->blk v=some c->c<w.heap.size:=fun k v c hk hc=>((hr.heap.ob n _ hl).blk_lt (by rw[hγ];exact⟨v,by simp[N3 hk],hc⟩:Blk (T n) c)).2;refine⟨o',is,hγ,h0,by simp[hlen],⟨xs,?_,fun j u r hu hr'=>?_⟩,fun j u r hu hr'=>?_,hd1',hd2⟩
        .rw[DF];refine hown.mono fun c hc=>?_;exact hkeep c ((hr.heap.ob n _ hl).blk_lt (by rw[hγ];exact⟨o',by simp,hc⟩:Blk (T n) c)).2 fun e'=>by subst e';exact hd1' i _ _ hvi hb hc
        .rw[NY]at hr';split at hr'
         .rename_i e2;subst e2;cases hr';rw[hvi]at hu;cases hu;have:=hxs i _ (some rs) hvi hri;exact this
         exact hxs j u r hu hr'
        rw[NY]at hr';split at hr'
        .rename_i e2;subst e2;cases hr';rw[hvi]at hu;cases hu;exact hro'
        rename_i e2;have:=hin j u r hu hr';cases r with
        |none=>exact this
        |some rr=>exact Xv.mono (fun _ h=>h) hFk (fun c hc=>hkeep c (hil j u c hu hc) fun e'=>by subst e';exact hd2 j i u _ _ hu hvi (Ne.symm e2) hc hb) this
       refine hK _ F T _ _ rfl (fun _ h=>h) (fun _ h=>.inl h) ?_;rw[hd1];exact hr.step (dst:=some d) hok (F':=F) (T':=T) (hr.heap.wrote hl (b:=b) hBn hkp q4 (fun c hc hne=>hkeep c hc hne) hob) ⟨#[],rfl,rfl,fun j t u h1 h2=>by simp at h1⟩ fun _ _ _ _ hv=>hv.mono (fun _ h=>h) hFk
      cases h
     cases h
    cases h
   cases h
  cases h
 cases h
theorem RunsN.subA {ops:Array Oper} {l:List Oper} {s:HS} {K:HS->Prop} {o:Oper} {f:FuncId} {n i d sz:Nat} {e e':TypeId} {rows:List (Option (List (List CD)))} {rs rs':List (List CD)} (h:X8Z s o=some (f,n,i,e,e',sz,rows,rs,d)) (hcon:ConR P f e' sz rs rs')
  (hr:RunsN P ops l (({s with objs:=ins n (.mat e e' sz (rows.set i (some rs'))) s.objs}:HS).put (some d) (.tup [])) K):RunsN P ops (o::l) s K:=by
 refine .many (M:=fun u=>u=_) 1 (fun k hk=>?_) fun u hu=>by rw[hu];exact hr
 exact QF.subA (hk 0 o rfl) h hcon
def no6 (s:HS):Bool:=(s.regs.all fun p=> !p.2.menB 1000000)&&s.objs.all fun p=>p.1!=1000000&& !p.2.menB 1000000
theorem HT_pin {c:Code} {s:HS} {Q:Exit->HS->Prop} (n:Nat) {cs:List CV} (regs:List (Nat×RV)) (objs:List (Nat×Ob)) (hl:lkp s.objs n=some (.box cs)) (hpv:s.nt.pv=none)
  (hr:WY (fun k r=>r.okNil []=true/\lkp s.regs k=some (r.ren (fun m=>if m=1000000 then n else m) [])) regs)
  (ho:WY (fun m o=>o.okNil []=true/\lkp s.objs (if m=1000000 then n else m)=some (o.ren (fun m=>if m=1000000 then n else m) [])) objs) (hn:lkp objs n=none)
  (h:∀b,HT P c ⟨⟨s.nt.n,some (.pointer (some ⟨b,0,none⟩))⟩,regs,objs⟩ (fun e s'=>∃s2,le s' s2/\no6 s2=true/\Q e {s2 with nt:=⟨s2.nt.n,none⟩})):HT P c s Q:=by
 intro w0 B U F T a w hrel;obtain⟨b,ty,vs,hγ,hB,hhp,hcs⟩:=hrel.heap.ob n _ hl
 let Y:Nat->Nat:=fun m=>if m=1000000 then n else m
 let γ1:Nat->Value:=fun m=>T (Y m)
 let π1:Nat->Option Value:=fun m=>if m=1000000 then some (.pointer (some ⟨b,0,none⟩))else U m
 have hg:γ1 1000000=.pointer (some ⟨b,0,none⟩):=by simp only[γ1,Y,Nf];exact hγ
 have hob:∀m o,lkp objs m=some o->o.okNil []=true/\lkp s.objs (Y m)=some (o.ren Y []):=fun m o hm=>Z0 ho m o (XC hm)
 have hinj:∀m k om ok,lkp objs m=some om->lkp objs k=some ok->m≠k->Y m≠Y k:=by
  intro m k om ok hm hk hne;have h1:m≠n:=fun e=>by rw[e,hn]at hm;cases hm
  have h2:k≠n:=fun e=>by rw[e,hn]at hk;cases hk
  simp only[Y];split
  .split
   .omega
   exact fun e=>h2 e.symm
  split
  .exact h1
  exact hne
 have hrel1:Rel w0 B π1 F γ1 ⟨⟨s.nt.n,some (.pointer (some ⟨b,0,none⟩))⟩,regs,objs⟩ a w:=by
  refine⟨⟨hrel.heap.below,hrel.heap.hB,hrel.heap.fsz,fun m o hm=>?_,fun m o hm=>?_,fun m k om ok hm hk hne=>?_,fun m v hv=>?_⟩,hrel.defers,⟨hrel.nt.1,fun v hv=>?_⟩,fun k r hk=>?_⟩
  .obtain⟨h1,h2⟩:=hob m o hm;have h3:=hrel.heap.ob _ _ h2;show Q0 F γ1 w B (T (Y m)) o;cases o with
   | box cs=>
     obtain⟨b',e',vs',q1,q2,q3,q4⟩:=h3;refine⟨b',e',vs',q1,q2,q3,?_⟩;exact X75 q4
   |row e s rows=>exact h3
   |mp l=>exact h3
   |mat _ _ _ _=>exact h3
   | refs e ns=>
     obtain⟨b',q1,q2,q3⟩:=h3;refine⟨b',by simpa using q1,q2,?_⟩;rw[q3,List.map_map];rfl
   |mps _ _=>exact h3
   |it _ _=>exact h3
  .obtain⟨h1,h2⟩:=hob m o hm;exact hrel.heap.apart _ _ h2
  .obtain⟨_,h1⟩:=hob m om hm;obtain⟨_,h2⟩:=hob k ok hk;exact hrel.heap.sep _ _ _ _ h1 h2 (hinj m k om ok hm hk hne)
  .simp only[π1]at hv;split at hv
   .rename_i e;subst e;cases hv;exact⟨NK _,hg⟩
   rename_i e;obtain⟨h1,h2⟩:=hrel.heap.pin m v hv;exact⟨h1,by simp only[γ1,Y,N7 e];exact h2⟩
  .simp only[π1,Nf];exact hv
  obtain⟨h1,h2⟩:=Z0 hr k r (XC hk);exact Xa.ren (Y:=Y) (nils:=[]) (fun n _=>rfl) (fun n hn=>by cases hn) h1 (hrel.regs k _ h2)
 refine wp_mono (h b w0 B π1 F γ1 a w hrel1) ?_;rintro e a' w' ⟨s',F',T',⟨s2,hle,hno,hq⟩,h1,h2,hr'⟩;obtain⟨F2,γ2,h3,h4,hr2⟩:=hle w0 B π1 F' T' a' w' hr';simp only[no6,N4,Nm]at hno
 have hnr:∀k r,lkp s2.regs k=some r->¬r.men 1000000:=fun k r hk hm=>by
  have:=hno.1 _ (XC hk);rw[RV.menB_iff.2 hm]at this;cases this
 have hnO:∀m o,lkp s2.objs m=some o->m≠1000000/\¬o.men 1000000:=fun m o hk=>by
  have:=hno.2 _ (XC hk);simp only[bne_iff_ne,ne_eq]at this;refine⟨this.1,fun hm=>?_⟩;rw[Ob.menB_iff.2 hm]at this;cases this.2
 refine⟨_,F2,upd γ2 1000000 (T 1000000),hq,fun c hc=>h3 c (h1 c hc),fun c hc=>(h4 c hc).elim (h2 c) .inr,⟨⟨hr2.heap.below,hr2.heap.hB,hr2.heap.fsz,fun m o hm=>?_,fun m o hm=>?_,fun m k om ok hm hk hne=>?_,fun m v hv=>?_⟩,hr2.defers,⟨hr2.nt.1,fun v hv=>by cases hv⟩,fun k r hk=>(hr2.regs k r hk).upd (hnr k r hk)⟩⟩
 .obtain⟨g1,g2⟩:=hnO m o hm;rw[Xe _ g1];exact(hr2.heap.ob m o hm).upd g2
 .rw[Xe _ (hnO m o hm).1];exact hr2.heap.apart m o hm
 .rw[Xe _ (hnO m om hm).1,Xe _ (hnO k ok hk).1];exact hr2.heap.sep m k om ok hm hk hne
 obtain⟨g1,g2⟩:=hrel.heap.pin m v hv;refine⟨g1,?_⟩;by_cases e:m=1000000
 .subst e;rw[Xt];exact g2
 rw[Xe _ e];exact(hr2.heap.pin m v (by simp only[π1,N7 e];exact hv)).2
end
theorem X6o {P:Program} {id e:Nat} {ops:Array Oper} {cnd:Operand} {body:Code} {s s2:HS} {Q:Exit->HS->Prop} {o0:Oper} {lo:List Oper} {x:Operand} {d n:Nat} {l:List (Value×CD)} {seen:List Nat} {s1:Nat->Value->CD->HS}
  (hm:∀(j:Nat) k v,l[j]? =some (k,v)->j∉seen->HT P body (s1 j k v) Q) (hd:(∀j:Nat,j<l.length->j∈seen)->HT P (.exit e) s2 (X8H P body Q))
  (hops:ops.toList=o0::lo:=by rfl) (hg:o0.guard=none:=by rfl) (ho:o0.op=.next x false:=by rfl) (hdst:o0.dst=some d:=by rfl) (hx:opd s.regs x=.v (.one (.at_ n 0)):=by(simp;rfl)) (hl:lkp s.objs n=some (.it l seen):=by rfl) (hok:XP s (some d)=true:=by rfl)
  (he1:∀(j:Nat) k v,evc P ops lo (({s with objs:=ins n (.it l (seen++[j])) s.objs}:HS).put (some d) (tupN k v)) []=some (s1 j k v,True):=by(intro _ _ _;simp;rfl)) (hc1:∀(j:Nat) k v,opd (s1 j k v).regs cnd=lit (.bool true):=by(intro _ _ _;rfl))
  (he2:evc P ops lo (s.put (some d) (.tup [.one (.c (.lit (.bool false)))])) []=some (s2,True):=by(simp;rfl)) (hc2:opd s2.regs cnd=lit (.bool false):=by rfl):
  HT P (.seq (.region id ops false) (.seq (.cond cnd .skip (.exit e)) body)) s Q:=by
 refine X0 (Xw ?_);rw[hops];refine RunsN.next hg ho hdst hx hl hok (fun j k v hj hn=>RunsN.doneE [] (he1 j k v) trivial ?_) fun hall=>RunsN.doneE [] he2 trivial ?_
 .exact X0 (X8 (hc1 j k v) (fun _=>Xb (hm j k v hj hn)) fun h=>Bool.noConfusion h)
 exact X0 (X8 hc2 (fun h=>Bool.noConfusion h) fun _=>hd hall)
theorem X0Z {P:Program} {ops:Array Oper} {id:Nat} {s s':HS} {p:Prop} {Q:Exit->HS->Prop} (cs:List (Option CR)) (hm:P.follows .mixedOrders=true) (hd:drawB ops=true) (hc:X0B ops.toList s=true) (h:evcS P ops ops.toList s cs=some (s',p)) (hp:p) (hq:Q .normal s'):HT P (.region id ops true) s Q:=X7s hm hd hc (X32 _ _ _ _ _ h hp hq)
def gOfF (s:HS) (o:Oper):Option (FuncId×List TV×Nat):=
 match o.guard,o.op,o.dst with
 | none,.call {callee:=.value x,args:=args, .. },some d=>match Wu s.objs (opd s.regs x),X1w s.objs (opd s.regs) args.toList with
   |some (f,_,es),some ts=>if XP s (some d)=true then some (f,catT ts es,d)else none
   |_,_=>none
 |_,_,_=>none
theorem RunsN.callFA {P:Program} {ops:Array Oper} {l:List Oper} {o:Oper} {s:HS} {K:HS->Prop} {X:Type} {f:FuncId} {d:Nat} {args:List TV} {J:X->Prop} {r:X->RV} {ob:X->Option Ob} (hcon:ConF P f true args J r ob d)
  (hn:∀y,J y->RunsN P ops l ((s.made d (ob y)).put (some d) (r y)) K) (hg:gOfF s o=some (f,args,d):=by(simp[gOfF,catT]<;>rfl))
  (hu:∀y,J y->((ob y).isSome=true->Wb d s=true)/\(r y).onlyB (ob y).isSome d=true/\(∀o,ob y=some o->o.flat=true):=by(intro y _;refine⟨fun _=>by rfl,by simp[RV.onlyB,TV.onlyB,CV.onlyB],fun o ho=>by cases ho;rfl⟩)):RunsN P ops (o::l) s K:=by
 unfold gOfF at hg;split at hg
 .rename_i x as0 ats d1 hgd ho hd1;split at hg
  .rename_i f1 own es ts hf hts;split at hg
   .rename_i hok;cases hg;rw[Xbn]at hcon;refine RunsN.callF (M:=fun u=>∃y,J y/\u=(s.made d (ob y)).put (some d) (r y)) hgd ?_ fun u ⟨y,hy,hu⟩=>by rw[hu];exact hn y hy
    unfold Hl.callF;rw[ho,hd1];simp only[hf,hts];exact⟨true,X,J,r,ob,hcon,.inl rfl,hu,hok,fun y hy=>⟨y,hy,rfl⟩⟩
   cases hg
  cases hg
 cases hg
theorem CRel.sl_wk {F:Nat->Prop} {w:World} {s:Nat} {rows rows':List (List CD)} {v:Value} (hl:rows'.length=rows.length) (hs:∀r∈rows',r.length=s) (h:∀i j d',XN rows' i j=some d'->∃d,XN rows i j=some d/\∀u,CRel F w d u->CRel F w d' u) (hr:CRel F w (.sl s rows) v):CRel F w (.sl s rows') v:=by
 rcases hr.sl_inv with⟨rfl,hv⟩|⟨b,o,cap,cells,rfl,hF,hcap,hmax,hs',hc,h1,hr⟩
 .have:rows'=[]:=Nv hl;subst this;rcases hv with rfl|⟨a,cap,rfl⟩
  .exact .nil s
  exact .emp s a cap
 rw[<-hl]at hcap⊢
 exact .sl s rows' b o cap cells hF hcap hmax hs (fun i j d hd=>by obtain⟨d0,h0,_⟩:=h i j d hd;exact hc i j d0 h0) (fun i j d hd=>by obtain⟨d0,h0,_⟩:=h i j d hd;exact h1 i j d0 h0)
  (fun i j d hd=>by obtain⟨d0,h0,h3⟩:=h i j d hd;exact h3 _ (hr i j d0 h0))
theorem X9P {x:HS} (n:Nat) {e e':TypeId} {s:Nat} {rows:List (Option (List (List CD)))} (h:lkp x.objs n=some (.mat e e' s rows)):le x (x.frz n (.sl 1 (rows.map fun r=>[.sl s (r.getD [])]))):=
 X3U n h fun {_ B _ F T w} hh=>⟨CRel.sl_wk (rows:=rows.map fun r=>[X57 s r]) (by simp) (by simp) (fun i j d' hd=>by
  unfold XN at hd⊢;simp only[Np]at hd⊢;cases hr:rows[i]? with
  |none=>rw[hr]at hd;cases hd
  | some r=>
    rw[hr]at hd;cases j with
    | zero=>
      cases hd;refine⟨_,rfl,fun u hu=>?_⟩;cases r with
      |none=>cases hu;exact .nil s
      |some rs=>exact hu
    |succ j=>cases hd) (X6a (hh.ob n _ h) (fun _ h=>.inl h) fun b hb=>.inr hb),fun b hb cs e=>by cases e⟩
attribute [simp] X40
inductive RunsC (P:Program) (ops:Array Oper):List Oper->HS->(HS->Prop)->Prop
 |done {l:List Oper} {s:HS} {K:HS->Prop}:wpR P ops l s K->RunsC P ops l s K
 |cut {l:List Oper} {s s1 s2:HS} {K:HS->Prop} (k:Nat):wpR P ops (l.take k) s (fun t=>t=s1)->le s1 s2->RunsC P ops (l.drop k) s2 K->RunsC P ops l s K
 | conv {l:List Oper} {o:Oper} {s:HS} {K:HS->Prop} (sT dT:TypeId) (x:Operand) (k:IntKind) (n:Int):o.guard=none->o.op=.convert sT dT x->Hl.opd s.regs x=Hl.lit (.int k n)->XP s o.dst=true->(P.underlying sT).isSome=true->
   P.underlying dT=some (.int (P.intKind dT))->RunsC P ops l (s.put o.dst (Hl.lit (.int (P.intKind dT) ((P.intKind dT).wrap n)))) K->RunsC P ops (o::l) s K
section
variable {P:Program} {w0:World} {B:Nat->Prop} {U:Nat->Option Value}
theorem convS {ops:Array Oper} {Q:Exit->Act->World->Prop} {i:Nat} {o:Oper} {s:HS} {a:Act} {w:World} {F:Nat->Prop} {T:Nat->Value} {Kc:Act->World->Prop} {sT dT:TypeId} {x:Operand} {k:IntKind} {n:Int}
  (hi:ops[i]? =some o) (h:Rel w0 B U F T s a w) (hg:o.guard=none) (ho:o.op=.convert sT dT x) (hx:Hl.opd s.regs x=Hl.lit (.int k n)) (hok:XP s o.dst=true) (hs:(P.underlying sT).isSome=true) (hd:P.underlying dT=some (.int (P.intKind dT)))
  (hK:∀a',Rel w0 B U F T (s.put o.dst (Hl.lit (.int (P.intKind dT) ((P.intKind dT).wrap n)))) a' w->Kc a' w):wpOp P ops Q i Kc a w:=by
 unfold wpOp;rw[hi];simp only;have hwant:Region.wanted o (yielded ops a.tmps)=true:=by unfold Region.wanted;rw[hg]
 rw[hwant];simp only[Nf];refine .inl ?_
 have hv:a.eval x=.int k n:=by
  have:=h.opd x;rw[hx]at this;have h2:CRel F w (.lit (.int k n)) (a.eval x):=this;generalize a.eval x=u at h2;cases h2;rfl
 unfold Oper.wp execOp;simp only[ho,hv,Sem.run_bind,run_convert_int w sT dT k n hs hd,Result.andThen_ok,Sem.run_pure];refine hK _ ?_;exact h.step (dst:=o.dst) (r:=Hl.lit (.int (P.intKind dT) ((P.intKind dT).wrap n))) (v:=.int (P.intKind dT) ((P.intKind dT).wrap n)) (objs':=s.objs) hok h.heap (CRel.lit _) (fun _ _ _ _ h=>h)
theorem RunsC.cutE {ops:Array Oper} {l:List Oper} {s s1 s2:HS} {p:Prop} {K:HS->Prop} (k:Nat) (cs:List CR) (h:evc P ops (l.take k) s cs=some (s1,p)) (hp:p) (hle:le s1 s2) (hr:RunsC P ops (l.drop k) s2 K):RunsC P ops l s K:=
 .cut k (QZ _ _ _ _ _ h hp rfl) hle hr
theorem RunsC.doneE {ops:Array Oper} {l:List Oper} {s s1:HS} {p:Prop} {K:HS->Prop} (cs:List CR) (h:evc P ops l s cs=some (s1,p)) (hp:p) (hq:K s1):RunsC P ops l s K:=
 .done (QZ _ _ _ _ _ h hp hq)
end
end Go.Hl
namespace Go.Hl
open Go
def rowAP (s:HS) (o:Oper):Option (FuncId×Nat×TypeId×Nat×List (List CD)×Nat):=
 match o.guard,o.op,o.dst with
 | none,.call {callee:=.value x,args:=args, .. },some d=>match X23 (opd s.regs x),args.toList with
   | some (f,[]),[y]=>match opd s.regs y with
     | .v (.one (.own n))=>match lkp s.objs n with
       |some (.row e sz rs)=>if XP s (some d)=true/\0<rs.length then some (f,n,e,sz,rs,d)else none
       |_=>none
     |_=>none
   |_,_=>none
 |_,_,_=>none
theorem QF.rowA {P:Program} {ops:Array Oper} {k:Nat} {s:HS} {o:Oper} {f:FuncId} {n d sz:Nat} {e:TypeId} {rs rs':List (List CD)} (h1:ops[k]? =some o) (h:rowAP s o=some (f,n,e,sz,rs,d))
  (hcon:ConR P f e sz rs rs'):QF P ops k 1 s (fun u=>u=({s with objs:=ins n (.row e sz rs') s.objs}:HS).put (some d) (.tup [])):=by
 intro w0 B U F T a w Q Xr hr hK;unfold rowAP at h;split at h
 .rename_i x as0 ats d1 hg ho hd1;split at h
  .rename_i f1 y hx has;split at h
   .rename_i n1 hy;split at h
    .rename_i e1 sz1 rs1 hl;split at h
     .rename_i hc;obtain⟨hok,hlen0⟩:=hc;cases h;have eas:as0= #[y]:=by obtain⟨l⟩:=as0;simpa using has
      subst eas;obtain⟨hcall,hcon⟩:=hcon;obtain⟨cvs,hv,hcl,_⟩:=Zx hx (hr.opd x);have hcv:cvs=[]:=Nv (by simpa using hcl);subst hcv;have hv':a.eval x=.func (.func f) #[] #[]:=hv;have hyv:=hr.opd y;rw[hy]at hyv;have hro:Xv F w B e sz (T n) rs:=hr.heap.ob n _ hl
      obtain⟨b,hb,hBn,hhd⟩:∃b,blk (T n)=some b/\Blk (T n) b/\hd (T n)=T n:=by
       obtain⟨_,_,xs,hown,_⟩:=hro;rcases hown.2 with⟨_,hn⟩|⟨b,oo,cap,cur,hv,_⟩
       .omega
       rw[hv];exact⟨b,rfl,rfl,rfl⟩
      have hγ:a.eval y=T n:=by rw[<-hhd];exact hyv.1
      have hrun:(execOp a.eval o).run P w=.ok (.enter f (#[y].map a.eval)) w:=by
       unfold Q5 at hcall;split at hcall
       .rename_i fn hfn;simp only[N4,Nw]at hcall;have hnm:¬fn.name= "runtime.NumGoroutine" :=by simpa using hcall.1
        have hnb:¬fn.body=none:=by
         intro hb;rw[hb]at hcall;cases hcall.2
        simp[execOp,ho,resolve,hv',Deferred.ofValue,invoke,callFunc,hfn,hnm,hnb]
       cases hcall
      show wpOps P ops Q (k::Xr) a w;rw[wpOps_cons];unfold wpOp;rw[h1];simp only;have hwant:Region.wanted o (yielded ops a.tmps)=true:=by unfold Region.wanted;rw[hg]
      rw[hwant];simp only[Nf];refine .inl ?_;unfold Oper.wp;rw[hrun,Oper.upon_enter];have hargs:(#[y].map a.eval:Array Value)= #[T n]:=by simp[hγ]
      rw[hargs];refine(hcon F B w (T n) hro hr.heap.fsz (fun c hc=>hr.heap.apart n _ hl c (by rw[hb]at hc;cases hc;exact hBn))).mono ?_;rintro z w' ⟨rfl,q1,q2,q3,q4,q5,hro'⟩;have hkeep:∀c,c<w.heap.size->c≠b->w'.heap[c]? =w.heap[c]? :=fun c hc hne=>q5 c hc fun e=>hne (by rw[hb]at e;cases e;rfl);have hFk:∀c,F c->w'.heap[c]? =w.heap[c]? :=fun c hc=>hkeep c (hr.heap.fsz c hc) fun e'=>hr.heap.apart n _ hl b hBn (e'▸hc);have hkp:Kept B w0 w':=hr.heap.below.trans ⟨q1,q2,q3,q4,fun c hc=>hkeep c (hr.heap.hB c hc) fun e'=>((hr.heap.ob n _ hl).blk_lt hBn).1 (e'▸hc)⟩;have hob:Q0 F T w' B (T n) (.row e sz rs'):=hro';refine hK _ F T _ _ rfl (fun _ h=>h) (fun _ h=>.inl h) ?_;rw[hd1];exact hr.step (dst:=some d) hok (F':=F) (T':=T) (hr.heap.wrote hl (b:=b) hBn hkp q4 (fun c hc hne=>hkeep c hc hne) hob) ⟨#[],rfl,rfl,fun j t u h1 h2=>by simp at h1⟩ fun _ _ _ _ hv=>hv.mono (fun _ h=>h) hFk
     cases h
    cases h
   cases h
  cases h
 cases h
theorem RunsN.rowA {P:Program} {ops:Array Oper} {l:List Oper} {s:HS} {K:HS->Prop} {o:Oper} {f:FuncId} {n d sz:Nat} {e:TypeId} {rs rs':List (List CD)} (h:rowAP s o=some (f,n,e,sz,rs,d)) (hcon:ConR P f e sz rs rs')
  (hr:RunsN P ops l (({s with objs:=ins n (.row e sz rs') s.objs}:HS).put (some d) (.tup [])) K):RunsN P ops (o::l) s K:=by
 refine .many (M:=fun u=>u=_) 1 (fun k hk=>?_) fun u hu=>by rw[hu];exact hr
 exact QF.rowA (hk 0 o rfl) h hcon
theorem Q4.conv {P:Program} {ops:Array Oper} {i:Nat} {o:Oper} {s t:HS} (sT dT:TypeId) (x:Operand) (k:IntKind) (n:Int) (hi:ops[i]? =some o) (hg:o.guard=none) (ho:o.op=.convert sT dT x) (hx:Hl.opd s.regs x=Hl.lit (.int k n)) (hok:XP s o.dst=true) (hs:(P.underlying sT).isSome=true)
  (hd:P.underlying dT=some (.int (P.intKind dT))) (ht:s.put o.dst (Hl.lit (.int (P.intKind dT) ((P.intKind dT).wrap n)))=t):Q4 P ops i s (fun u=>u=t):=by
 intro w0 B U F T a w Kc Q hr hK;refine convS hi hr hg ho hx hok hs hd fun a' hr'=>?_;rw[ht]at hr';exact hK t F T a' w rfl (fun _ h=>h) (fun _ h=>.inl h) hr'
end Go.Hl
namespace Go.Hl
open Go Go.RowKit
def fnx (g:Operand->RV):Operand->RV
 | .func f=>.v (.one (.c (.fn f [])))
 |x=>g x
section
variable {P:Program}
theorem QF.fns {ops:Array Oper} {k:Nat} {o:Oper} {s:HS} {d:Nat} {r:RV} {ob:Ob} (hi:ops[k]? =some o) (hg:o.guard=none) (hd:o.dst=some d) (hu:Wb d s=true) (hok:XP s (some d)=true) (h:evA P (fnx (opd s.regs)) d o.op=some (r,some ob)):
  QF P ops k 1 s (fun u=>u=({s with objs:=ins d ob s.objs}:HS).put (some d) r):=by
 intro w0 B U F T a w Q Xr hr hK
 have hx:∀x,Xa F T w (fnx (opd s.regs) x) (a.eval x):=by
  intro x;cases x with
  |func f=>exact CRel.fn f [] [] rfl (by simp)
  |tmp t=>exact hr.opd (.tmp t)
  |const v=>exact hr.opd (.const v)
  |global g=>exact hr.opd (.global g)
 have hm:∀x,¬(fnx (opd s.regs) x).men d:=by
  intro x;cases x with
  |func f=>simp[fnx,RV.men,TV.men,CV.men]
  |tmp t=>exact X1c hu (.tmp t)
  |const v=>exact X1c hu (.const v)
  |global g=>exact X1c hu (.global g)
 obtain⟨ob',hob,v,w',hrun,hh,hrv,hsz,hk⟩:=X6L hr.heap hx hm (WG hu) (X0a hu) h;cases hob;show wpOps P ops Q (k::Xr) a w;rw[wpOps_cons];unfold wpOp;rw[hi];simp only;have hwant:Region.wanted o (yielded ops a.tmps)=true:=by unfold Region.wanted;rw[hg]
 rw[hwant];simp only[Nf];refine .inl ?_;unfold Oper.wp;rw[hrun,Oper.upon_value,hd];refine hK _ F (upd T d v) (a.put (some d) v) w' rfl (fun _ h=>h) (fun _ h=>.inl h) ?_;exact hr.step (dst:=some d) hok hh hrv fun k r v hl hr2=>(hr.heap.keepR hk hr2).upd (Z2 hu hl)
theorem RunsN.fns {ops:Array Oper} {l:List Oper} {s:HS} {K:HS->Prop} {o:Oper} {d:Nat} {r:RV} {ob:Ob} (hg:o.guard=none) (hd:o.dst=some d) (hu:Wb d s=true) (hok:XP s (some d)=true) (h:evA P (fnx (opd s.regs)) d o.op=some (r,some ob))
  (hr:RunsN P ops l (({s with objs:=ins d ob s.objs}:HS).put (some d) r) K):RunsN P ops (o::l) s K:=by
 refine .many (M:=fun u=>u=_) 1 (fun k hk=>?_) fun u hu=>by rw[hu];exact hr
 exact QF.fns (hk 0 o rfl) hg hd hu hok h
theorem wpOp_gd {ops ops':Array Oper} {Q:Exit->Act->World->Prop} {i:Nat} {o:Oper} {a:Act} {w:World} {Kc:Act->World->Prop} (hi:ops[i]? =some o) (hw:Region.wanted o (yielded ops a.tmps)=true) (hi':ops'[i]? =some {o with guard:=none}) (h:wpOp P ops' Q i Kc a w):wpOp P ops Q i Kc a w:=by
 unfold wpOp at h⊢;rw[hi];rw[hi']at h;simp only at h⊢;have h2:Region.wanted {o with guard:=none} (yielded ops' a.tmps)=true:=by unfold Region.wanted;rfl
 rw[h2]at h;rw[hw];simp only[Nf]at h⊢;exact h
theorem QF.callG {ops:Array Oper} {k:Nat} {o:Oper} {s:HS} {f:FuncId} {d:Nat} {objs objs':List (Nat×Ob)} {args:List TV} (Y I:Nat->Nat) {r:RV} (hi:ops[k]? =some o) (hg:Zi ops o s=some true) (hc:gOfC s {o with guard:=none}=some (f,args.map (TV.ren Y []),d))
  (hd:HandS Y I objs objs' s) (hcon:X46 P f objs args r objs') (ho:X38 (objs'.map (·.1)) r=true):QF P ops k 1 s (fun u=>u=({s with objs:=XJ I objs' (XU (objs.map fun p=>Y p.1) s.objs)}:HS).put (some d) (r.ren I [])):=by
 intro w0 B U F T a w Q Xr hr hK;show wpOps P ops Q (k::Xr) a w;rw[wpOps_cons];refine wpOp_gd (ops':=Array.replicate (k+1) {o with guard:=none}) hi (X06 hr hg) (by simp) ?_;exact X7K (by simp) hr hc hd hcon ho fun F2 γ2 a2 w2 h3 h4 hr2=>hK _ F2 γ2 a2 w2 rfl h3 h4 hr2
theorem RunsN.callG {ops:Array Oper} {l:List Oper} {o:Oper} {s:HS} {K:HS->Prop} {f:FuncId} {d:Nat} {objs objs':List (Nat×Ob)} {args:List TV} (Y I:Nat->Nat) {r:RV} (hg:Zi ops o s=some true) (hc:gOfC s {o with guard:=none}=some (f,args.map (TV.ren Y []),d))
  (hd:HandS Y I objs objs' s) (hcon:X46 P f objs args r objs') (ho:X38 (objs'.map (·.1)) r=true) (hr:RunsN P ops l (({s with objs:=XJ I objs' (XU (objs.map fun p=>Y p.1) s.objs)}:HS).put (some d) (r.ren I [])) K):RunsN P ops (o::l) s K:=by
 refine .many (M:=fun u=>u=_) 1 (fun k hk=>?_) fun u hu=>by rw[hu];exact hr
 exact QF.callG Y I (hk 0 o rfl) hg hc hd hcon ho
end
section
variable {P:Program} {F:Nat->Prop} {T:Nat->Value} {w w0:World} {B:Nat->Prop} {U:Nat->Option Value}
theorem Xv.cut {e:TypeId} {s:Nat} {rows:List (List CD)} {v:Value} (h:Xv F w B e s v rows) {l hi:Nat} (hl:l<=hi) (hh:hi<=rows.length):
  ∃(a:Option Addr) (cap:Nat),v=.slice a rows.length cap/\rows.length<=cap/\Xv F w B e s (.slice (if cap=l then a else a.map fun a=>a.add (l*s)) (hi - l) (cap - l)) ((rows.take hi).drop l):=by
 obtain⟨h0,hs,xs,⟨hxl,hown⟩,h1,hc⟩:=h;have hlen:((rows.take hi).drop l).length=hi - l:=by simp[Nat.min_eq_left hh]
 have hs':∀r∈(rows.take hi).drop l,r.length=s:=fun r hr=>hs r (DE (DD hr))
 have hm1:(hi - l)*s+l*s<=rows.length*s:=by
  rw[<-Nat.add_mul];exact NZ _ (by omega)
 have hxs':((xs.drop (l*s)).take ((hi - l)*s)).length=(hi - l)*s:=by
  rw[NG,Da,hxl];omega
 have hc':∀i j d,XN ((rows.take hi).drop l) i j=some d->∃u,((xs.drop (l*s)).take ((hi - l)*s))[i*s+j]? =some u/\CRel F w d u:=by
  intro i j d hd;have hlt:=Z1 hs' hd;rw[hlen]at hlt
  have hlt2:i*s+j<(hi - l)*s:=by
   have:(i+1)*s<=(hi - l)*s:=NZ _ hlt.1;rw[NP]at this;omega
  have hd':XN rows (l+i) j=some d:=by
   unfold XN at hd⊢;rw[Ny,NE]at hd;split at hd
   .exact hd
   cases hd
  obtain⟨u,hu,hr⟩:=hc _ _ _ hd';refine⟨u,?_,hr⟩;rw[NE,Na hlt2,Ny,<-hu];congr 1;rw[NP];omega
 have hone:∀u∈(xs.drop (l*s)).take ((hi - l)*s),u.oneCell'=true:=fun u hu=>h1 u (DD (DE hu));rcases hown with⟨rfl,hn⟩|⟨g,o,cap,cur,rfl,hB,hg,hcap,hmax,hsz,htake⟩
 .refine⟨none,0,by rw[hn],by omega,h0,hs',_,⟨by rw[hlen];exact hxs',.inl ⟨?_,by rw[hlen];omega⟩⟩,hone,hc'⟩;rw[show hi - l=0 by omega,Nat.zero_sub];split<;>rfl
 refine⟨some ⟨g,o,none⟩,cap,rfl,hcap,h0,hs',_,⟨by rw[hlen];exact hxs',.inr ⟨g,if cap=l then o else o+l*s,cap - l,cur,?_,hB,hg,by rw[hlen];omega,by omega,?_,?_⟩⟩,hone,hc'⟩
 .rw[hlen];split
  .rfl
  simp only[Option.map_some,Wa]
 .have:(cap - l)*s+l*s=cap*s:=by rw[<-Nat.add_mul];congr 1;omega
  split<;>omega
 rw[hlen];by_cases e':cap=l
 .have:hi - l=0:=by omega
  simp[this]
 rw[N7 e',<-htake];apply NN;intro k;rw[NE,NE,Ny,Ny,NE,Ny];by_cases hk:k<(hi - l)*s
 .rw[Na hk,Na hk,Na (by omega),DI]
 rw[N7 hk,N7 hk]
theorem QF.cutR {ops:Array Oper} {k:Nat} {o:Oper} {s:HS} {d n l hi sz:Nat} {t e:TypeId} {ti:TI} {x:Operand} {low high:Option Operand} {rows:List (List CD)} (hop:ops[k]? =some o) (hg:o.guard=none) (hd:o.dst=some d) (ho:o.op=.slice t x low high none) (hu:Wb d s=true) (hok:XP s (some d)=true)
  (hx:opd s.regs x=.v (.one (.own n))) (hl:lkp s.objs n=some (.row e sz rows)) (he:Z5 P t=some e) (hti:XK P e=some ti) (hsz:ti.size=sz) (h1:X0Q (opd s.regs) 0 low=some l) (h2:X0Q (opd s.regs) rows.length high=some hi) (hlh:l<=hi) (hh:hi<=rows.length):
  QF P ops k 1 s (fun u=>u=({s with objs:=ins d (.row e sz ((rows.take hi).drop l)) (del n s.objs)}:HS).put (some d) (.v (.one (.own d)))):=by
 intro w0 B U F T a w Q Xr hr hK;subst hsz;have hro:Xv F w B e ti.size (T n) rows:=hr.heap.ob n _ hl;have hsl:=hro.sl;have hxv:=hr.opd x;rw[hx]at hxv;have hv:a.eval x=T n:=by rw[hxv.1,Zk hsl]
 obtain⟨ad,cap,hva,hcap,hrow⟩:=hro.cut hlh hh;obtain⟨i,td,z,hi',htd,hz,e1,e2,e3,e4,e5⟩:=XH hti;have hb:=Z9 (P:=P) (w:=w) (b:=true) hr.opd h1 h2 hlh hh hcap;show wpOps P ops Q (k::Xr) a w;rw[wpOps_cons];unfold wpOp;rw[hop];simp only;have hwant:Region.wanted o (yielded ops a.tmps)=true:=by unfold Region.wanted;rw[hg]
 rw[hwant];simp only[Nf];refine .inl ?_;unfold Oper.wp
 have hrun:(execOp a.eval o).run P w=.ok (.value (.slice (if cap=l then ad else ad.map fun a=>a.add (l*ti.size)) (hi - l) (cap - l))) w:=by
  unfold execOp;rw[ho];simp[hv,hva,Instr.sliceAt,Instr.slice,run_underlying (Qk he),hb,XF hi',e1]
 rw[hrun,Oper.upon_value,hd]
 have hHR:HeapRel w0 B U F (upd T d (.slice (if cap=l then ad else ad.map fun a=>a.add (l*ti.size)) (hi - l) (cap - l))) (ins d (.row e ti.size ((rows.take hi).drop l)) (del n s.objs)) w:=by
  refine hr.heap.moved (ns:=[n]) (by simp[hl]) (fun m o hm=>by obtain⟨h1,h2⟩:=Ql hm;exact⟨by simpa using h1,h2⟩) (WG hu) hr.heap.below (NK _) (fun _ _ _=>rfl) (fun b hb=>.inr ⟨n,by simp,(Wg hsl).2 ?_⟩) (X0a hu) hrow;rw[hva];cases ad with
  |none=>simp[Blk,blk]at hb
  | some ad=>
    simp only[Blk]at hb;split at hb
    .exact hb
    simp only[Option.map_some,blk]at hb⊢;rw[<-hb];simp only[Addr.add];split<;>rfl
 refine hK _ F (upd T d (.slice (if cap=l then ad else ad.map fun a=>a.add (l*ti.size)) (hi - l) (cap - l))) (a.put (some d) _) w rfl (fun _ h=>h) (fun _ h=>.inl h) ?_;exact hr.step (dst:=some d) hok hHR ⟨by rw[Xt];rfl,rfl⟩ fun k r v hl2 hr2=>(hr.heap.keepR (fun _ _=>rfl) hr2).upd (Z2 hu hl2)
theorem RunsN.cutR {ops:Array Oper} {l0:List Oper} {o:Oper} {s:HS} {K:HS->Prop} {d n l hi sz:Nat} {t e:TypeId} {ti:TI} {x:Operand} {low high:Option Operand} {rows:List (List CD)} (hg:o.guard=none) (hd:o.dst=some d) (ho:o.op=.slice t x low high none) (hu:Wb d s=true) (hok:XP s (some d)=true)
  (hx:opd s.regs x=.v (.one (.own n))) (hl:lkp s.objs n=some (.row e sz rows)) (he:Z5 P t=some e) (hti:XK P e=some ti) (hsz:ti.size=sz) (h1:X0Q (opd s.regs) 0 low=some l) (h2:X0Q (opd s.regs) rows.length high=some hi) (hlh:l<=hi) (hh:hi<=rows.length)
  (hr:RunsN P ops l0 (({s with objs:=ins d (.row e sz ((rows.take hi).drop l)) (del n s.objs)}:HS).put (some d) (.v (.one (.own d)))) K):RunsN P ops (o::l0) s K:=by
 refine .many (M:=fun u=>u=_) 1 (fun k hk=>?_) fun u hu=>by rw[hu];exact hr
 exact QF.cutR (hk 0 o rfl) hg hd ho hu hok hx hl he hti hsz h1 h2 hlh hh
end
end Go.Hl
