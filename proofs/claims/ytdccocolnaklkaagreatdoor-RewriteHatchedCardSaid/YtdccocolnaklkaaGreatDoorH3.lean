/- Part of an evaluator that is sound over the model. Conditions: none. -/
import Derived.Test.YtdccocolnaklkaaGreatDoorH2
import Derived.Deep.LoopGhost
set_option linter.unusedSimpArgs false
set_option linter.unusedVariables false
namespace Go.Hl
open Go Go.RowKit
def noγ:Nat->Value:=fun _=>.nilFunc
def Res (fresh:Bool) (F N:Nat->Prop):Nat->Prop:=fun b=>N b\/(fresh=false/\F b)
def XZ (P:Program) (f:FuncId):Bool:=
 match P.funcs[f]? with
 |some fn=> !(fn.name== "runtime.NumGoroutine")&&fn.body.isSome
 |none=>false
def Con (P:Program) (f:FuncId) (fresh:Bool) (args:List TV) (r:RV) (ob:Option Ob) (d:Nat):Prop:=
 XZ P f=true/\∀(F:Nat->Prop) (w:World) (vs:Array Value),(∀b,F b->b<w.heap.size)->vs.size=args.length->
  (∀(j:Nat) t u,args[j]? =some t->vs[j]? =some u->XJ F noγ w t u)->
  Calls P f vs w fun e w'=>∃(v:Value) (N:Nat->Prop) (T':Nat->Value),e=.returned v/\Below w.heap.size w w'/\(∀b,N b->w.heap.size<=b/\b<w'.heap.size)/\
   X9 (Res fresh F N) T' w' r v/\∀o,ob=some o->Q4 (Res fresh F N) T' w' (fun b=>b<w.heap.size) (T' d) o/\∀b,Blk (T' d) b->¬N b
def matC (s:Nat):Option (List (List CD))->CD
 |none=>.lit XR
 |some rs=>.sl s rs
def mpC:Option (List (Value×CD))->CD
 |none=>.lit (.map none)
 |some l=>.mp l
mutual
def WS:Nat->List (Nat×Ob)->CV->Option CD
 |0,_,_=>none
 | k + 1,objs,x=>match x with
   | .c d=>some d
   | .own n=>match lkp objs n with
     |some (.row _ s rows)=>some (.sl s rows)
     |some (.mp l)=>some (.mp l)
     |some (.mat _ _ s rows)=>some (.sl 1 (rows.map fun r=>[matC s r]))
     |some (.mps _ ms)=>some (.sl 1 (ms.map fun r=>[mpC r]))
     |_=>none
   | .sub n i=>match lkp objs n with
     | some (.mat _ _ s rows)=>match rows[i]? with
       |some (some rs)=>some (.sl s rs)
       |_=>none
     |_=>none
   | .at_ n off=>match lkp objs n with
     | some (.box cs)=>match X3a k objs cs with
       |some ds=>some (.ptr (ds.drop off))
       |none=>none
     |_=>none
   | .fn f caps=>match X1J k objs caps with
     |some ds=>some (.fn f ds)
     |none=>none
   |_=>none
 termination_by k _ _=>(k,0)
def X3a:Nat->List (Nat×Ob)->List CV->Option (List CD)
 |_,_,[]=>some []
 | k,objs,x::l=>match WS k objs x,X3a k objs l with
   |some d,some ds=>if d.cell=true then some (d::ds)else none
   |_,_=>none
 termination_by k _ l=>(k,l.length+1)
def X1J:Nat->List (Nat×Ob)->List (Nat×Nat)->Option (List CD)
 |_,_,[]=>some []
 | k,objs,(n,off)::l=>match WS k objs (.at_ n off),X1J k objs l with
   |some d,some ds=>some (d::ds)
   |_,_=>none
 termination_by k _ l=>(k,l.length+1)
end
def brw (objs:List (Nat×Ob)):CV->Option CV
 | .any=>some .any
 | .c d=>some (.c d)
 | .fn f []=>some (.fn f [])
 |x=>(WS 4 objs x).map .c
def Wh (objs:List (Nat×Ob)):RV->Option (FuncId×Bool×List TV)
 | .v (.one (.fn f caps))=>match X1J 4 objs caps with
   |some ds=>some (f,!caps.isEmpty,ds.map fun d=>.one (.c d))
   |none=>none
 | .v (.one (.c (.fn f ds)))=>some (f,false,ds.map fun d=>.one (.c d))
 |_=>none
def brwL (objs:List (Nat×Ob)):List CV->Option (List CV)
 |[]=>some []
 | x::l=>match brw objs x,brwL objs l with
   |some y,some m=>some (y::m)
   |_,_=>none
def X3k (objs:List (Nat×Ob)):RV->Option TV
 | .v (.one x)=>match brw objs x with
   |some y=>some (.one y)
   |none=>none
 | .v (.agg xs)=>match brwL objs xs with
   |some ys=>some (.agg ys)
   |none=>none
 | .tup _=>none
def X1w (objs:List (Nat×Ob)) (g:Operand->RV):List Operand->Option (List TV)
 |[]=>some []
 | x::l=>match X3k objs (g x),X1w objs g l with
   |some t,some ts=>some (t::ts)
   |_,_=>none
def CV.ownB:CV->Bool
 | .own _=>true
 | .sub _ _=>true
 | .at_ _ _=>true
 | .fn _ caps=> !caps.isEmpty
 |_=>false
def RV.ownB:RV->Bool
 | .v (.one x)=>x.ownB
 | .v (.agg xs)=>xs.any CV.ownB
 | .tup _=>true
def CV.onlyB (ob:Bool) (d:Nat):CV->Bool
 | .own n=>ob&&n==d
 | .at_ n _=>ob&&n==d
 | .el n _ _ _=>ob&&n==d
 | .sub n _=>ob&&n==d
 | .el2 n _ _ _ _=>ob&&n==d
 | .fn _ caps=>caps.isEmpty
 | .gd _ _=>false
 |_=>true
def TV.onlyB (ob:Bool) (d:Nat):TV->Bool
 | .one x=>x.onlyB ob d
 | .agg xs=>xs.all (CV.onlyB ob d)
def RV.onlyB (ob:Bool) (d:Nat):RV->Bool
 | .v t=>t.onlyB ob d
 | .tup ts=>ts.all (TV.onlyB ob d)
def Ob.flat:Ob->Bool
 | .box cs=>cs.all (CV.onlyB false 0)
 | .refs _ _=>false
 | .mps _ _=>false
 | .it _ _=>false
 |_=>true
def HS.made (s:HS) (d:Nat) (ob:Option Ob):HS:=
 match ob with
 |some o=>{s with objs:=ins d o s.objs}
 |none=>s
def X16 (P:Program) (s:HS) (g:Operand->RV) (o:Oper) (K:Nat->RV->Option Ob->Prop):Prop:=
 match o.op,o.dst with
 | .call {callee:=.value x,args:=args, .. },some d=>match Wh s.objs (g x),X1w s.objs g args.toList with
   | some (f,own,es),some ts=>∃(fresh:Bool) (r:RV) (ob:Option Ob),Con P f fresh (ts++es) r ob d/\(fresh=true\/(own||args.toList.any fun x=>(g x).ownB)=false)/\
     (ob.isSome=true->QV d s=true)/\r.onlyB ob.isSome d=true/\(∀o,ob=some o->o.flat=true)/\Q3 s (some d)=true/\K d r ob
   |_,_=>False
 |_,_=>False
def X8G (P:Program) (s:HS) (o:Oper) (K:HS->Prop):Prop:=X16 P s (opd s.regs) o fun d r ob=>K ((s.made d ob).put (some d) r)
def callG (P:Program) (s:HS) (b:Bool) (o:Oper) (K:HS->Prop):Prop:=X16 P s (fun x=>Ze b (opd s.regs x)) o fun d r ob=>ob=none/\K (s.put (some d) (gdR b r))
section
variable {P:Program} {F:Nat->Prop} {T:Nat->Value} {w w' w0:World} {B:Nat->Prop} {U:Nat->Option Value}
def X0Q (T:Nat->Value) (objs:List (Nat×Ob)):Nat->Prop:=fun b=>∃n o,lkp objs n=some o/\Blk (T n) b
theorem X2f {e:TypeId} {s:Nat} {rows:List (List CD)} {x:Value} {G:Nat->Prop} (h:Xm F w B e s x rows) (hF:∀b,F b->G b) (hx:∀b,blk x=some b->G b):CRel G w (.sl s rows) x:=by
 obtain⟨h0,hss,xs,hown,h1,hc⟩:=h;rcases hown.2 with⟨rfl,hn⟩|⟨b,oo,cap,cur,rfl,hB,hh,hcap,hmax,hsz,htake⟩
 .have:rows=[]:=Np hn;subst this;exact .nil s
 refine .sl s rows b oo cap (fun i j=>xs.getD (i*s+j) undef) (hx b rfl) hcap hmax hss ?_ ?_ ?_
 .intro i j d hd;obtain⟨u,hu,hr⟩:=hc i j d hd;have:=hown.cells _ u hu;rw[QI]at this;rw[this];simp[List.getD,hu]
 .intro i j d hd;obtain⟨u,hu,hr⟩:=hc i j d hd;simp only[List.getD,hu,Option.getD_some];exact h1 u (N3 hu)
 intro i j d hd;obtain⟨u,hu,hr⟩:=hc i j d hd;simp only[List.getD,hu,Option.getD_some];exact hr.mono hF fun _ _=>rfl
theorem mat_data {e e':TypeId} {s:Nat} {rows:List (Option (List (List CD)))} {x:Value} {G:Nat->Prop} (h:Q4 F T w B x (.mat e e' s rows)) (hF:∀b,F b->G b) (hx:∀b,Blk x b->G b):
  CRel G w (.sl 1 (rows.map fun r=>[matC s r])) (Hl.hd x):=by
 obtain⟨o,is,rfl,h0,hlen,⟨xs,hown,hxs⟩,hin,hd1,hd2⟩:=h;show CRel G w _ o;have hG:∀b,blk o=some b->G b:=fun b hb=>hx b ⟨o,by simp,hb⟩
 have hlen1:∀r∈rows.map (fun r=>[matC s r]),r.length=1:=by
  intro r hr;obtain⟨q,_,rfl⟩:=NN.1 hr;rfl
 have get:∀i j d,XV (rows.map fun r=>[matC s r]) i j=some d->∃r v,j=0/\rows[i]? =some r/\is[i]? =some v/\d=matC s r/\xs[i]? =some (X17 v r):=by
  intro i j d hd;have hj:=(Wq hlen1 hd).2;have hj0:j=0:=by omega
  subst hj0;unfold XV at hd;rw[Nf]at hd;cases hr:rows[i]? with
  |none=>simp[hr]at hd
  | some r=>
    simp only[hr,Option.map_some,Option.bind_some,List.getElem?_cons_zero,Option.some.injEq]at hd;have hil:i<is.length:=by rw[hlen];exact(N5.1 hr).1
    exact⟨r,is[i],rfl,rfl,by simp[hil],hd.symm,hxs i _ r (by simp[hil]) hr⟩
 have rel:∀(i:Nat) r v,rows[i]? =some r->is[i]? =some v->CRel G w (matC s r) (X17 v r)/\(X17 v r).oneCell'=true:=by
  intro i r v hr hv;have:=hin i v r hv hr;cases r with
  |none=>exact⟨CRel.lit _,rfl⟩
  | some rs=>
    have hro:Xm F w B e' s v rs:=this;refine⟨X2f hro hF fun b hb=>hx b ⟨v,by simp[N3 hv],hb⟩,?_⟩;obtain⟨_,_,_,rfl⟩:=hro.sl;rfl
 rcases hown.2 with⟨rfl,hn⟩|⟨b,oo,cap,cur,rfl,hB,hh,hcap,hmax,hsz,htake⟩
 .have:rows=[]:=Np hn;subst this;exact .nil 1
 have:=CRel.sl (F:=G) (w:=w) 1 (rows.map fun r=>[matC s r]) b oo cap (fun i _=>xs.getD i undef) (hG b rfl) (by simpa using hcap) hmax hlen1 ?_ ?_ ?_
 .simpa using this
 .intro i j d hd;obtain⟨r,v,rfl,hr,hv,rfl,hx⟩:=get i j d hd;have:=hown.cells _ _ hx;rw[QI]at this;simp only[Nat.mul_one,Nat.add_zero,List.getD,hx,Option.getD_some];exact this
 .intro i j d hd;obtain⟨r,v,rfl,hr,hv,rfl,hx⟩:=get i j d hd;simp only[List.getD,hx,Option.getD_some];exact(rel i r v hr hv).2
 intro i j d hd;obtain⟨r,v,rfl,hr,hv,rfl,hx⟩:=get i j d hd;simp only[List.getD,hx,Option.getD_some];exact(rel i r v hr hv).1
theorem mps_data {e:TypeId} {rows:List (Option (List (Value×CD)))} {x:Value} {G:Nat->Prop} (h:Q4 F T w B x (.mps e rows)) (hF:∀b,F b->G b) (hx:∀b,Blk x b->G b):
  CRel G w (.sl 1 (rows.map fun r=>[mpC r])) (Hl.hd x):=by
 obtain⟨o,is,rfl,hlen,⟨xs,hown,hxs⟩,hin,hd1,hd2⟩:=h;show CRel G w _ o;have hG:∀b,blk o=some b->G b:=fun b hb=>hx b ⟨o,by simp,hb⟩
 have hlen1:∀r∈rows.map (fun r=>[mpC r]),r.length=1:=by
  intro r hr;obtain⟨q,_,rfl⟩:=NN.1 hr;rfl
 have get:∀i j d,XV (rows.map fun r=>[mpC r]) i j=some d->∃r v,j=0/\rows[i]? =some r/\is[i]? =some v/\d=mpC r/\xs[i]? =some (X0E v r):=by
  intro i j d hd;have hj:=(Wq hlen1 hd).2;have hj0:j=0:=by omega
  subst hj0;unfold XV at hd;rw[Nf]at hd;cases hr:rows[i]? with
  |none=>simp[hr]at hd
  | some r=>
    simp only[hr,Option.map_some,Option.bind_some,List.getElem?_cons_zero,Option.some.injEq]at hd;have hil:i<is.length:=by rw[hlen];exact(N5.1 hr).1
    exact⟨r,is[i],rfl,rfl,by simp[hil],hd.symm,hxs i _ r (by simp[hil]) hr⟩
 have rel:∀(i:Nat) r v,rows[i]? =some r->is[i]? =some v->CRel G w (mpC r) (X0E v r)/\(X0E v r).oneCell'=true:=by
  intro i r v hr hv;have:=hin i v r hv hr;cases r with
  |none=>exact⟨CRel.lit _,rfl⟩
  | some rs=>
    obtain⟨b,es,clock,rfl,hB,hb,hk,hn,hr⟩:=(show X0M F w B v rs from this);exact⟨.mp rs b es clock (hx b ⟨.map (some b),by simp[N3 hv],rfl⟩) hb hk hn fun j k d e h1 h2=>(hr j k d e h1 h2).mono hF fun _ _=>rfl,rfl⟩
 rcases hown.2 with⟨rfl,hn⟩|⟨b,oo,cap,cur,rfl,hB,hh,hcap,hmax,hsz,htake⟩
 .have:rows=[]:=Np hn;subst this;exact .nil 1
 have:=CRel.sl (F:=G) (w:=w) 1 (rows.map fun r=>[mpC r]) b oo cap (fun i _=>xs.getD i undef) (hG b rfl) (by simpa using hcap) hmax hlen1 ?_ ?_ ?_
 .simpa using this
 .intro i j d hd;obtain⟨r,v,rfl,hr,hv,rfl,hx⟩:=get i j d hd;have:=hown.cells _ _ hx;rw[QI]at this;simp only[Nat.mul_one,Nat.add_zero,List.getD,hx,Option.getD_some];exact this
 .intro i j d hd;obtain⟨r,v,rfl,hr,hv,rfl,hx⟩:=get i j d hd;simp only[List.getD,hx,Option.getD_some];exact(rel i r v hr hv).2
 intro i j d hd;obtain⟨r,v,rfl,hr,hv,rfl,hx⟩:=get i j d hd;simp only[List.getD,hx,Option.getD_some];exact(rel i r v hr hv).1
def Owns (F:Nat->Prop) (T:Nat->Value) (objs:List (Nat×Ob)):Nat->Prop:=fun b=>F b\/X0Q T objs b
theorem X5W {objs:List (Nat×Ob)} (hh:HeapRel w0 B U F T objs w):∀(k:Nat),(∀x d v,WS k objs x=some d->Xo F T w x v->CRel (Owns F T objs) w d v)/\
  (∀(xs:List CV) ds,X3a k objs xs=some ds->ds.length=xs.length/\∀(j:Nat) d,ds[j]? =some d->d.cell=true/\∃x,xs[j]? =some x/\∀v,Xo F T w x v->CRel (Owns F T objs) w d v)/\
  (∀(ps:List (Nat×Nat)) ds,X1J k objs ps=some ds->ds.length=ps.length/\∀(j:Nat) d,ds[j]? =some d->∃p:Nat×Nat,ps[j]? =some p/\∀v,Xo F T w (.at_ p.1 p.2) v->CRel (Owns F T objs) w d v):=by
 have hL :∀k,(∀x d v,WS k objs x=some d->Xo F T w x v->CRel (Owns F T objs) w d v)->
   (∀(xs:List CV) ds,X3a k objs xs=some ds->ds.length=xs.length/\∀(j:Nat) d,ds[j]? =some d->d.cell=true/\∃x,xs[j]? =some x/\∀v,Xo F T w x v->CRel (Owns F T objs) w d v)/\
   (∀(ps:List (Nat×Nat)) ds,X1J k objs ps=some ds->ds.length=ps.length/\∀(j:Nat) d,ds[j]? =some d->∃p:Nat×Nat,ps[j]? =some p/\∀v,Xo F T w (.at_ p.1 p.2) v->CRel (Owns F T objs) w d v):=by
  intro k hC;refine⟨fun xs=>?_,fun ps=>?_⟩
  .induction xs with
   |nil=>intro ds h;unfold X3a at h;cases h;simp
   | cons x xs ih=>
     intro ds h;unfold X3a at h;split at h
     .rename_i d ds' hd hds;split at h
      .rename_i hc;cases h;obtain⟨h1,h2⟩:=ih ds' hds;refine⟨by simp[h1],fun j d' hj=>?_⟩;cases j with
       |zero=>cases hj;exact⟨hc,x,rfl,fun v hv=>hC x d v hd hv⟩
       |succ j=>exact h2 j d' hj
      cases h
     cases h
  induction ps with
  |nil=>intro ds h;unfold X1J at h;cases h;simp
  | cons p ps ih=>
    obtain⟨n,off⟩:=p;intro ds h;unfold X1J at h;split at h
    .rename_i d ds' hd hds;cases h;obtain⟨h1,h2⟩:=ih ds' hds;refine⟨by simp[h1],fun j d' hj=>?_⟩;cases j with
     |zero=>cases hj;exact⟨(n,off),rfl,fun v hv=>hC _ d v hd hv⟩
     |succ j=>exact h2 j d' hj
    cases h
 intro k
 induction k with
 | zero=>
   have h0:∀x d v,WS 0 objs x=some d->Xo F T w x v->CRel (Owns F T objs) w d v:=by
    intro x d v h;unfold WS at h;cases h
   exact⟨h0,hL 0 h0⟩
 | succ k ih=>
   obtain⟨_,ihL,ihP⟩:=ih
   have hC :∀x d v,WS (k+1) objs x=some d->Xo F T w x v->CRel (Owns F T objs) w d v:=by
    intro x d v h hv;unfold WS at h;split at h
    .cases h;exact CRel.mono (fun _ h=>.inl h) (fun _ _=>rfl) hv
    .rename_i n;obtain⟨hv1,_⟩:=hv;split at h
     .rename_i e s rows hl;cases h;have hro:Xm F w B e s (T n) rows:=hh.ob n _ hl;rw[hv1,X09 hro.sl];exact X2f hro (fun _ h=>.inl h) fun b hb=>.inr ⟨n,_,hl,(W6 hro.sl).2 hb⟩
     .rename_i l hl;cases h;obtain⟨b,es,clock,hγ,hB,hb,hk,hn,hr⟩:=hh.ob n _ hl;rw[hv1,hγ];exact .mp l b es clock (.inr ⟨n,_,hl,by rw[hγ];rfl⟩) hb hk hn fun j k d e h1 h2=>(hr j k d e h1 h2).mono (fun _ h=>.inl h) fun _ _=>rfl
     .rename_i e e' s rows hl;cases h;rw[hv1];exact mat_data (hh.ob n _ hl) (fun _ h=>.inl h) fun b hb=>.inr ⟨n,_,hl,hb⟩
     .rename_i e ms hl;cases h;rw[hv1];exact mps_data (hh.ob n _ hl) (fun _ h=>.inl h) fun b hb=>.inr ⟨n,_,hl,hb⟩
     cases h
    .rename_i n i;obtain⟨vs,hγ,hvi,_,_⟩:=hv;split at h
     .rename_i e e' s rows hl;split at h
      .rename_i rs hri;cases h;obtain⟨o,is,hγ2,hs,hlen,_,hin,_,_⟩:=hh.ob n _ hl;rw[hγ]at hγ2;cases hγ2;have hvi':is[i]? =some v:=by simpa using hvi
       have hro:Xm F w B e' s v rs:=hin i v _ hvi' hri;exact X2f hro (fun _ h=>.inl h) fun b hb=>.inr ⟨n,_,hl,by rw[hγ];exact⟨v,by simp[N3 hvi'],hb⟩⟩
      cases h
     cases h
    .rename_i n off;obtain⟨b,hb,rfl⟩:=hv;split at h
     .rename_i cs hl;split at h
      .rename_i ds hds;cases h;obtain⟨h1,h2⟩:=ihL cs ds hds;obtain⟨b',e,vs,hγ,hB,hh',hc⟩:=hh.ob n _ hl;rw[hb]at hγ;cases hγ
       have hlt:∀j d,(ds.drop off)[j]? =some d->off+j<vs.size:=by
        intro j d hj;rw[No]at hj;rw[hc.1,<-h1];exact(N5.1 hj).1
       refine .ptr _ b off (fun j=>vs.getD (off+j) undef) (.inr ⟨n,_,hl,by rw[hb];rfl⟩) (fun j d hj=>?_) (fun j d hj=>?_) (fun j d hj=>?_)
       .have:=hlt j d hj;rw[cell_of_row w b _ vs e (0,0) hh'];simp[this]
       .have hlt':=hlt j d hj;rw[No]at hj;obtain⟨hcell,x,hx,hr⟩:=h2 _ d hj;have hr':=hr _ (hc.2 _ x vs[off+j] hx (by simp[hlt']));have:(vs.getD (off+j) undef)=vs[off+j]:=by simp[hlt']
        rw[this];exact Xo.one (x:=.c d) (T:=T) hcell hr'
       have hlt':=hlt j d hj;rw[No]at hj;obtain⟨hcell,x,hx,hr⟩:=h2 _ d hj;have hr':=hr _ (hc.2 _ x vs[off+j] hx (by simp[hlt']));have:(vs.getD (off+j) undef)=vs[off+j]:=by simp[hlt']
       rw[this];exact hr'
      cases h
     cases h
    .rename_i f caps;split at h
     .rename_i ds hds;cases h;obtain⟨h1,h2⟩:=ihP caps ds hds;obtain⟨vs,rfl,hl,hc⟩:=hv;refine .fn f ds vs (by rw[hl,h1]) fun j d u hd hu=>?_;obtain⟨p,hp,hr⟩:=h2 j d hd;exact hr u (hc j p u hp hu)
     cases h
    cases h
   exact⟨hC,hL _ hC⟩
theorem X5g {objs:List (Nat×Ob)} (hh:HeapRel w0 B U F T objs w) {x y:CV} {v:Value} (h:brw objs x=some y) (hr:Xo F T w x v):
  Xo (fun b=>F b\/X0Q T objs b) noγ w y v:=by
 unfold brw at h;split at h
 .cases h;exact trivial
 .cases h;exact CRel.mono (fun _ h=>.inl h) (fun _ _=>rfl) hr
 .cases h;obtain⟨vs,hv,hl,_⟩:=hr;exact⟨vs,hv,hl,by simp⟩
 simp only[N8]at h;obtain⟨d,hd,rfl⟩:=h;exact(X5W hh 4).1 x d v hd hr
theorem X0D {objs:List (Nat×Ob)} (hh:HeapRel w0 B U F T objs w):∀{xs ys:List CV},brwL objs xs=some ys->ys.length=xs.length/\∀(j:Nat) (y:CV),ys[j]? =some y->∃x,xs[j]? =some x/\brw objs x=some y
 |[],ys,h=>by cases h;simp
 | x ::xs,ys,h=>by
   simp only[brwL]at h;split at h
   .rename_i y m hy hm;cases h;obtain⟨h1,h2⟩:=X0D hh hm;refine⟨by simp[h1],fun j z hz=>?_⟩;cases j with
    |zero=>cases hz;exact⟨x,rfl,hy⟩
    |succ j=>exact h2 j z hz
   cases h
theorem X8y {objs:List (Nat×Ob)} (hh:HeapRel w0 B U F T objs w) {r:RV} {t:TV} {v:Value} (h:X3k objs r=some t) (hr:X9 F T w r v):
  XJ (fun b=>F b\/X0Q T objs b) noγ w t v:=by
 unfold X3k at h;split at h
 .split at h
  .rename_i y hy;cases h;exact X5g hh hy hr
  cases h
 .split at h
  .rename_i xs _ ys hy;cases h;obtain⟨vs,rfl,hs,hc⟩:=hr;obtain⟨h1,h2⟩:=X0D hh hy;refine⟨vs,rfl,by rw[hs,h1],fun j y u hyj hu=>?_⟩;obtain⟨x,hx,hb⟩:=h2 j y hyj;exact X5g hh hb (hc j x u hx hu)
  cases h
 cases h
theorem X8f {objs:List (Nat×Ob)} {x y:CV} {v:Value} (hx:x.ownB=false) (h:brw objs x=some y) (hr:Xo F T w x v):Xo F noγ w y v:=by
 unfold brw at h;split at h
 .cases h;exact trivial
 .cases h;exact hr
 .cases h;obtain⟨vs,hv,hl,_⟩:=hr;exact⟨vs,hv,hl,by simp⟩
 simp only[N8]at h;obtain⟨d,hd,rfl⟩:=h;cases x with
 |own n=>cases hx
 |sub n i=>cases hx
 |at_ n off=>cases hx
 | fn f caps=>
   simp only[CV.ownB,Bool.not_eq_false',Dm]at hx;subst hx;unfold WS X1J at hd;cases hd;obtain⟨vs,rfl,hl,_⟩:=hr;exact CRel.fn f [] vs hl (by simp)
 |c d'=>unfold WS at hd;cases hd;exact hr
 |_=>unfold WS at hd;cases hd
theorem X5S {objs:List (Nat×Ob)} (hh:HeapRel w0 B U F T objs w) {r:RV} {t:TV} {v:Value} (hx:r.ownB=false) (h:X3k objs r=some t) (hr:X9 F T w r v):XJ F noγ w t v:=by
 unfold X3k at h;split at h
 .split at h
  .rename_i y hy;cases h;exact X8f hx hy hr
  cases h
 .split at h
  .rename_i xs _ ys hy;cases h;obtain⟨vs,rfl,hs,hc⟩:=hr;obtain⟨h1,h2⟩:=X0D hh hy;refine⟨vs,rfl,by rw[hs,h1],fun j y u hyj hu=>?_⟩;obtain⟨x,hxj,hb⟩:=h2 j y hyj;refine X8f ?_ hb (hc j x u hxj hu);simp only[RV.ownB]at hx;rw[Du]at hx;simpa using hx x (N3 hxj)
  cases h
 cases h
theorem X1X {objs:List (Nat×Ob)} {g:Operand->RV}:∀{xs:List Operand} {ts:List TV},X1w objs g xs=some ts->ts.length=xs.length/\∀(j:Nat) (t:TV),ts[j]? =some t->∃x,xs[j]? =some x/\X3k objs (g x)=some t
 |[],ts,h=>by cases h;simp
 | x ::xs,ts,h=>by
   simp only[X1w]at h;split at h
   .rename_i y m hy hm;cases h;obtain⟨h1,h2⟩:=X1X hm;refine⟨by simp[h1],fun j z hz=>?_⟩;cases j with
    |zero=>cases hz;exact⟨x,rfl,hy⟩
    |succ j=>exact h2 j z hz
   cases h
theorem Xo.only {ob:Bool} {d:Nat} {T':Nat->Value} {x:CV} {v:Value} (h:x.onlyB ob d=true) (hd:ob=true->T' d=T d) (hr:Xo F T w x v):Xo F T' w x v:=by
 cases x with
 |any=>trivial
 |gd b x=>cases h
 |c d=>exact hr
 | own n=>
   simp only[CV.onlyB,N4,beq_iff_eq]at h;obtain⟨h1,rfl⟩:=h;simp only[Xo]at*;rw[hd h1];exact hr
 | at_ n off=>
   simp only[CV.onlyB,N4,beq_iff_eq]at h;obtain⟨h1,rfl⟩:=h;simp only[Xo]at*;rw[hd h1];exact hr
 | el n s i off=>
   simp only[CV.onlyB,N4,beq_iff_eq]at h;obtain⟨h1,rfl⟩:=h;simp only[Xo]at*;rw[hd h1];exact hr
 | sub n i=>
   simp only[CV.onlyB,N4,beq_iff_eq]at h;obtain⟨h1,rfl⟩:=h;simp only[Xo]at*;rw[hd h1];exact hr
 | el2 n s i j off=>
   simp only[CV.onlyB,N4,beq_iff_eq]at h;obtain⟨h1,rfl⟩:=h;simp only[Xo]at*;rw[hd h1];exact hr
 | fn f caps=>
   simp only[CV.onlyB,Dm]at h;subst h;obtain⟨vs,hv,hl,_⟩:=hr;exact⟨vs,hv,hl,by simp⟩
theorem XJ.only {ob:Bool} {d:Nat} {T':Nat->Value} {x:TV} {v:Value} (h:x.onlyB ob d=true) (hd:ob=true->T' d=T d) (hr:XJ F T w x v):XJ F T' w x v:=by
 cases x with
 |one x=>exact Xo.only h hd hr
 | agg xs=>
   obtain⟨vs,rfl,hs,hc⟩:=hr;simp only[TV.onlyB,Nh]at h;exact⟨vs,rfl,hs,fun j x u hx hu=>(hc j x u hx hu).only (h x (N3 hx)) hd⟩
theorem X9.only {ob:Bool} {d:Nat} {T':Nat->Value} {x:RV} {v:Value} (h:x.onlyB ob d=true) (hd:ob=true->T' d=T d) (hr:X9 F T w x v):X9 F T' w x v:=by
 cases x with
 |v t=>exact XJ.only h hd hr
 | tup ts=>
   obtain⟨vs,rfl,hs,hc⟩:=hr;simp only[RV.onlyB,Nh]at h;exact⟨vs,rfl,hs,fun j x u hx hu=>(hc j x u hx hu).only (h x (N3 hx)) hd⟩
theorem Q4.only {T':Nat->Value} {o:Ob} {x:Value} (h:o.flat=true) (hr:Q4 F T w B x o):Q4 F T' w B x o:=by
 cases o with
 | box cs=>
   obtain⟨b,e,vs,rfl,hB,hh,hs,hc⟩:=hr;simp only[Ob.flat,Nh]at h;exact⟨b,e,vs,rfl,hB,hh,hs,fun j x u hx hu=>(hc j x u hx hu).only (h x (N3 hx)) (by simp)⟩
 |row e s rows=>exact hr
 |mp l=>exact hr
 |mat e e' s rows=>exact hr
 |refs e ns=>cases h
 |mps e ms=>cases h
 |it l seen=>cases h
theorem HeapRel.called {objs:List (Nat×Ob)} (h:HeapRel w0 B U F T objs w) (hb:Below w.heap.size w w') {N:Nat->Prop} (hN:∀b,N b->w.heap.size<=b/\b<w'.heap.size):
  HeapRel w0 B U (fun b=>F b\/N b) T objs w' where
 below:=h.below.trans (Kept.of_below hb h.hB)
 hB:=fun b hx=>NA (h.hB b hx) hb.size
 fsz b hF:=by
  rcases hF with hF|hF
  .exact NA (h.fsz b hF) hb.size
  exact(hN b hF).2
 ob n o ho:=by
  have h1:=h.ob n o ho;exact h1.mono (fun _ h=>.inl h) (fun b hF=>hb.block b (h.fsz b hF)) fun b hbk=>hb.block b (h1.blk_lt hbk).2
 apart n o ho b hbk hF:=by
  rcases hF with hF|hF
  .exact h.apart n o ho b hbk hF
  have:=(h.ob n o ho).blk_lt hbk;have:=hN b hF;omega
 sep:=h.sep
 pin:=h.pin
theorem Qu.low {B B':Nat->Prop} {e:TypeId} {s n:Nat} {x:Value} {xs:List Value} (hB:∀b,B b->B' b) (h:Qu w B' e s x n xs):Qu w B e s x n xs:=by
 refine⟨h.1,?_⟩;rcases h.2 with h|⟨b,oo,cap,cur,h1,h2,h3⟩
 .exact .inl h
 exact .inr ⟨b,oo,cap,cur,h1,fun hx=>h2 (hB _ hx),h3⟩
theorem Xm.low {B B':Nat->Prop} {e:TypeId} {s:Nat} {x:Value} {rows:List (List CD)} (hB:∀b,B b->B' b) (h:Xm F w B' e s x rows):Xm F w B e s x rows:=by
 obtain⟨h0,hs,xs,hown,h3⟩:=h;exact⟨h0,hs,xs,hown.low hB,h3⟩
theorem X4f {objs:List (Nat×Ob)} (hh:HeapRel w0 B U F T objs w) {r:RV} {f:FuncId} {own:Bool} {es:List TV} {v:Value} (h:Wh objs r=some (f,own,es)) (hr:X9 F T w r v):
  ∃us:List Value,v=.func (.func f) #[] us.toArray/\us.length=es.length/\(∀(j:Nat) t u,es[j]? =some t->us[j]? =some u->XJ (fun b=>F b\/X0Q T objs b) noγ w t u)/\
   (own=false->∀(j:Nat) t u,es[j]? =some t->us[j]? =some u->XJ F noγ w t u):=by
 unfold Wh at h;split at h
 .rename_i f caps;split at h
  .rename_i ds hds;cases h;obtain⟨h1,h2⟩:=(X5W hh 4).2.2 caps ds hds;obtain⟨vs,rfl,hl,hc⟩:=hr;refine⟨vs,rfl,by simp[hl,h1],fun j t u ht hu=>?_,fun ho j t u ht hu=>?_⟩
   .rw[Nf]at ht;simp only[N8]at ht;obtain⟨d,hd,rfl⟩:=ht;obtain⟨p,hp,hr⟩:=h2 j d hd;exact hr u (hc j p u hp hu)
   simp only[Bool.not_eq_false',Dm]at ho;subst ho;have:ds=[]:=Np (by simpa using h1);subst this;simp at ht
  cases h
 .rename_i f ds;cases h;have hr':CRel F w (.fn f ds) v:=hr;cases hr' with
  | fn _ _ vs hl hc=>
    have key:∀(j:Nat) t u,(ds.map fun d=>TV.one (.c d))[j]? =some t->vs[j]? =some u->XJ F noγ w t u:=by
     intro j t u ht hu;rw[Nf]at ht;simp only[N8]at ht;obtain⟨d,hd,rfl⟩:=ht;exact hc j d u hd hu
    exact⟨vs,rfl,by simp[hl],fun j t u ht hu=>(key j t u ht hu).mono (fun _ h=>.inl h) fun _ _=>rfl,fun _=>key⟩
 cases h
theorem X1a {s:HS} {a:Act} {o:Oper} {g:Operand->RV} {K:Nat->RV->Option Ob->Prop} (h:Rel w0 B U F T s a w) (hg:∀x,X9 F T w (g x) (a.eval x)) (hc:X16 P s g o K) {Kc:Act->World->Prop} {Q:Exit->Act->World->Prop}
  (hK:∀d r ob F' T' v w',o.dst=some d->Q3 s (some d)=true->K d r ob->(∀b,F b->F' b)->(∀b,F' b->F b\/¬B b)->Rel w0 B U F' T' (s.made d ob) a w'->X9 F' T' w' r v->Kc (a.put o.dst v) w')
  :o.wp P a w Kc Q:=by
 unfold X16 at hc;split at hc
 .rename_i x args ts d ho hd;split at hc
  .rename_i f own es tvs hf hts;obtain⟨fresh,r,ob,⟨hcall,hcon⟩,hown,hunm,honly,hflat,hok,hk⟩:=hc;obtain⟨us,hv',hul,hes,hesd⟩:=X4f h.heap hf (hg x)
   have hrun:(execOp a.eval o).run P w=.ok (.enter f (args.map a.eval++us.toArray)) w:=by
    unfold XZ at hcall;split at hcall
    .rename_i fn hfn;simp only[N4,Nk]at hcall;have hnm:¬fn.name= "runtime.NumGoroutine" :=by simpa using hcall.1
     have hnb:¬fn.body=none:=by
      intro hb;rw[hb]at hcall;cases hcall.2
     simp[execOp,ho,resolve,hv',Deferred.ofValue,invoke,callFunc,hfn,hnm,hnb]
    cases hcall
   unfold Oper.wp;rw[hrun,Oper.upon_enter];obtain⟨hl,hts'⟩:=X1X hts
   -- the set of blocks that the callee may look at
   have hcase:∃F2:Nat->Prop,(∀b,F2 b->b<w.heap.size)/\(fresh=false->∀b,F2 b->F b)/\
     ∀(j:Nat) t u,(tvs++es)[j]? =some t->(args.map a.eval++us.toArray)[j]? =some u->XJ F2 noγ w t u:=by
    have hget:∀(j:Nat) x u,args.toList[j]? =some x->(args.map a.eval)[j]? =some u->u=a.eval x:=by
     intro j x u hx hu;have hx':args[j]? =some x:=by simpa using hx
     rw[Array.getElem?_map,hx']at hu;simpa using hu.symm
    have hsz:(args.map a.eval).size=tvs.length:=by rw[Array.size_map,hl,Array.length_toList]
    have both:∀G:Nat->Prop,(∀(j:Nat) t u,tvs[j]? =some t->(args.map a.eval)[j]? =some u->XJ G noγ w t u)->(∀(j:Nat) t u,es[j]? =some t->us[j]? =some u->XJ G noγ w t u)->
      ∀(j:Nat) t u,(tvs++es)[j]? =some t->(args.map a.eval++us.toArray)[j]? =some u->XJ G noγ w t u:=by
     intro G h1 h2 j t u ht hu;by_cases hj:j<tvs.length
     .rw[Nm hj]at ht;rw[NQ (by omega)]at hu;exact h1 j t u ht hu
     rw[Nl (D4 hj)]at ht;rw[Array.getElem?_append_right (by omega),hsz]at hu;exact h2 _ t u ht (by simpa using hu)
    rcases hown with rfl|hown
    .refine⟨fun b=>F b\/X0Q T s.objs b,?_,by simp,both _ ?_ hes⟩
     .rintro b (hb|⟨n,o',hl',hb⟩)
      .exact h.heap.fsz b hb
      exact((h.heap.ob n o' hl').blk_lt hb).2
     intro j t u ht hu;obtain⟨y,hy,hbr⟩:=hts' j t ht;rw[hget j y u hy hu];exact X8y h.heap hbr (hg y)
    simp only[NH]at hown;refine⟨F,h.heap.fsz,fun _ _ h=>h,both _ ?_ (hesd hown.1)⟩;intro j t u ht hu;obtain⟨y,hy,hbr⟩:=hts' j t ht;rw[hget j y u hy hu];refine X5S h.heap ?_ hbr (hg y);have hown2:=hown.2;rw[Du]at hown2;simpa using hown2 y (N3 hy)
   obtain⟨F2,hF2,hF2F,hargs⟩:=hcase;refine(hcon F2 w (args.map a.eval++us.toArray) hF2 (by simp[hl,hul]) hargs).mono ?_;rintro e w' ⟨v,N,T',rfl,hb,hN,hr,hobj⟩
   have hres:∀b,Res fresh F2 N b->F b\/N b:=by
    rintro b (hb|⟨hfr,hb⟩)
    .exact .inr hb
    exact .inl (hF2F hfr b hb)
   have hheap:=h.heap.called hb hN;have hFk:∀b,F b->w'.heap[b]? =w.heap[b]? :=fun b hF=>hb.block b (h.heap.fsz b hF)
   have hNB:∀b,(F b\/N b)->F b\/¬B b:=by
    rintro b (hb|hb)
    .exact .inl hb
    exact .inr fun hx=>De _ (NA (h.heap.hB b hx) (hN b hb).1)
   cases ob with
   | none=>
     refine hK d r none (fun b=>F b\/N b) T v w' hd hok hk (fun _ h=>.inl h) hNB ?_ ((hr.mono hres fun _ _=>rfl).only honly (by simp));exact⟨hheap,h.defers,h.nt,fun k r hl=>(h.regs k r hl).mono (fun _ h=>.inl h) hFk⟩
   | some o'=>
     obtain⟨ho1,ho2⟩:=hobj o' rfl;have hun:=hunm rfl;have hnew:∀b,Blk (T' d) b->w.heap.size<=b:=fun b hb=>D4 (ho1.blk_lt hb).1;have hfl:=hflat o' rfl;have hob':Q4 (fun b=>F b\/N b) (upd T d (T' d)) w' (fun b=>b<w.heap.size) (T' d) o':=(ho1.mono hres (fun _ _=>rfl) (fun _ _=>rfl)).only hfl
     have hobB:Q4 (fun b=>F b\/N b) (upd T d (T' d)) w' B (T' d) o':=by
      cases o' with
      |box cs=>obtain⟨b,e,vs,h1,h2,h3⟩:=hob';exact⟨b,e,vs,h1,fun hx=>h2 (h.heap.hB _ hx),h3⟩
      |row e' s' rows=>exact Xm.low (fun b hx=>h.heap.hB b hx) hob'
      |mp l=>obtain⟨b,es,clock,h1,h2,h3⟩:=hob';exact⟨b,es,clock,h1,fun hx=>h2 (h.heap.hB _ hx),h3⟩
      | mat e e' s' rows=>
        obtain⟨o,is,h1,h2,h3,⟨xs,h4,h5⟩,h6,h7⟩:=hob';refine⟨o,is,h1,h2,h3,⟨xs,h4.low (fun b hx=>h.heap.hB b hx),h5⟩,fun i v r hv hr=>?_,h7⟩;have:=h6 i v r hv hr;cases r with
        |none=>exact this
        |some rr=>exact Xm.low (fun b hx=>h.heap.hB b hx) this
      |refs e ns=>cases hfl
      |mps e ms=>cases hfl
      |it l seen=>cases hfl
     have hheap':HeapRel w0 B U (fun b=>F b\/N b) (upd T d (T' d)) (ins d o' s.objs) w':={
      below:=hheap.below
      hB:=hheap.hB
      fsz:=hheap.fsz
      ob:=fun n o ho=>by
       rw[Qb]at ho;split at ho
       .rename_i e;cases ho;subst e;rw[XH];exact hobB
       rename_i e;rw[Xq _ e];exact(hheap.ob n o ho).upd (ZF hun n o ho).2
      apart:=fun n o ho b hbk hF=>by
       rw[Qb]at ho;split at ho
       .rename_i e;rw[e,XH]at hbk;rcases hF with hF|hF
        .have:=hnew b hbk;have:=h.heap.fsz b hF;omega
        exact ho2 b hbk hF
       rename_i e;rw[Xq _ e]at hbk;exact hheap.apart n o ho b hbk hF
      sep:=fun n m on om hn hm hne b hbn hbm=>by
       rw[Qb]at hn hm;split at hn
       .rename_i e;rw[e,XH]at hbn;split at hm
        .rename_i e';exact hne (e.trans e'.symm)
        rename_i e';rw[Xq _ e']at hbm;have h1:=hnew b hbn;have h2:=(h.heap.ob m om hm).blk_lt hbm;omega
       rename_i e;rw[Xq _ e]at hbn;split at hm
       .rename_i e';rw[e',XH]at hbm;have h1:=hnew b hbm;have h2:=(h.heap.ob n on hn).blk_lt hbn;omega
       rename_i e';rw[Xq _ e']at hbm;exact h.heap.sep n m on om hn hm hne b hbn hbm
      pin:=fun n v hv=>by
       obtain⟨h1,h2⟩:=h.heap.pin n v hv;have:=X1b hun
       exact⟨h1,by rw[Xq _ (by omega)];exact h2⟩}
     refine hK d r (some o') (fun b=>F b\/N b) (upd T d (T' d)) v w' hd hok hk (fun _ h=>.inl h) hNB ?_ ((hr.mono hres fun _ _=>rfl).only honly (fun _=>by rw[XH]));exact⟨hheap',h.defers,h.nt,fun k r hl=>((h.regs k r hl).mono (fun _ h=>.inl h) hFk).upd (Zz hun hl)⟩
  exact hc.elim
 exact hc.elim
theorem X6R {s:HS} {a:Act} {o:Oper} {K:HS->Prop} (h:Rel w0 B U F T s a w) (hc:X8G P s o K) {Kc:Act->World->Prop} {Q:Exit->Act->World->Prop}
  (hK:∀s' F' T' a' w',K s'->(∀b,F b->F' b)->(∀b,F' b->F b\/¬B b)->Rel w0 B U F' T' s' a' w'->Kc a' w')
  :o.wp P a w Kc Q:=by
 refine X1a h h.opd hc fun d r ob F' T' v w' hd hok hk h1 h2 hr hv=>?_;refine hK _ F' T' _ _ hk h1 h2 ?_;rw[hd];have hok':Q3 (s.made d ob) (some d)=true:=by cases ob<;>exact hok
 exact hr.step (objs':=(s.made d ob).objs) hok' hr.heap hv fun _ _ _ _ h=>h
theorem X7s {s:HS} {a:Act} {o:Oper} {K:HS->Prop} (h:Rel w0 B U F T s a w) (hc:callG P s true o K) {Kc:Act->World->Prop} {Q:Exit->Act->World->Prop}
  (hK:∀s' F' T' a' w',K s'->(∀b,F b->F' b)->(∀b,F' b->F b\/¬B b)->Rel w0 B U F' T' s' a' w'->Kc a' w')
  :o.wp P a w Kc Q:=by
 refine X1a h (fun x=>X1t rfl (h.opd x)) hc fun d r ob F' T' v w' hd hok hk h1 h2 hr hv=>?_;obtain⟨rfl,hk⟩:=hk;refine hK _ F' T' _ _ hk h1 h2 ?_;rw[hd];exact hr.step (s:=s) (objs':=s.objs) hok hr.heap (X0F (fun _=>hv) (by simp)) fun _ _ _ _ h=>h
theorem X8U {s:HS} {b:Bool} {o:Oper} {K:HS->Prop} (hc:callG P s b o K):∃r,Q3 s o.dst=true/\K (s.put o.dst (gdR b r)):=by
 unfold callG X16 at hc;split at hc
 .rename_i x args ts d ho hd;split at hc
  .obtain⟨fresh,r,ob,_,_,_,_,_,hok,rfl,hk⟩:=hc;rw[hd];exact⟨r,hok,hk⟩
  exact hc.elim
 exact hc.elim
end
end Go.Hl
namespace Go.Hl
open Go Go.RowKit
def wpR (P:Program) (ops:Array Oper):List Oper->HS->(HS->Prop)->Prop
 |[],s,K=>K s
 | o :: l,s,K=>match o.guard with
   | none=>(match Q9 o.op with
     | .call=>X8G P s o (fun s'=>wpR P ops l s' K)
     | _=>match X2Y P s o with
       |some s'=>wpR P ops l s' K
       |none=>False)
   | some _=>match ZV ops o s with
     | some b=>(match Q9 o.op with
       | .call=>(b=false/\Q3 s o.dst=true/\wpR P ops l (s.put o.dst (.v (.one .any))) K)\/callG P s b o (fun s'=>wpR P ops l s' K)
       | _=>match stpG P s b o with
         |some s'=>wpR P ops l s' K
         |none=>False)
     |none=>False
def HT (P:Program) (c:Code) (s:HS) (Q:Exit->HS->Prop):Prop:=
 ∀(w0:World) (B:Nat->Prop) (U:Nat->Option Value) (F:Nat->Prop) (T:Nat->Value) (a:Act) (w:World),Rel w0 B U F T s a w->
  c.wp P (fun e a' w'=>∃(s':HS) (F':Nat->Prop) (T':Nat->Value),Q e s'/\(∀b,F b->F' b)/\(∀b,F' b->F b\/¬B b)/\Rel w0 B U F' T' s' a' w') a w
def le (s s':HS):Prop:=
 ∀(w0:World) (B:Nat->Prop) (U:Nat->Option Value) (F:Nat->Prop) (T:Nat->Value) (a:Act) (w:World),Rel w0 B U F T s a w->
  ∃(F':Nat->Prop) (T':Nat->Value),(∀b,F b->F' b)/\(∀b,F' b->F b\/¬B b)/\Rel w0 B U F' T' s' a w
section
variable {P:Program} {F:Nat->Prop} {T:Nat->Value} {w w' w0:World} {B:Nat->Prop} {U:Nat->Option Value}
def boolV:Value->Option Bool
 | .bool c=>some c
 |_=>none
theorem X0I {ops:Array Oper} {j d:Nat} {a:Act} (hd:(ops[j]?).bind (·.dst)=some d) {v:Value} (hv:a.tmps.getD d undef=v):yielded ops a.tmps j=boolV v:=by
 subst hv;unfold yielded;rw[hd];simp only[Option.bind_some];rw[Nq];cases hx:a.tmps[d]? with
 |none=>simp[undef,boolV]
 |some u=>simp only[Option.getD_some];cases u<;>rfl
theorem ZJ {ops:Array Oper} {o:Oper} {s:HS} {a:Act} {b:Bool} (h:Rel w0 B U F T s a w) (hg:ZV ops o s=some b):Region.wanted o (yielded ops a.tmps)=b:=by
 unfold ZV at hg;unfold Region.wanted;split at hg
 .rename_i hn;rw[hn];cases hg;rfl
 rename_i j want hn;rw[hn];split at hg
 .rename_i d hd;split at hg
  .rename_i c hl;have hv:a.tmps.getD d undef=.bool c:=X9.lit_eq rfl (h.regs d _ hl);simp only[X0I hd hv];simp only[Option.some.injEq]at hg;subst hg;cases c<;>cases want<;>rfl
  .rename_i b' c hl;have hx:=h.regs d _ hl;simp only[Option.some.injEq]at hg;cases b' with
   | true=>
     have hv:a.tmps.getD d undef=.bool c:=by
      have h2:CRel F w (.lit (.bool c)) (a.tmps.getD d undef):=hx.1 rfl;generalize a.tmps.getD d undef=u at h2;cases h2;rfl
     simp only[X0I hd hv];subst hg;cases c<;>cases want<;>rfl
   | false=>
     have hv:a.tmps.getD d undef=undef:=hx.2 rfl;simp only[X0I hd hv];subst hg;rfl
  .rename_i hl;have hx:=h.regs d _ hl;simp only[Option.some.injEq]at hg;have hv:a.tmps.getD d undef=undef:=hx.2 rfl;simp only[X0I hd hv];subst hg;rfl
  cases hg
 cases hg
theorem X1Y {ops:Array Oper} {i:Nat} {o:Oper} {l:List Oper} {s:HS} {a:Act} {K:HS->Prop} {Kc:Act->World->Prop} {Q:Exit->Act->World->Prop} (hi:ops[i]? =some o)
  (h:Rel w0 B U F T s a w) (hw:wpR P ops (o::l) s K)
  (hK:∀s' F' T' a' w',wpR P ops l s' K->(∀b,F b->F' b)->(∀b,F' b->F b\/¬B b)->Rel w0 B U F' T' s' a' w'->Kc a' w'):wpOp P ops Q i Kc a w:=by
 unfold wpOp;rw[hi];simp only
 -- passed QL: the slot holds nothing
 have skip:∀r:RV,Q3 s o.dst=true->X9 F T w r undef->wpR P ops l (s.put o.dst r) K->Kc (a.put o.dst undef) w:=by
  intro r hok hr hk;refine hK _ F T _ _ hk (fun _ h=>h) (fun _ h=>.inl h) ?_;have:=h.step (dst:=o.dst) (r:=r) (v:=undef) (objs':=s.objs) hok h.heap hr (fun _ _ _ _ h=>h);exact this
 have exec:∀{s'},X2Y P s o=some s'->wpR P ops l s' K->o.wp P a w Kc Q:=by
  intro s' hs hk;unfold X2Y at hs;split at hs
  .rename_i r objs' he;split at hs
   .rename_i hok;cases hs;obtain⟨nx,v,w',T',hrun,hnx,hh,hr,hkeep⟩:=X4v h he;have hrel:=h.step hok hh hr hkeep;unfold Oper.wp;rw[hrun];rcases hnx with rfl|⟨rfl,rfl⟩
    .exact hK _ F T' _ _ hk (fun _ h=>h) (fun _ h=>.inl h) hrel
    exact hK _ F T' _ _ hk (fun _ h=>h) (fun _ h=>.inl h) hrel
   cases hs
  cases hs
 simp only[wpR]at hw;split at hw
 .rename_i hn;have hwant:Region.wanted o (yielded ops a.tmps)=true:=by unfold Region.wanted;rw[hn]
  rw[hwant];simp only[NG];refine .inl ?_;split at hw
  .exact X6R h hw hK
  split at hw
  .rename_i s' hs;exact exec hs hw
  exact hw.elim
 split at hw
 .rename_i b hg;rw[ZJ h hg]
  have seen:∀{r:RV},b=true->Q3 s o.dst=true->wpR P ops l (s.put o.dst (gdR b r)) K->(∃v,(execOp a.eval o).run P w=.ok (.value v) w/\X9 F T w r v)->o.wp P a w Kc Q:=by
   rintro r hb hok hk ⟨v,hrun,hr⟩;unfold Oper.wp;rw[hrun];refine hK _ F T _ _ hk (fun _ h=>h) (fun _ h=>.inl h) ?_;have:=h.step (dst:=o.dst) (r:=gdR b r) (v:=v) (objs':=s.objs) hok h.heap (X0F (fun _=>hr) (fun hf=>by rw[hb]at hf;cases hf)) (fun _ _ _ _ h=>h);exact this
  split at hw
  .cases b with
   | true=>
     simp only[NG];refine .inl ?_;rcases hw with⟨h0,_⟩|hw
     .cases h0
     exact X7s h hw hK
   | false=>
     simp only[Nz,NW];rcases hw with⟨_,hok,hk⟩|hw
     .exact skip (.v (.one .any)) hok trivial hk
     obtain⟨r,hok,hk⟩:=X8U hw;exact skip _ hok (X0F (by simp) fun _=>rfl) hk
  split at hw
  .rename_i s' hs;unfold stpG at hs;split at hs
   .rename_i hok;split at hs
    .split at hs
     .rename_i r x he;cases hs;cases b with
      | true=>
        simp only[NG];obtain⟨_,v,hrun,hr⟩:=X3u (F:=F) (T:=T) (w:=w) (fun x=>X1t rfl (h.opd x)) he;exact .inl (seen rfl hok hw ⟨v,hrun,hr⟩)
      | false=>
        simp only[Nz,NW];exact skip _ hok (X0F (by simp) fun _=>rfl) hw
     split at hs
     .rename_i hb;cases hs;subst hb;simp only[Nz,NW];exact skip (.v (.one .any)) hok trivial hw
     cases hs
    .split at hs
     .rename_i r he;cases hs;cases b with
      | true=>
        simp only[NG];obtain⟨v,hrun,hr⟩:=X1n h.heap (fun x=>X1t rfl (h.opd x)) he;exact .inl (seen rfl hok hw ⟨v,hrun,hr⟩)
      | false=>
        simp only[Nz,NW];exact skip _ hok (X0F (by simp) fun _=>rfl) hw
     split at hs
     .rename_i hb;cases hs;subst hb;simp only[Nz,NW];exact skip (.v (.one .any)) hok trivial hw
     cases hs
    cases b with
    | true=>
      simp only[NG];exact .inl (exec hs hw)
    | false=>
      cases hs;simp only[Nz,NW];exact skip (.v (.one .any)) hok trivial hw
   cases hs
  exact hw.elim
 exact hw.elim
theorem X9J {ops:Array Oper} {K:HS->Prop} {Q:Exit->Act->World->Prop}:∀(l:List Oper) (k:Nat) (s:HS) (F:Nat->Prop) (T:Nat->Value) (a:Act) (w:World),ops.toList.drop k=l->
  Rel w0 B U F T s a w->wpR P ops l s K->
  (∀s' F' T' a' w',K s'->(∀b,F b->F' b)->(∀b,F' b->F b\/¬B b)->Rel w0 B U F' T' s' a' w'->Q .normal a' w')->
  wpOps P ops Q ((List.range' k l.length)) a w
 |[],k,s,F,T,a,w,_,h,hw,hK=>hK s F T a w hw (fun _ h=>h) (fun _ h=>.inl h) h
 | o::l,k,s,F,T,a,w,hd,h,hw,hK=>by
   have hi:ops[k]? =some o:=by
    have:(ops.toList.drop k)[0]? =some o:=by rw[hd];rfl
    rw[No]at this;simpa using this
   rw[List.length_cons,List.range'_succ,wpOps_cons];refine X1Y hi h hw fun s' F' T' a' w' hw' h1 h2 hr=>?_;refine X9J l (k+1) s' F' T' a' w' ?_ hr hw' fun s2 F2 γ2 a2 w2 hk2 h3 h4 hr2=>?_
   .rw[<-List.drop_drop,hd];rfl
   refine hK s2 F2 γ2 a2 w2 hk2 (fun b hb=>h3 b (h1 b hb)) (fun b hb=>?_) hr2;rcases h4 b hb with h|h
   .exact h2 b h
   exact .inr h
theorem X3i {id:Nat} {ops:Array Oper} {s:HS} {Q:Exit->HS->Prop} (h:wpR P ops ops.toList s (Q .normal)):HT P (.region id ops false) s Q:=by
 intro w0 B U F T a w hr;refine wp_region ?_
 have:=X9J (Q:=fun e a' w'=>∃(s':HS) (F':Nat->Prop) (T':Nat->Value),Q e s'/\(∀b,F b->F' b)/\(∀b,F' b->F b\/¬B b)/\Rel w0 B U F' T' s' a' w') ops.toList 0 s F T a w (by simp) hr h
  fun s' F' T' a' w' hk h1 h2 h3=>⟨s',F',T',hk,h1,h2,h3⟩
 rw[List.range_eq_range'];simpa using this
def evs (P:Program) (ops:Array Oper):List Oper->HS->Option HS
 |[],s=>some s
 | o ::l,s=>match o.guard with
   | none=>match X2Y P s o with
     |some s'=>evs P ops l s'
     |none=>none
   | some _=>match ZV ops o s with
     | some b=>match stpG P s b o with
       |some s'=>if Q9 o.op=.call then none else evs P ops l s'
       |none=>none
     |none=>none
theorem X0G {ops:Array Oper} {K:HS->Prop}:∀(l:List Oper) (s s':HS),evs P ops l s=some s'->K s'->wpR P ops l s K
 |[],s,s',h,hk=>by cases h;exact hk
 | o :: l,s,s',h,hk=>by
   cases hgd:o.guard with
   | none=>
     simp only[evs,hgd]at h;simp only[wpR,hgd];split at h
     .rename_i s1 hs
      have hc:Q9 o.op≠ .call:=by
       intro hc;simp only[X2Y,evOp,hc]at hs;cases hs
      split
      .rename_i e;exact absurd e hc
      exact X0G l s1 s' h hk
     cases h
   | some p=>
     simp only[evs,hgd]at h;simp only[wpR,hgd];cases hg:ZV ops o s with
     |none=>rw[hg]at h;cases h
     | some b=>
       rw[hg]at h;simp only at h⊢;split at h
       .rename_i s1 hs;split at h
        .cases h
        rename_i hc;split
        .rename_i e;exact absurd e hc
        exact X0G l s1 s' h hk
       cases h
structure CR where
 fresh:Bool
 r:RV
 ob:Option Ob
def X4m (s:HS) (d:Nat) (own:Bool) (c:CR):Bool:=
 (c.fresh|| !own)&&(!c.ob.isSome||QV d s)&&c.r.onlyB c.ob.isSome d&&(match c.ob with|some o=>o.flat|none=>true)&&Q3 s (some d)
def evc (P : Program) (ops:Array Oper):List Oper->HS->List CR->Option (HS×Prop)
 |[],s,_=>some (s,True)
 | o :: l, s, cs=>match o.guard with
   | none => (match Q9 o.op with
     | .call =>match cs with
       | c ::cs=>(match o.op,o.dst with
         | .call {callee:=.value x,args:=args, .. },some d=>match Wh s.objs (opd s.regs x),X1w s.objs (opd s.regs) args.toList with
           | some (f,own,es),some ts=>if X4m s d (own||args.toList.any fun x=>(opd s.regs x).ownB) c=true then
             (match evc P ops l ((s.made d c.ob).put (some d) c.r) cs with
             |some (s',p)=>some (s',Con P f c.fresh (ts++es) c.r c.ob d/\p)
             |none=>none)
             else none
           |_,_=>none
         |_,_=>none)
       |[]=>none
     | _=>match X2Y P s o with
       |some s'=>evc P ops l s' cs
       |none=>none)
   | some _ => match ZV ops o s with
     | some b =>(match Q9 o.op with
       | .call =>match cs with
         | c ::cs=>(match o.op,o.dst with
           | .call {callee:=.value x,args:=args, .. },some d=>match Wh s.objs (Ze b (opd s.regs x)),X1w s.objs (fun x=>Ze b (opd s.regs x)) args.toList with
             | some (f,own,es),some ts=>if X4m s d (own||args.toList.any fun x=>(Ze b (opd s.regs x)).ownB) c=true/\c.ob.isNone=true then
               (match evc P ops l (s.put (some d) (gdR b c.r)) cs with
               |some (s',p)=>some (s',Con P f c.fresh (ts++es) c.r c.ob d/\p)
               |none=>none)
               else none
             |_,_=>none
           |_,_=>none)
         |[]=>none
       | _=>match stpG P s b o with
         |some s'=>evc P ops l s' cs
         |none=>none)
     |none=>none
theorem X4g {s:HS} {d:Nat} {own:Bool} {c:CR} (h:X4m s d own c=true):(c.fresh=true\/own=false)/\(c.ob.isSome=true->QV d s=true)/\c.r.onlyB c.ob.isSome d=true/\(∀o,c.ob=some o->o.flat=true)/\Q3 s (some d)=true:=by
 unfold X4m at h;simp only[N4,Ng,Nk]at h;obtain⟨⟨⟨⟨h1,h2⟩,h3⟩,h4⟩,h5⟩:=h;refine⟨h1,fun hs=>h2.resolve_left (by rw[hs];simp),h3,fun o ho=>?_,h5⟩;rw[ho]at h4;exact h4
theorem Qn {ops:Array Oper} {K:HS->Prop}:∀(l:List Oper) (s s':HS) (cs:List CR) (p:Prop),evc P ops l s cs=some (s',p)->p->K s'->wpR P ops l s K
 |[],s,s',_,p,h,_,hk=>by cases h;exact hk
 | o :: l, s, s',cs,p,h,hp,hk=>by
   cases hgd:o.guard with
   | none =>
     simp only[evc,hgd]at h;simp only[wpR,hgd];split at h
     .rename_i hc;split at h
      .rename_i c cs;split at h
       .rename_i x args ts d ho hd;split at h
        .rename_i f own es tvs hf hts;split at h
         .rename_i hok;obtain⟨h1,h2,h3,h4,h5⟩:=X4g hok;split at h
          .rename_i s2 p2 hev;cases h;unfold X8G X16;rw[ho,hd];simp only[hf,hts];exact⟨c.fresh,c.r,c.ob,hp.1,h1,h2,h3,h4,h5,Qn l _ _ cs _ hev hp.2 hk⟩
          cases h
         cases h
        cases h
       cases h
      cases h
     rename_i hc;split at h
     .rename_i s1 hs;exact Qn l s1 s' cs p h hp hk
     cases h
   | some q =>
     simp only[evc,hgd]at h;simp only[wpR,hgd];cases hg:ZV ops o s with
     |none=>rw[hg]at h;cases h
     | some b =>
       rw[hg]at h;simp only at h⊢;split at h
       .rename_i hc;split at h
        .rename_i c cs;split at h
         .rename_i x args ts d ho hd;split at h
          .rename_i f own es tvs hf hts;split at h
           .rename_i hok;obtain⟨h1,h2,h3,h4,h5⟩:=X4g hok.1;split at h
            .rename_i s2 p2 hev;cases h;refine .inr ?_;unfold callG X16;rw[ho,hd];simp only[hf,hts];exact⟨c.fresh,c.r,c.ob,hp.1,h1,h2,h3,h4,h5,by simpa using hok.2,Qn l _ _ cs _ hev hp.2 hk⟩
            cases h
           cases h
          cases h
         cases h
        cases h
       rename_i hc;split at h
       .rename_i s1 hs;exact Qn l s1 s' cs p h hp hk
       cases h
theorem Wk {id:Nat} {ops:Array Oper} {s s':HS} {p:Prop} {Q:Exit->HS->Prop} (cs:List CR) (h:evc P ops ops.toList s cs=some (s',p)) (hp:p) (hq:Q .normal s'):HT P (.region id ops false) s Q:=
 X3i (Qn _ _ _ _ _ h hp hq)
theorem XF {id:Nat} {ops:Array Oper} {s s':HS} {Q:Exit->HS->Prop} (h:evs P ops ops.toList s=some s') (hq:Q .normal s'):HT P (.region id ops false) s Q:=
 X3i (X0G _ _ _ h hq)
theorem Q6 {c:Code} {s s':HS} {Q:Exit->HS->Prop} (hl:le s s') (h:HT P c s' Q):HT P c s Q:=by
 intro w0 B U F T a w hr;obtain⟨F',T',h1,h2,hr'⟩:=hl w0 B U F T a w hr;refine wp_mono (h w0 B U F' T' a w hr') ?_;rintro e a' w' ⟨s2,F2,γ2,hq,h3,h4,hr2⟩;exact⟨s2,F2,γ2,hq,fun b hb=>h3 b (h1 b hb),fun b hb=>(h4 b hb).elim (h2 b) .inr,hr2⟩
theorem HT_mono {c:Code} {s:HS} {Q Q':Exit->HS->Prop} (h:HT P c s Q) (hq:∀e s',Q e s'->Q' e s'):HT P c s Q':=by
 intro w0 B U F T a w hr;refine wp_mono (h w0 B U F T a w hr) ?_;rintro e a' w' ⟨s2,F2,γ2,hq',h3⟩;exact⟨s2,F2,γ2,hq e s2 hq',h3⟩
def X5C (P:Program) (c:Code) (Q:Exit->HS->Prop):Exit->HS->Prop
 | .normal,s=>HT P c s Q
 |e,s=>Q e s
def X8s (id:Nat) (Q:Exit->HS->Prop):Exit->HS->Prop
 | .exit k,s=>if k=id then Q .normal s else Q (.exit k) s
 |e,s=>Q e s
def X5N (I:HS->Prop) (Q:Exit->HS->Prop):Exit->HS->Prop
 | .normal,s=>I s
 |e,s=>Q e s
theorem X0 {x y:Code} {s:HS} {Q:Exit->HS->Prop} (h:HT P x s (X5C P y Q)):HT P (.seq x y) s Q:=by
 intro w0 B U F T a w hr;refine wp_seq (wp_mono (h w0 B U F T a w hr) ?_);rintro e a' w' ⟨s',F',T',hq,h1,h2,hr'⟩;cases e with
 | normal=>
   refine wp_mono (hq w0 B U F' T' a' w' hr') ?_;rintro e2 a2 w2 ⟨s2,F2,γ2,hq2,h3,h4,hr2⟩;exact⟨s2,F2,γ2,hq2,fun b hb=>h3 b (h1 b hb),fun b hb=>(h4 b hb).elim (h2 b) .inr,hr2⟩
 |_=>exact⟨s',F',T',hq,h1,h2,hr'⟩
theorem HT_cut {I:Type} {x y:Code} {s:HS} {Q:Exit->HS->Prop} (M:I->HS) (J:I->Prop) (h:HT P x s (X5N (fun s'=>∃z,J z/\le s' (M z)) Q)) (h2:∀z,J z->HT P y (M z) Q):HT P (.seq x y) s Q:=by
 refine X0 (HT_mono h ?_);intro e s' hq;cases e with
 |normal=>obtain⟨z,hj,hl⟩:=hq;exact Q6 hl (h2 z hj)
 |_=>exact hq
theorem X3 {id:Nat} {c:Code} {s:HS} {Q:Exit->HS->Prop} (h:HT P c s (X8s id Q)):HT P (.block id c) s Q:=by
 intro w0 B U F T a w hr;refine wp_block (wp_mono (h w0 B U F T a w hr) ?_);rintro e a' w' ⟨s',F',T',hq,h1,h2,hr'⟩;cases e with
 | exit k=>
   simp only[Exit.inBlock];simp only[X8s]at hq;split
   .rename_i e;rw[N9 e]at hq;exact⟨s',F',T',hq,h1,h2,hr'⟩
   rename_i e;rw[N6 e]at hq;exact⟨s',F',T',hq,h1,h2,hr'⟩
 |_=>exact⟨s',F',T',hq,h1,h2,hr'⟩
theorem X6 {s:HS} {Q:Exit->HS->Prop} (h:Q .normal s):HT P .skip s Q:=
 fun _ _ _ F T _ _ hr=>wp_skip ⟨s,F,T,h,fun _ h=>h,fun _ h=>.inl h,hr⟩
theorem Xn {s:HS} {Q:Exit->HS->Prop} (h:Q .ret s):HT P .ret s Q:=
 fun _ _ _ F T _ _ hr=>wp_ret ⟨s,F,T,h,fun _ h=>h,fun _ h=>.inl h,hr⟩
theorem Xd {id:Nat} {s:HS} {Q:Exit->HS->Prop} (h:Q (.exit id) s):HT P (.exit id) s Q:=
 fun _ _ _ F T _ _ hr=>wp_exit ⟨s,F,T,h,fun _ h=>h,fun _ h=>.inl h,hr⟩
theorem X6w {c:Operand} {x y:Code} {s:HS} {Q:Exit->HS->Prop} {t:Bool} (hc:opd s.regs c=.v (.one (.c (.lit (.bool t)))))
  (ht:t=true->HT P x s Q) (hf:t=false->HT P y s Q):HT P (.cond c x y) s Q:=by
 intro w0 B U F T a w hr;have hx:=hr.opd c;rw[hc]at hx;have hv:a.eval c=.bool t:=X9.lit_eq rfl hx;exact wp_cond_split hv (fun e=>ht e w0 B U F T a w hr) (fun e=>hf e w0 B U F T a w hr)
theorem HT_loop {I:Type} {c:Code} {s:HS} {Q:Exit->HS->Prop} (S:I->HS) (J:I->Prop) (μ:I->Nat) (x0:I) (j0:J x0) (h0:le s (S x0))
  (round:∀x,J x->HT P c (S x) (X5N (fun s'=>∃x',J x'/\μ x'<μ x/\le s' (S x')) Q)):HT P (.loop c) s Q:=by
 intro w0 B U F T a w hr;obtain⟨F0,γ0,h1,h2,hr0⟩:=h0 w0 B U F T a w hr;refine wp_loop_ghost (fun n a w=>∃x F' T',J x/\μ x=n/\(∀b,F b->F' b)/\(∀b,F' b->F b\/¬B b)/\Rel w0 B U F' T' (S x) a w) (μ x0) ⟨x0,F0,γ0,j0,rfl,h1,h2,hr0⟩ ?_;rintro n a w ⟨x,F',T',hj,rfl,h3,h4,hr'⟩;refine wp_mono (round x hj w0 B U F' T' a w hr') ?_;rintro e a' w' ⟨s',F2,γ2,hq,h5,h6,hr2⟩;cases e with
 | normal=>
   obtain⟨x',hj',hlt,hle⟩:=hq;obtain⟨F3,γ3,h7,h8,hr3⟩:=hle w0 B U F2 γ2 a' w' hr2;exact⟨μ x',hlt,x',F3,γ3,hj',rfl,fun b hb=>h7 b (h5 b (h3 b hb)),fun b hb=>(h8 b hb).elim (fun h=>(h6 b h).elim (h4 b) .inr) .inr,hr3⟩
 |_=>exact⟨s',F2,γ2,hq,fun b hb=>h5 b (h3 b hb),fun b hb=>(h6 b hb).elim (h4 b) .inr,hr2⟩
end
def CV.ren (Y:Nat->Nat) (nils:List Nat):CV->CV
 | .own n=>if nils.contains n then .c (.lit XR)else .own (Y n)
 | .at_ n off=>if nils.contains n then .at_ n off else .at_ (Y n) off
 | .el n s i off=>if nils.contains n then .el n s i off else .el (Y n) s i off
 | .sub n i=>if nils.contains n then .sub n i else .sub (Y n) i
 | .el2 n s i j off=>if nils.contains n then .el2 n s i j off else .el2 (Y n) s i j off
 | .fn f caps=>.fn f (caps.map fun p=>(Y p.1,p.2))
 | .gd b x=>.gd b (x.ren Y nils)
 |x=>x
def TV.ren (Y:Nat->Nat) (nils:List Nat):TV->TV
 | .one x=>.one (x.ren Y nils)
 | .agg xs=>.agg (xs.map (CV.ren Y nils))
def RV.ren (Y:Nat->Nat) (nils:List Nat):RV->RV
 | .v t=>.v (t.ren Y nils)
 | .tup ts=>.tup (ts.map (TV.ren Y nils))
def Ob.ren (Y:Nat->Nat) (nils:List Nat):Ob->Ob
 | .box cs=>.box (cs.map (CV.ren Y nils))
 | .refs e ns=>.refs e (ns.map Y)
 |o=>o
def CV.okNil (nils:List Nat):CV->Bool
 | .at_ n _=> !nils.contains n
 | .el n _ _ _=> !nils.contains n
 | .sub n _=> !nils.contains n
 | .el2 n _ _ _ _=> !nils.contains n
 | .fn _ caps=>caps.all fun p=> !nils.contains p.1
 | .gd _ x=>x.okNil nils
 |_=>true
def TV.okNil (nils:List Nat):TV->Bool
 | .one x=>x.okNil nils
 | .agg xs=>xs.all (CV.okNil nils)
def RV.okNil (nils:List Nat):RV->Bool
 | .v t=>t.okNil nils
 | .tup ts=>ts.all (TV.okNil nils)
def Ob.okNil (nils:List Nat):Ob->Bool
 | .box cs=>cs.all (CV.okNil nils)
 | .refs _ ns=>ns.all fun n=> !nils.contains n
 |_=>true
def CV.menA (d:Nat):CV->Bool
 | .at_ n _=>n==d
 | .sub n _=>n==d
 | .el2 n _ _ _ _=>n==d
 | .fn _ caps=>caps.any fun p=>p.1==d
 | .gd _ x=>x.menA d
 |_=>false
def TV.menA (d:Nat):TV->Bool
 | .one x=>x.menA d
 | .agg xs=>xs.any (CV.menA d)
def RV.menA (d:Nat):RV->Bool
 | .v t=>t.menA d
 | .tup ts=>ts.any (TV.menA d)
def Ob.menA (d:Nat):Ob->Bool
 | .box cs=>cs.any (CV.menA d)
 |_=>false
def ZM {T:Type} (p:Nat->T->Prop):List (Nat×T)->Prop
 |[]=>True
 |(k,x)::l=>p k x/\ZM p l
theorem X12 {T:Type} {p:Nat->T->Prop}:∀{l:List (Nat×T)},ZM p l->∀k x,(k,x)∈l->p k x
 | (k,x)::l,h,k',x',hm=>by
   rcases Ni.1 hm with e|hm
   .cases e;exact h.1
   exact X12 h.2 k' x' hm
section
variable {P:Program} {F:Nat->Prop} {T T':Nat->Value} {w w' w0:World} {B:Nat->Prop} {U:Nat->Option Value} {Y:Nat->Nat} {nils:List Nat}
theorem Xo.ren (h1:∀n,nils.contains n=false->T' n=T (Y n)) (h2:∀n,nils.contains n=true->T' n=XR) {x:CV} {v:Value} (hk:x.okNil nils=true) (h:Xo F T w (x.ren Y nils) v):Xo F T' w x v:=by
 induction x with
 |gd b x ih=>exact⟨fun hb=>ih hk (h.1 hb),h.2⟩
 |any=>trivial
 |c d=>exact h
 | own n=>
   simp only[CV.ren]at h;split at h
   .rename_i hn;have e:v=XR:=by cases h;rfl
    exact⟨by rw[h2 n hn,e];rfl,by rw[e];rfl⟩
   rename_i hn;simp only[Xo]at*;rw[h1 n (by simpa using hn)];exact h
 | at_ n off=>
   simp only[CV.okNil,Nk]at hk;simp only[CV.ren,hk,Nz,NW]at h;simp only[Xo]at*;rw[h1 n hk];exact h
 | el n s i off=>
   simp only[CV.okNil,Nk]at hk;simp only[CV.ren,hk,Nz,NW]at h;simp only[Xo]at*;rw[h1 n hk];exact h
 | sub n i=>
   simp only[CV.okNil,Nk]at hk;simp only[CV.ren,hk,Nz,NW]at h;simp only[Xo]at*;rw[h1 n hk];exact h
 | el2 n s i j off=>
   simp only[CV.okNil,Nk]at hk;simp only[CV.ren,hk,Nz,NW]at h;simp only[Xo]at*;rw[h1 n hk];exact h
 | fn f caps=>
   simp only[CV.okNil,Nh,Nk]at hk;obtain⟨vs,hv,hl,hc⟩:=h;refine⟨vs,hv,by simpa using hl,fun j p u hp hu=>?_⟩;rw[h1 p.1 (hk p (N3 hp))];exact hc j (Y p.1,p.2) u (by simp[hp]) hu
theorem Xi.ren (h1:∀n,nils.contains n=false->T' n=T (Y n)) (h2:∀n,nils.contains n=true->T' n=XR) {xs:List CV} {vs:Array Value} (hk:xs.all (CV.okNil nils)=true)
  (h:Xi F T w (xs.map (CV.ren Y nils)) vs):Xi F T' w xs vs:=by
 refine⟨by simpa using h.1,fun j x u hx hu=>?_⟩;rw[Nh]at hk;exact(h.2 j (x.ren Y nils) u (by simp[hx]) hu).ren h1 h2 (hk x (N3 hx))
theorem XJ.ren (h1:∀n,nils.contains n=false->T' n=T (Y n)) (h2:∀n,nils.contains n=true->T' n=XR) {x:TV} {v:Value} (hk:x.okNil nils=true) (h:XJ F T w (x.ren Y nils) v):XJ F T' w x v:=by
 cases x with
 |one x=>exact Xo.ren h1 h2 hk h
 |agg xs=>obtain⟨vs,rfl,hc⟩:=h;exact⟨vs,rfl,hc.ren h1 h2 hk⟩
theorem X9.ren (h1:∀n,nils.contains n=false->T' n=T (Y n)) (h2:∀n,nils.contains n=true->T' n=XR) {x:RV} {v:Value} (hk:x.okNil nils=true) (h:X9 F T w (x.ren Y nils) v):X9 F T' w x v:=by
 cases x with
 |v t=>exact XJ.ren h1 h2 hk h
 | tup ts=>
   obtain⟨vs,rfl,hs,hc⟩:=h;refine⟨vs,rfl,by simpa using hs,fun j t u ht hu=>?_⟩;simp only[RV.okNil,Nh]at hk;exact(hc j (t.ren Y nils) u (by simp[ht]) hu).ren h1 h2 (hk t (N3 ht))
def WN (Y:Nat->Nat) (n:Nat):Nat:=if 1000000<=n then n else Y n
theorem QJ {s s':HS} (Y:Nat->Nat) (nils:List Nat) (hn:s'.nt=s.nt)
  (hr:ZM (fun k r=>r.okNil nils=true/\opd s.regs (.tmp k)=r.ren (WN Y) nils) s'.regs)
  (ho:ZM (fun n o=>if nils.contains n then(match o with| .row _ sz []=>0<sz|_=>False)else o.okNil nils=true/\lkp s.objs (WN Y n)=some (o.ren (WN Y) nils)) s'.objs)
  (hi:ZM (fun n _=>ZM (fun m _=>n=m\/WN Y n≠WN Y m\/nils.contains n=true\/nils.contains m=true) s'.objs) s'.objs)
  (hp:nils.all (fun n=>decide (n<1000000))=true:=by rfl):le s s':=by
 intro w0 B U F T a w h
 let T':Nat->Value:=fun n=>if nils.contains n then XR else T (WN Y n)
 have h1:∀n,nils.contains n=false->T' n=T (WN Y n):=fun n h=>by simp only[T',h];rfl
 have h2:∀n,nils.contains n=true->T' n=XR:=fun n h=>by simp only[T',h,NG]
 have hobj:∀n o,lkp s'.objs n=some o->(nils.contains n=true/\∃e sz,o=.row e sz []/\0<sz)\/(nils.contains n=false/\o.okNil nils=true/\lkp s.objs (WN Y n)=some (o.ren (WN Y) nils)):=by
  intro n o hl;have:=X12 ho n o (XE hl);split at this
  .rename_i hc;refine .inl ⟨hc,?_⟩;split at this
   .exact⟨_,_,rfl,this⟩
   exact this.elim
  rename_i hc;exact .inr ⟨by simpa using hc,this⟩
 refine⟨F,T',fun _ h=>h,fun _ h=>.inl h,⟨⟨h.heap.below,h.heap.hB,h.heap.fsz,?_,?_,?_,?_⟩,h.defers,by rw[hn];exact h.nt,?_⟩⟩
 .intro n o hl;rcases hobj n o hl with⟨hc,e,sz,rfl,hsz⟩|⟨hc,hok,hl'⟩
  .rw[h2 n hc];exact⟨hsz,by simp,[],Qu.nil w B e sz,by simp,by simp[XV]⟩
  have:=h.heap.ob _ _ hl';rw[h1 n hc];cases o with
  | box cs=>
    obtain⟨b,e,vs,hx,hB,hh,hc'⟩:=this;exact⟨b,e,vs,hx,hB,hh,hc'.ren h1 h2 hok⟩
  |row e sz rows=>exact this
  |mp l=>exact this
  |mat e e' sz rows=>exact this
  | refs e ns=>
    obtain⟨b,hx,hB,hh⟩:=this;refine⟨b,by simpa using hx,hB,?_⟩;rw[hh,List.map_map];congr 3;refine List.map_congr_left fun m hm=>?_;simp only[Ob.okNil,Nh,Nk]at hok;simp only[Function.comp];rw[h1 m (hok m hm)]
  |mps e ms=>exact this
  |it l seen=>exact this
 .intro n o hl b hb;rcases hobj n o hl with⟨hc,_⟩|⟨hc,hok,hl'⟩
  .rw[h2 n hc]at hb;cases hb
  rw[h1 n hc]at hb;exact h.heap.apart _ _ hl' b hb
 .intro n m on om hln hlm hne b hbn hbm;rcases hobj n on hln with⟨hc,_⟩|⟨hc,hok,hl'⟩
  .rw[h2 n hc]at hbn;cases hbn
  rcases hobj m om hlm with⟨hc2,_⟩|⟨hc2,hok2,hl2⟩
  .rw[h2 m hc2]at hbm;cases hbm
  rw[h1 n hc]at hbn;rw[h1 m hc2]at hbm;have:=X12 (X12 hi n on (XE hln)) m om (XE hlm);rcases this with h3|h3|h3|h3
  .exact hne h3
  .exact h.heap.sep _ _ _ _ hl' hl2 h3 b hbn hbm
  .rw[hc]at h3;cases h3
  rw[hc2]at h3;cases h3
 .intro n v hv;obtain⟨h3,h4⟩:=h.heap.pin n v hv;refine⟨h3,?_⟩
  have hc:nils.contains n=false:=by
   cases hc:nils.contains n with
   |false=>rfl
   | true=>
     rw[Nh]at hp;have:=hp n (by simpa using hc);simp only[N7]at this;omega
  rw[h1 n hc];simp only[WN,N9 h3];exact h4
 intro k r hl;obtain⟨hok,he⟩:=X12 hr k r (XE hl);have:=h.opd (.tmp k);rw[he]at this;exact this.ren h1 h2 hok
theorem le_trans {s s' s'':HS} (h:le s s') (h':le s' s''):le s s'':=by
 intro w0 B U F T a w hr;obtain⟨F1,γ1,a1,a2,hr1⟩:=h w0 B U F T a w hr;obtain⟨F2,γ2,b1,b2,hr2⟩:=h' w0 B U F1 γ1 a w hr1;exact⟨F2,γ2,fun b hb=>b1 b (a1 b hb),fun b hb=>(b2 b hb).elim (a2 b) .inr,hr2⟩
theorem le_refl (s:HS):le s s:=fun _ _ _ F T _ _ hr=>⟨F,T,fun _ h=>h,fun _ h=>.inl h,hr⟩
def CV.frz (n:Nat) (d:CD):CV->CV
 | .own m=>if m=n then .c d else .own m
 | .at_ m off=>if m=n then(match d with| .ptr cs=>.c (.ptr (cs.drop off))|_=>.any)else .at_ m off
 | .el m s' i off=>if m=n then .any else .el m s' i off
 | .sub m i=>if m=n then .any else .sub m i
 | .el2 m s i j off=>if m=n then .any else .el2 m s i j off
 | .fn f caps=>if caps.any (fun p=>p.1==n)then .any else .fn f caps
 | .gd b x=>.gd b (x.frz n d)
 |x=>x
def TV.frz (n:Nat) (d:CD):TV->TV
 | .one x=>.one (x.frz n d)
 | .agg xs=>.agg (xs.map (CV.frz n d))
def RV.frz (n:Nat) (d:CD):RV->RV
 | .v t=>.v (t.frz n d)
 | .tup ts=>.tup (ts.map (TV.frz n d))
def Ob.frz (n:Nat) (d:CD):Ob->Ob
 | .box cs=>.box (cs.map (CV.frz n d))
 |o=>o
def X0R {T Y:Type} (f:T->Y):List (Nat×T)->List (Nat×Y)
 |[]=>[]
 |(k,x)::l=>(k,f x)::X0R f l
theorem X08 {T Y:Type} (f:T->Y) (n:Nat):∀l:List (Nat×T),lkp (X0R f l) n=(lkp l n).map f
 |[]=>rfl
 | (k,x)::l=>by
   simp only[X0R,lkp];split
   .rfl
   exact X08 f n l
def X4j (G:Nat->Prop) (w:World) (x:Value) (d:CD):Prop:=CRel G w d (Hl.hd x)/\∀b,x=.pointer (some ⟨b,0,none⟩)->∀cs,d=.ptr cs->∀off,CRel G w (.ptr (cs.drop off)) (.pointer (some ⟨b,off,none⟩))
theorem Xo.frz {n:Nat} {d:CD} {G:Nat->Prop} (hG:∀b,F b->G b) (hn:X4j G w (T n) d) {x:CV} {v:Value} (h:Xo F T w x v):Xo G T w (x.frz n d) v:=by
 induction x with
 |gd b x ih=>exact⟨fun hb=>ih (h.1 hb),h.2⟩
 |any=>trivial
 |c d=>exact CRel.mono hG (fun _ _=>rfl) h
 | own m=>
   simp only[CV.frz];split
   .rename_i e;subst e;rw[h.1];exact hn.1
   exact h
 | at_ m off=>
   simp only[CV.frz];split
   .rename_i e;subst e;split
    .rename_i cs;obtain⟨b,hb,rfl⟩:=h;exact hn.2 b hb cs rfl off
    trivial
   exact h
 | el m s' i off=>
   simp only[CV.frz];split
   .trivial
   exact h
 | sub m i=>
   simp only[CV.frz];split
   .trivial
   exact h
 | el2 m s' i j off=>
   simp only[CV.frz];split
   .trivial
   exact h
 | fn f caps=>
   simp only[CV.frz];split
   .trivial
   exact h
theorem Xi.frz {n:Nat} {d:CD} {G:Nat->Prop} (hG:∀b,F b->G b) (hn:X4j G w (T n) d) {xs:List CV} {vs:Array Value} (h:Xi F T w xs vs):Xi G T w (xs.map (CV.frz n d)) vs:=by
 refine⟨by simpa using h.1,fun j x u hx hu=>?_⟩;rw[Nf]at hx;simp only[N8]at hx;obtain⟨y,hy,rfl⟩:=hx;exact(h.2 j y u hy hu).frz hG hn
theorem X9.frz {n:Nat} {d:CD} {G:Nat->Prop} (hG:∀b,F b->G b) (hn:X4j G w (T n) d) {x:RV} {v:Value} (h:X9 F T w x v):X9 G T w (x.frz n d) v:=by
 have ht:∀(t:TV) v,XJ F T w t v->XJ G T w (t.frz n d) v:=by
  intro t v h;cases t with
  |one x=>exact Xo.frz hG hn h
  |agg xs=>obtain⟨vs,rfl,hc⟩:=h;exact⟨vs,rfl,hc.frz hG hn⟩
 cases x with
 |v t=>exact ht t v h
 | tup ts=>
   obtain⟨vs,rfl,hs,hc⟩:=h;refine⟨vs,rfl,by simpa using hs,fun j t u htt hu=>?_⟩;rw[Nf]at htt;simp only[N8]at htt;obtain⟨y,hy,rfl⟩:=htt;exact ht _ _ (hc j y u hy hu)
def HS.frz (x:HS) (n:Nat) (d:CD):HS:=
 {x with regs:=X0R (RV.frz n d) x.regs,objs:=X0R (Ob.frz n d) (del n x.objs)}
theorem Xa2 {x:HS} (n:Nat) {o:Ob} {d:CD} (h:lkp x.objs n=some o)
  (hn:∀{w0:World} {B:Nat->Prop} {U:Nat->Option Value} {F:Nat->Prop} {T:Nat->Value} {w:World},HeapRel w0 B U F T x.objs w->X4j (fun b=>F b\/Blk (T n) b) w (T n) d):le x (x.frz n d):=by
 intro w0 B U F T a w hr;have hob:=hr.heap.ob n _ h
 let G:Nat->Prop:=fun b=>F b\/Blk (T n) b
 have hG:∀b,F b->G b:=fun _ h=>.inl h;have hn':X4j G w (T n) d:=hn hr.heap
 have hlk:∀m o,lkp (x.frz n d).objs m=some o->m≠n/\∃o0,lkp x.objs m=some o0/\o=o0.frz n d:=by
  intro m o hl;simp only[HS.frz]at hl;rw[X08]at hl;simp only[N8]at hl;obtain⟨o0,ho0,rfl⟩:=hl;obtain⟨h1,h2⟩:=Qg ho0;exact⟨h1,o0,h2,rfl⟩
 refine⟨G,T,hG,?_,⟨⟨hr.heap.below,hr.heap.hB,?_,?_,?_,?_,hr.heap.pin⟩,hr.defers,hr.nt,?_⟩⟩
 .rintro b (hb|hb)
  .exact .inl hb
  exact .inr (hob.blk_lt hb).1
 .rintro b (hb|hb)
  .exact hr.heap.fsz b hb
  exact(hob.blk_lt hb).2
 .intro m o hl;obtain⟨hne,o0,h0,rfl⟩:=hlk m o hl;have:=(hr.heap.ob m o0 h0).mono (F':=G) (w':=w) hG (fun _ _=>rfl) (fun _ _=>rfl);cases o0 with
  | box cs=>
    obtain⟨b,e',vs,h1,h2,h3,_⟩:=this;obtain⟨b',e2,vs',h1',h2',h3',h4⟩:=hr.heap.ob m _ h0;exact⟨b',e2,vs',h1',h2',h3',h4.frz hG hn'⟩
  |row e' s' rows'=>exact this
  |mp l=>exact this
  |mat e e' s rows=>exact this
  |refs e ns=>exact this
  |mps e ms=>exact this
  |it l seen=>exact this
 .rintro m o hl b hb (hF|hF)
  .obtain⟨hne,o0,h0,rfl⟩:=hlk m o hl;exact hr.heap.apart m o0 h0 b hb hF
  obtain⟨hne,o0,h0,rfl⟩:=hlk m o hl;exact hr.heap.sep m n o0 _ h0 h hne b hb hF
 .intro m k om ok hlm hlk' hne;obtain⟨_,o1,h1,_⟩:=hlk m om hlm;obtain⟨_,o2,h2,_⟩:=hlk k ok hlk';exact hr.heap.sep m k o1 o2 h1 h2 hne
 intro k r hl;simp only[HS.frz]at hl;rw[X08]at hl;simp only[N8]at hl;obtain⟨r0,hr0,rfl⟩:=hl;exact(hr.regs k r0 hr0).frz hG hn'
theorem XL {x:HS} (n:Nat) {e:TypeId} {s:Nat} {rows:List (List CD)} (h:lkp x.objs n=some (.row e s rows)):le x (x.frz n (.sl s rows)):=
 Xa2 n h fun {_ B _ F T w} hh=>by
  have hro:Xm F w B e s (T n) rows:=hh.ob n _ h;refine⟨?_,fun b hb cs e=>by cases e⟩;rw[X09 hro.sl];exact X2f hro (fun _ h=>.inl h) fun b hb=>.inr ((W6 hro.sl).2 hb)
theorem Xa0 {x:HS} (n:Nat) {l:List (Value×CD)} (h:lkp x.objs n=some (.mp l)):le x (x.frz n (.mp l)):=
 Xa2 n h fun {_ B _ F T w} hh=>by
  obtain⟨b,es,clock,hγ,hB,hb,hk,hn,hr⟩:=hh.ob n _ h;refine⟨?_,fun b hb cs e=>by cases e⟩;rw[hγ];exact .mp l b es clock (.inr rfl) hb hk hn fun j k d e h1 h2=>(hr j k d e h1 h2).mono (fun _ h=>.inl h) fun _ _=>rfl
end
def Wx:Nat->List TV->List (Nat×RV)
 |_,[]=>[]
 |k,t::ts=>(k,.v t)::Wx (k+1) ts
def resT (P:Program) (s:HS):ResultVar->Option TV
 | .tmp t=>match opd s.regs (.tmp t)with
   | .v tv=>some tv
   |_=>none
 | .cell a t=>match evR P s.objs (opd s.regs) (.load t (.tmp a))with
   |some (.v tv)=>some tv
   |_=>none
def X0Z (P:Program) (s:HS):List ResultVar->Option (List TV)
 |[]=>some []
 | x::l=>match resT P s x,X0Z P s l with
   |some t,some ts=>some (t::ts)
   |_,_=>none
def Xl:List TV->RV
 |[t]=>.v t
 |ts=>.tup ts
def CV.litB:CV->Bool
 | .c (.lit _)=>true
 | .c _=>false
 | .gd _ _=>false
 |_=>true
def TV.litB:TV->Bool
 | .one x=>x.litB
 | .agg xs=>xs.all CV.litB
def RV.litB:RV->Bool
 | .v t=>t.litB
 | .tup ts=>ts.all TV.litB
def Ob.lits:Ob->Prop
 | .box cs=>cs.all CV.litB=true
 | .row _ _ rows=>∀r∈rows,∀c∈r,∃v,c=.lit v
 |_=>False
structure RetOK (P:Program) (rs:List ResultVar) (s:HS) (fresh:Bool) (r:RV) (ob:Option Ob) (d:Nat):Prop where
 res:∃ts,X0Z P s rs=some ts/\r=Xl ts
 objs:∀o,ob=some o->lkp s.objs d=some o
 lit:fresh=true->r.litB=true/\∀o,ob=some o->o.lits
section
variable {P:Program} {F:Nat->Prop} {T T':Nat->Value} {w w' w0:World} {B:Nat->Prop} {U:Nat->Option Value}
theorem Xo.lits {G:Nat->Prop} {x:CV} {v:Value} (hx:x.litB=true) (h:Xo F T w x v):Xo G T w x v:=by
 cases x with
 |gd b x=>cases hx
 | c d=>
   cases d with
   |lit u=>cases h;exact CRel.lit _
   |_=>cases hx
 |_=>exact h
theorem Xi.lits {G:Nat->Prop} {xs:List CV} {vs:Array Value} (hx:xs.all CV.litB=true) (h:Xi F T w xs vs):Xi G T w xs vs:=by
 rw[Nh]at hx;exact⟨h.1,fun j x u hxj hu=>(h.2 j x u hxj hu).lits (hx x (N3 hxj))⟩
theorem XJ.lits {G:Nat->Prop} {x:TV} {v:Value} (hx:x.litB=true) (h:XJ F T w x v):XJ G T w x v:=by
 cases x with
 |one x=>exact Xo.lits hx h
 |agg xs=>obtain⟨vs,rfl,hc⟩:=h;exact⟨vs,rfl,hc.lits hx⟩
theorem X9.lits {G:Nat->Prop} {x:RV} {v:Value} (hx:x.litB=true) (h:X9 F T w x v):X9 G T w x v:=by
 cases x with
 |v t=>exact XJ.lits hx h
 | tup ts=>
   obtain⟨vs,rfl,hs,hc⟩:=h;simp only[RV.litB,Nh]at hx;exact⟨vs,rfl,hs,fun j t u ht hu=>(hc j t u ht hu).lits (hx t (N3 ht))⟩
theorem Q4.lits {G:Nat->Prop} {o:Ob} {x:Value} (ho:o.lits) (h:Q4 F T w B x o):Q4 G T w B x o:=by
 cases o with
 |box cs=>obtain⟨b,e,vs,h1,h2,h3,h4⟩:=h;exact⟨b,e,vs,h1,h2,h3,h4.lits ho⟩
 | row e s rows=>
   obtain⟨h0,hs,xs,hown,h1,hc⟩:=h;refine⟨h0,hs,xs,hown,h1,fun i j d hd=>?_⟩;obtain⟨u,hu,hr⟩:=hc i j d hd;refine⟨u,hu,?_⟩
   have:∃v,d=.lit v:=by
    unfold XV at hd;cases hri:rows[i]? with
    |none=>simp[hri]at hd
    | some r=>
      simp only[hri,Option.bind_some]at hd;exact ho r (N3 hri) d (N3 hd)
   obtain⟨v,rfl⟩:=this;cases hr;exact CRel.lit _
 |mp l=>exact ho.elim
 |mat e e' s rows=>exact ho.elim
 |refs e ns=>exact ho.elim
 |mps e ms=>exact ho.elim
 |it l seen=>exact ho.elim
theorem WC:∀(ts:List TV) (k n:Nat) (r:RV),lkp (Wx k ts) n=some r->k<=n/\∃t,ts[n - k]? =some t/\r=.v t
 |[],k,n,r,h=>by cases h
 | t::ts,k,n,r,h=>by
   simp only[Wx,lkp]at h;split at h
   .rename_i e;cases h;subst e;exact⟨ND _,t,by simp,rfl⟩
   rename_i e;obtain⟨h1,t',h2,h3⟩:=WC ts (k+1) n r h;refine⟨by omega,t',?_,h3⟩;rw[show n - k=(n - (k+1))+1 by omega];exact h2
def X7R (tmps:Array Value):ResultVar->Sem Value
 | .tmp t=>pure (tmps.getD t undef)
 | .cell a t=>do loadVar t (<-asAddr (tmps.getD a undef))
theorem ZG (fn:Func) (tmps:Array Value):
  results fn tmps=(do let vs<-fn.results.toList.mapM (X7R tmps);pure (if h:vs.toArray.size=1 then vs.toArray[0] else .tuple vs.toArray):Sem Value):=by
 have e:(fun x:ResultVar=>(match x with
   | .tmp t=>pure (tmps.getD t undef)
   | .cell a t=>do loadVar t (<-asAddr (tmps.getD a undef)):Sem Value))=X7R tmps:=by
  funext x;cases x<;>rfl
 rw[<-e];unfold results;rw[Array.mapM_eq_mapM_toList];simp only[map_eq_pure_bind,bind_assoc,pure_bind];rfl
theorem X8A {s:HS} {a:Act} (h:Rel w0 B U F T s a w) {x:ResultVar} {t:TV} (hx:resT P s x=some t):
  ∃v,(X7R a.tmps x).run P w=.ok v w/\XJ F T w t v:=by
 cases x with
 | tmp k=>
   simp only[resT]at hx;split at hx
   .rename_i tv htv;cases hx;have:=h.opd (.tmp k);rw[htv]at this;exact⟨_,rfl,this⟩
   cases hx
 | cell k ty=>
   simp only[resT]at hx;split at hx
   .rename_i tv htv;cases hx;obtain⟨v,hrun,hr⟩:=X1n (P:=P) (Y:=a.eval) (o:={dst:=none,op:=.load ty (.tmp k),type:=0,pos:= "",after:= #[],guard:=none}) h.heap h.opd htv
    refine⟨v,?_,hr⟩;simp only[execOp]at hrun
    have hv:∃ad,a.eval (.tmp k)=.pointer (some ad):=by
     have:=h.opd (.tmp k);simp only[evR]at htv;split at htv
     .rename_i hg;rw[hg]at this;obtain⟨b,_,e⟩:=this;exact⟨_,e⟩
     .rename_i hg;rw[hg]at this;obtain⟨b,_,_,_,_,e⟩:=this;exact⟨_,e⟩
     .rename_i hg;rw[hg]at this;obtain⟨_,b,_,_,_,_,_,e⟩:=this;exact⟨_,e⟩
     .rename_i hg;rw[hg]at this;obtain⟨b,o,c,e,_⟩:=CRel.ptr_inv this;exact⟨_,e⟩
     cases htv
    obtain⟨ad,had⟩:=hv;have had':a.tmps.getD k undef=.pointer (some ad):=had;rw[had]at hrun;simp[Instr.loadAt,Instr.sureAddr]at hrun;cases hl:(loadVar ty ad).run P w with
    | ok u w'=>
      rw[hl]at hrun;simp at hrun;simp[X7R,had',asAddr,hl,hrun]
    | halt x w'=>
      rw[hl]at hrun;simp at hrun
   cases hx
theorem Z0 {s:HS} {a:Act} (h:Rel w0 B U F T s a w):∀{xs:List ResultVar} {ts:List TV},X0Z P s xs=some ts->
  ∃vs:List Value,(xs.mapM (X7R a.tmps)).run P w=.ok vs w/\vs.length=ts.length/\∀(j:Nat) t u,ts[j]? =some t->vs[j]? =some u->XJ F T w t u
 |[],ts,hr=>by cases hr;exact⟨[],rfl,rfl,by simp⟩
 | x ::xs,ts,hr=>by
   simp only[X0Z]at hr;split at hr
   .rename_i t ts' ht hts;cases hr;obtain⟨v,hv,hvr⟩:=X8A h ht;obtain⟨vs,hvs,hl,hc⟩:=Z0 h hts;refine⟨v::vs,?_,by simp[hl],fun j t u htj hu=>?_⟩
    .rw[List.mapM_cons,Sem.run_bind,hv,Result.andThen_ok,Sem.run_bind,hvs];rfl
    cases j with
    |zero=>cases htj;cases hu;exact hvr
    |succ j=>exact hc j t u htj hu
   cases hr
theorem Xai {f:FuncId} {fn:Func} {c:Code} {args:List TV} {fresh:Bool} {r:RV} {ob:Option Ob} {d:Nat} (hf:P.funcs[f]? =some fn) (hb:fn.body=some c) (hcall:XZ P f=true) (hnt:args.length<=fn.ntmps)
  (h:HT P c ⟨fn.ntmps,Wx 0 args,[]⟩ (fun e s'=>(e=.normal\/e=.ret)/\∃s2,le s' s2/\RetOK P fn.results.toList s2 fresh r ob d)):Con P f fresh args r ob d:=by
 refine⟨hcall,fun F w vs hF hsz hargs=>?_⟩
 have hrel:Rel w (fun b=>b<w.heap.size) (fun _=>none) F noγ ⟨fn.ntmps,Wx 0 args,[]⟩ {tmps:=vs++Array.replicate (fn.ntmps - vs.size) undef,defers:=[]} w:=by
  refine⟨⟨Kept.refl _ _,fun _ h=>h,hF,by simp[lkp],by simp[lkp],by simp[lkp],by simp⟩,rfl,by simp;omega,fun k r hl=>?_⟩;obtain⟨_,t,ht,rfl⟩:=WC args 0 k r hl;simp only[Nat.sub_zero]at ht;have hk:k<vs.size:=by rw[hsz];exact(N5.1 ht).1
  have hv:(vs++Array.replicate (fn.ntmps - vs.size) undef).getD k undef=vs[k]:=by
   rw[Nq,NQ hk];simp[hk]
  rw[hv];exact hargs k t _ ht (by simp[hk])
 refine calls_of_wp hf hb (wp_mono (h w (fun b=>b<w.heap.size) (fun _=>none) F noγ _ w hrel) ?_);rintro e a' w' ⟨s',F1,γ1,⟨he,s2,hle,hret⟩,h1,h2,hr'⟩;obtain⟨F2,γ2,h3,h4,hr2⟩:=hle w (fun b=>b<w.heap.size) (fun _=>none) F1 γ1 a' w' hr';obtain⟨ts,hts,rfl⟩:=hret.res;obtain⟨us,hus,hul,huc⟩:=Z0 hr2 hts
 have key:a'.defers=[]/\∃v,(results fn a'.tmps).run P w'=.ok v w'/\∃(v2:Value) (N:Nat->Prop) (T':Nat->Value),Ending.returned v=.returned v2/\Below w.heap.size w w'/\(∀b,N b->w.heap.size<=b/\b<w'.heap.size)/\
   X9 (Res fresh F N) T' w' (Xl ts) v2/\∀o,ob=some o->Q4 (Res fresh F N) T' w' (fun b=>b<w.heap.size) (T' d) o/\∀b,Blk (T' d) b->¬N b:=by
  have hFF:∀b,F2 b->Res false F (fun b=>F2 b/\w.heap.size<=b) b:=by
   intro b hb;rcases h4 b hb with h5|h5
   .rcases h2 b h5 with h6|h6
    .exact .inr ⟨rfl,h6⟩
    exact .inl ⟨hb,D4 h6⟩
   exact .inl ⟨hb,D4 h5⟩
  have hres:∃v,(results fn a'.tmps).run P w'=.ok v w'/\X9 F2 γ2 w' (Xl ts) v:=by
   rw[ZG,Sem.run_bind,hus,Result.andThen_ok];refine⟨_,rfl,?_⟩
   match ts,us,hul,huc with
   |[],[],_,_=>exact⟨#[],rfl,rfl,by simp⟩
   |[t],[u],_,hc=>exact hc 0 t u rfl rfl
   |t1::t2::ts,u1::u2::us,hl,hc=>exact⟨(u1::u2::us).toArray,by simp,by simpa using hl,fun j t u ht hu=>hc j t u ht (by simpa using hu)⟩
  obtain⟨v,hv,hvr⟩:=hres;refine⟨hr2.defers,v,hv,v,fun b=>F2 b/\w.heap.size<=b,γ2,rfl,hr2.heap.below.below,fun b hb=>⟨hb.2,hr2.heap.fsz b hb.1⟩,?_,fun o ho=>⟨?_,fun b hb hN=>hr2.heap.apart d o (hret.objs o ho) b hb hN.1⟩⟩
  .cases fresh with
   |false=>exact hvr.mono hFF fun _ _=>rfl
   |true=>exact hvr.lits (hret.lit rfl).1
  have:=hr2.heap.ob d o (hret.objs o ho);cases fresh with
  |false=>exact this.mono hFF (fun _ _=>rfl) fun _ _=>rfl
  |true=>exact this.lits ((hret.lit rfl).2 o ho)
 rcases he with rfl|rfl
 .exact key
 exact key
end
def X1Z:List Operand->List Nat
 |[]=>[]
 | .tmp t::l=>t::X1Z l
 |_::l=>X1Z l
def XX:Op->List Operand
 | .nilCheck x=>[x]
 | .makeFunc _ _ caps=>caps.toList
 | .slice _ x l h _=>x::(l.toList++h.toList)
 | .index _ x i| .lookup _ x i _=>[x,i]
 | .mapUpdate _ m k v=>[m,k,v]
 | .move x| .assign x| .box _ x| .load _ x| .unOp _ _ x| .fieldAddr _ x _| .field _ x _| .extract x _| .range _ x| .next x _| .entry x=>[x]
 | .pick c a b=>[c,a,b]
 | .buildSlice _ _ ps=>ps.toList.map (·.2)
 | .build _ ps=>ps.toList.map (·.2)
 | .store _ a v| .binOp _ _ a v _| .makeSlice _ a v| .indexAddr _ a v=>[a,v]
 | .call {callee:=.value f,args:=args, .. }=>f::args.toList
 | .call {args:=args, .. }=>args.toList
 |_=>[]
def X8u (ops:Array Oper) (o:Oper):List Nat:=
 match o.guard with
 |none=>[]
 |some (j,_)=>((ops[j]?).bind (·.dst)).toList
def X35 (ops:Array Oper) (o:Oper):List Nat:=X8u ops o++X1Z (XX o.op)
theorem opd_ins {regs:List (Nat×RV)} {d:Nat} {r:RV} {l:List Operand} (h:d∉X1Z l):∀x∈l,opd (ins d r regs) x=opd regs x:=by
 intro x hx;cases x with
 | tmp t=>
   have:t≠d:=by
    rintro rfl;apply h;clear h
    induction l with
    |nil=>cases hx
    | cons y l ih=>
      rcases Ni.1 hx with rfl|hm
      .simp[X1Z]
      have:=ih hm;cases y<;>simp[X1Z,this]
   simp only[opd];rw[Xp this]
 |const v=>rfl
 |global g=>rfl
 |func f=>rfl
section
variable {P:Program} {g g':Operand->RV}
theorem X2I {size:Nat}:∀(l:List (Nat×Operand)) (k:Nat),(∀x∈l.map (·.2),g x=g' x)->WE size g k l=WE size g' k l
 |[],_,_=>rfl
 | (i,x)::l,k,h=>by
   unfold WE;rw[h x (by simp),X2I l (k+1) (fun y hy=>h y (by simp at hy⊢;exact .inr hy))]
theorem X4F {objs:List (Nat×Ob)}:∀(l:List Operand),(∀x∈l,g x=g' x)->X1w objs g l=X1w objs g' l
 |[],_=>rfl
 | x::l,h=>by
   unfold X1w;rw[h x (by simp),X4F l fun y hy=>h y (by simp[hy])]
theorem X3B {ti:TI}:∀(l:List (Nat×Operand)) (cs:List CV),(∀x∈l.map (·.2),g x=g' x)->Qp P ti g cs l=Qp P ti g' cs l
 |[],_,_=>rfl
 | (i,x)::l,cs,h=>by
   unfold Qp;rw[h x (by simp)];split
   .split
    .exact X3B l _ fun y hy=>h y (by simp at hy⊢;exact .inr hy)
    rfl
   rfl
theorem X2M:∀(l:List Operand),(∀x∈l,g x=g' x)->ZW g l=ZW g' l
 |[],_=>rfl
 | x::l,h=>by
   unfold ZW;rw[h x (by simp),X2M l fun y hy=>h y (by simp[hy])]
theorem X1y:∀(l:List Operand),(∀x∈l,g x=g' x)->ZR g l=ZR g' l
 |[],_=>rfl
 | x::l,h=>by
   unfold ZR;rw[h x (by simp),X1y l fun y hy=>h y (by simp[hy])]
theorem X84 {l:List (Nat×Operand)} (h:∀x∈l.map (·.2),g x=g' x):X0O g l=X0O g' l:=by
 unfold X0O;split
 .rename_i x;rw[h x (by simp)]
 rfl
theorem X53 {c:Call} (h:∀x∈c.args.toList,g x=g' x):evN P g (.call c)=evN P g' (.call c):=by
 obtain⟨callee,args,ts⟩:=c;cases callee with
 | builtin b=>
   cases b<;>try rfl
   .simp only[evN];split
    .rename_i x y hxy;rw[h x (by simp only[hxy];simp),h y (by simp only[hxy];simp)]
    rfl
   simp only[evN];split
   .rename_i x y hxy;rw[h x (by simp only[hxy];simp),h y (by simp only[hxy];simp)]
   rfl
 |_=>rfl
theorem Xb1 {op:Op} (h:∀x∈XX op,g x=g' x):evN P g op=evN P g' op:=by
 by_cases hc:∃c,op=.call c
 .obtain⟨c,rfl⟩:=hc;refine X53 fun x hx=>h x ?_;obtain⟨callee,args,ts⟩:=c;cases callee<;>simp[XX]<;>first|exact .inr (by simpa using hx)|simpa using hx
 by_cases hb:∃t ps,op=.build t ps
 .obtain⟨t,ps,rfl⟩:=hb;simp only[evN,XX]at h⊢;split
  .rw[X3B (g:=g) (g':=g') ps.toList _ h]
  rfl
 by_cases hsl:∃t x l hi m,op=.slice t x l hi m
 .obtain⟨t,x,l,hi,m,rfl⟩:=hsl;simp only[XX,Ni,NC,Option.mem_toList]at h;cases m with
  |some m=>rfl
  | none=>
    have h1:∀dflt,X0C g dflt l=X0C g' dflt l:=by
     intro dflt;cases l with
     |none=>rfl
     |some y=>simp only[X0C];rw[h y (by simp)]
    have h2:∀dflt,X0C g dflt hi=X0C g' dflt hi:=by
     intro dflt;cases hi with
     |none=>rfl
     |some y=>simp only[X0C];rw[h y (by simp)]
    simp only[evN,h1,h2,h x (by simp)]
 by_cases hm:∃f fs cs,op=.makeFunc f fs cs
 .obtain⟨f,fs,cs,rfl⟩:=hm;simp only[evN,XX]at h⊢;split
  .rw[X2M (g:=g) (g':=g') cs.toList h,X1y (g:=g) (g':=g') cs.toList h]
  rfl
 cases op<;>try(exfalso;exact hc ⟨_,rfl⟩)
 all_goals try(exfalso;exact hb ⟨_,_,rfl⟩)
 all_goals try(exfalso;exact hm ⟨_,_,_,rfl⟩)
 all_goals try(exfalso;exact hsl ⟨_,_,_,_,_,rfl⟩)
 all_goals simp only[evN,XX,Ni,Dn,or_false,forall_eq_or_imp,forall_eq]at* <;>simp only[h]
theorem XaR {d:Nat} {op:Op} (h:∀x∈XX op,g x=g' x):evA P g d op=evA P g' d op:=by
 cases op<;>simp only[evA]
 case box e x=>rw[h x (by simp[XX])]
 case buildSlice t n ps=>simp only[X2I (g:=g) (g':=g') ps.toList 0 h,X84 (g:=g) (g':=g') h]
 case makeSlice t l c=>rw[h l (by simp[XX]),h c (by simp[XX])]
 case makeMap t r=>cases r<;>rfl
 case range t x=>rw[h x (by simp[XX])]
theorem X2n {c:Call} {i:Nat} {x:Operand} (hx:c.args[i]? =some x):x∈XX (.call c):=by
 obtain⟨callee,args,ts⟩:=c;have:x∈args.toList:=Array.mem_toList_iff.2 (Array.mem_of_getElem? hx);cases callee<;>simp[XX]<;>first|exact .inr (by simpa using this)|simpa using this
theorem XaK {objs:List (Nat×Ob)} {op:Op} (h:∀x∈XX op,g x=g' x):evR P objs g op=evR P objs g' op:=by
 cases op with
 |load t x=>simp only[evR];rw[h x (by simp[XX])]
 |indexAddr t x i=>simp only[evR];rw[h x (by simp[XX]),h i (by simp[XX])]
 |lookup t x i ok=>simp only[evR];rw[h x (by simp[XX]),h i (by simp[XX])]
 |entry x=>simp only[evR];rw[h x (by simp[XX])]
 | call c=>
   obtain⟨callee,args,ts⟩:=c;cases callee with
   | builtin b=>
     cases b<;>try rfl
     simp only[evR];cases ht:ts[0]? with
     |none=>rfl
     | some t=>
       cases hx:args[0]? with
       |none=>rfl
       |some x=>simp only[];rw[h x (X2n (c:=⟨_,args,ts⟩) hx)]
   |_=>rfl
 |_=>rfl
theorem XaC {objs:List (Nat×Ob)} {d:Option Nat} {op:Op} (h:∀x∈XX op,g x=g' x):evW P objs g d op=evW P objs g' d op:=by
 cases op with
 |store t x y=>simp only[evW];rw[h x (by simp[XX]),h y (by simp[XX])]
 |mapUpdate t m k v=>simp only[evW];rw[h m (by simp[XX]),h k (by simp[XX]),h v (by simp[XX])]
 | call c =>
   obtain⟨callee,args,ts⟩:=c;cases callee with
   | builtin b =>
     cases b<;>try rfl
     simp only[evW];cases d with
     |none=>rfl
     | some d =>
       cases ht:ts[0]? with
       |none=>rfl
       | some t=>
         cases ht':ts[1]? with
         |none=>rfl
         | some t'=>
           cases hx:args[0]? with
           |none=>rfl
           | some x=>
             cases hy:args[1]? with
             |none=>rfl
             | some y=>
               simp only[];rw[h x (X2n (c:=⟨_,args,ts⟩) hx),h y (X2n (c:=⟨_,args,ts⟩) hy)]
   |_=>rfl
 |_=>rfl
end
section
variable {P:Program} {g:Operand->RV} {d:Nat} {ob:Ob} {objs:List (Nat×Ob)}
theorem X2E {objs objs':List (Nat×Ob)} {op:Op} (h:∀x∈XX op,∀n,(g x).men n->lkp objs' n=lkp objs n):evR P objs' g op=evR P objs g op:=by
 have hat:∀{x:Operand} {n off:Nat},x∈XX op->g x=.v (.one (.at_ n off))->lkp objs' n=lkp objs n:=fun hx hg=>h _ hx _ (by rw[hg];exact rfl);have hel:∀{x:Operand} {n s i off:Nat},x∈XX op->g x=.v (.one (.el n s i off))->lkp objs' n=lkp objs n:=fun hx hg=>h _ hx _ (by rw[hg];exact rfl);have hel2:∀{x:Operand} {n s i j off:Nat},x∈XX op->g x=.v (.one (.el2 n s i j off))->lkp objs' n=lkp objs n:=fun hx hg=>h _ hx _ (by rw[hg];exact rfl);have how:∀{x:Operand} {n:Nat},x∈XX op->g x=.v (.one (.own n))->lkp objs' n=lkp objs n:=fun hx hg=>h _ hx _ (by rw[hg];exact rfl);have hsub:∀{x:Operand} {n i:Nat},x∈XX op->g x=.v (.one (.sub n i))->lkp objs' n=lkp objs n:=fun hx hg=>h _ hx _ (by rw[hg];exact rfl);cases op with
 | load t x=>
   simp only[evR];split
   .rename_i hg;rw[hat (by simp[XX]) hg]
   .rename_i hg;rw[hel (by simp[XX]) hg]
   .rename_i hg;rw[hel2 (by simp[XX]) hg]
   .rfl
   rfl
 | indexAddr t x i=>
   simp only[evR];split
   .split
    .split
     .split
      .rfl
      .rename_i hg;rw[how (by simp[XX]) hg]
      .rename_i hg;rw[hsub (by simp[XX]) hg]
      rfl
     rfl
    rfl
   rfl
 | lookup t x i ok=>
   simp only[evR]
   have:X5y objs' (g x)=X5y objs (g x):=by
    unfold X5y;split
    .rfl
    .rfl
    .rename_i hg;rw[how (by simp[XX]) hg]
    .rename_i hg;rw[hsub (by simp[XX]) hg]
    rfl
   rw[this]
 | entry x=>
   simp only[evR];unfold X28;split
   .rename_i hg;rw[hat (by simp[XX]) hg]
   rfl
 | call c=>
   obtain⟨callee,args,ts⟩:=c;cases callee with
   | builtin b=>
     cases b<;>try rfl
     simp only[evR];split
     .rename_i t x ht hx;split
      .rfl
      .rfl
      .rename_i hg;rw[how (X2n (c:=⟨_,args,ts⟩) hx) hg]
      .rename_i hg;rw[hsub (X2n (c:=⟨_,args,ts⟩) hx) hg]
      .rfl
      rfl
     rfl
   |_=>rfl
 |_=>rfl
theorem X6O {op:Op} (h:∀x∈XX op,¬(g x).men d):evR P (ins d ob objs) g op=evR P objs g op:=
 X2E fun x hx n hn=>Xp (fun e=>by subst e;exact h x hx hn) ob objs
theorem X1s {T:Type}:∀{l:List (Nat×T)} {k:Nat} {x:T},Qi ((k,x)::l)=true->∀p∈l,k<p.1
 |[],_,_,_=>by simp
 | (m,y)::l,k,x,h=>by
   simp only[Qi,N4,N7]at h;intro p hp;rcases Ni.1 hp with rfl|hp
   .exact h.1
   have:=X1s (k:=m) (x:=y) (by simp only[Qi,N4];exact h.2) p hp;omega
theorem X07 {T:Type} {l:List (Nat×T)} {k:Nat} {x:T} (h:Qi ((k,x)::l)=true):Qi l=true:=by
 simp only[Qi,N4]at h;exact h.2
theorem X1k {T:Type} {l:List (Nat×T)} {k:Nat} {x:T} (h:Qi l=true) (hk:∀p∈l,k<p.1):Qi ((k,x)::l)=true:=by
 simp only[Qi,N4];refine⟨?_,h⟩;cases l with
 |nil=>rfl
 |cons p l=>exact Nw (hk p (by simp))
theorem X7K {T:Type} {n:Nat} {x:T} {p:Nat×T}:∀{l:List (Nat×T)},p∈ins n x l->p=(n,x)\/p∈l
 |[],h=>by simpa[ins]using h
 | (k,y)::l,h=>by
   unfold ins at h;split at h
   .simpa using h
   split at h
   .rcases Ni.1 h with e|h
    .exact .inl e
    exact .inr (by simp[h])
   rcases Ni.1 h with e|h
   .exact .inr (by simp[e])
   rcases X7K h with e|h
   .exact .inl e
   exact .inr (by simp[h])
theorem X29 {T:Type} {n:Nat} {p:Nat×T}:∀{l:List (Nat×T)},p∈del n l->p∈l
 |[],h=>h
 | (k,y)::l,h=>by
   unfold del at h;split at h
   .exact Nx _ (X29 h)
   rcases Ni.1 h with e|h
   .simp[e]
   exact Nx _ (X29 h)
theorem QH {T:Type} {n:Nat} {x:T}:∀{l:List (Nat×T)},Qi l=true->Qi (ins n x l)=true
 |[],_=>rfl
 | (k,y)::l,h=>by
   unfold ins;split
   .rename_i hk;refine X1k h fun p hp=>?_;rcases Ni.1 hp with rfl|hp
    .exact hk
    have:=X1s h p hp;omega
   split
   .rename_i _ e;subst e;exact X1k (X07 h) fun p hp=>X1s h p hp
   rename_i h1 h2;refine X1k (QH (X07 h)) fun p hp=>?_;rcases X7K hp with rfl|hp
   .show k<n;omega
   exact X1s h p hp
theorem Zd {T:Type} {n:Nat}:∀{l:List (Nat×T)},Qi l=true->Qi (del n l)=true
 |[],_=>rfl
 | (k,y)::l,h=>by
   unfold del;split
   .exact Zd (X07 h)
   exact X1k (Zd (X07 h)) fun p hp=>X1s h p (X29 hp)
theorem X1r {T:Type} {n d:Nat} (hne:n≠d) (x:T):∀{l:List (Nat×T)},Qi l=true->del n (ins d x l)=ins d x (del n l)
 |[],_=>by simp[ins,del,Ne.symm hne]
 | (k,y)::l,h=>by
   have ih:=X1r hne x (X07 h);by_cases h1:d<k
   .rw[Wm h1]
    have hd:∀m:List (Nat×T),(∀p∈m,d<p.1)->ins d x m=(d,x)::m:=by
     intro m hm;cases m with
     |nil=>rfl
     |cons p m=>exact Wm (hm p (by simp)) _ _ _
    rw[hd (del n ((k,y)::l)) (fun p hp=>by
     rcases Ni.1 (X29 hp)with rfl|hp
     .exact h1
     have:=X1s h p hp;omega)]
    conv=>lhs;unfold del
    rw[N6 (Ne.symm hne)]
   by_cases h2:d=k
   .subst h2;rw[ZZ]
    conv=>lhs;unfold del
    conv=>rhs;unfold del
    rw[N6 (Ne.symm hne),N6 (Ne.symm hne),ZZ]
   have h3:k<d:=by omega
   rw[QQ h3]
   conv=>lhs;unfold del
   conv=>rhs;unfold del
   split
   .exact ih
   rw[ih,QQ h3]
theorem X9d {e:TypeId} {ti:TI} {d':Nat} {x y:RV} (hs:Qi objs=true) (hne:d'≠d) (ho:∀n o,(n,o)∈objs->n≠d/\¬o.men d) (hx:¬x.men d) (hy:¬y.men d):
  Wt (ins d ob objs) e ti d' x y=(Wt objs e ti d' x y).map (ins d ob):=by
 unfold Wt;split
 .rename_i n;have hn:n≠d:=hx;rw[Xp hn];split
  .rename_i e1 e' s rows hl;split
   .rename_i m;have hm:m≠d:=hy;rw[Xp hm];split
    .rename_i e3 r hr;have hrd:r≠d:=fun e=>(ho m _ (XE hr)).2 (by simp[Ob.men,e]);rw[Xp hrd];split
     .split
      .simp only[Option.map_some];rw[X1r hn ob hs,X1r hrd ob (Zd hs),QG hne]
      rfl
     rfl
    rfl
   rfl
  rfl
 rfl
theorem X98 {e:TypeId} {sz:Nat} {x:RV} (hx:¬x.men d):WT (ins d ob objs) e sz x=WT objs e sz x:=by
 unfold WT;split
 .rfl
 .rename_i n;rw[Xp (show n≠d from hx)]
 rfl
theorem X8x {sz:Nat} {x:RV} (hx:¬x.men d):Zm (ins d ob objs) sz x=Zm objs sz x:=by
 unfold Zm;split
 .rfl
 .rename_i n;rw[Xp (show n≠d from hx)]
 rfl
theorem X91 {e:TypeId} {sz:Nat} {x:RV} {n:Nat} {rows:List (List CD)} (h:WT objs e sz x=some (some n,rows)):x.men n:=by
 unfold WT at h;split at h
 .cases h
 .split at h
  .split at h
   .cases h;exact rfl
   cases h
  cases h
 cases h
theorem X8t {args :Array Operand} {ts:Array TypeId} {dst:Option Nat} (hs:Qi objs=true) (hne:∀d',dst=some d'->d'≠d) (ho:∀n o,(n,o)∈objs->n≠d/\¬o.men d) (hx:∀x∈args.toList,¬(g x).men d):
  evW P (ins d ob objs) g dst (.call {callee:=.builtin .append,args:=args,argTypes:=ts})=(evW P objs g dst (.call {callee:=.builtin .append,args:=args,argTypes:=ts})).map fun p=>(p.1,ins d ob p.2):=by
 simp only[evW];cases dst with
 |none=>rfl
 | some d' =>
   have hne':=hne d' rfl;cases ht:ts[0]? with
   |none=>rfl
   | some t =>
     cases ht':ts[1]? with
     |none=>rfl
     | some t' =>
       cases hxx:args[0]? with
       |none=>rfl
       | some x =>
         cases hyy:args[1]? with
         |none=>rfl
         | some y =>
           have hx':¬(g x).men d:=hx x (Array.mem_toList_iff.2 (Array.mem_of_getElem? hxx));have hy':¬(g y).men d:=hx y (Array.mem_toList_iff.2 (Array.mem_of_getElem? hyy));simp only[];split
           .split
            .rename_i e he;split
             .rename_i ti hti;rw[X9d hs hne' ho hx' hy',X98 hx',X8x hy'];cases Wt objs e ti d' (g x) (g y)with
              |some o2=>rfl
              | none =>
                simp only[Option.map_none];split
                .rename_i n rows more hb hm;split
                 .simp only[Option.map_some];cases n with
                  |none=>simp only[];rw[QG hne']
                  | some n=>
                    have hn:n≠d:=fun e=>hx' (e▸X91 hb);simp only[];rw[X1r hn ob hs,QG hne']
                 rfl
                rfl
             rfl
            rfl
           rfl
theorem XaV {t:TypeId} {x y:Operand} {dst:Option Nat} (hs:Qi objs=true) (h:¬(g x).men d) (hy:¬(g y).men d):
  evW P (ins d ob objs) g dst (.store t x y)=(evW P objs g dst (.store t x y)).map fun p=>(p.1,ins d ob p.2):=by
 simp only[evW];split
 .rename_i n off _ _ hg;have hne:n≠d:=fun e=>h (by rw[hg];exact e);rw[Xp hne];split
  .split
   .split
    .simp only[Option.map_some];rw[QG hne]
    rfl
   rfl
  rfl
 .rename_i n s i off _ _ hg;have hne:n≠d:=fun e=>h (by rw[hg];exact e);rw[Xp hne];split
  .split
   .split
    .simp only[Option.map_some];rw[QG hne]
    rfl
   .split
    .rename_i m hgy;have hm:m≠d:=fun e=>hy (by rw[hgy];exact e);rw[Xp hm];split
     .split
      .simp only[Option.map_some];rw[X1r hm ob hs,QG hne]
      rfl
     rfl
    rfl
   .split
    .rename_i m hgy;have hm:m≠d:=fun e=>hy (by rw[hgy];exact e);rw[Xp hm];split
     .split
      .simp only[Option.map_some];rw[X1r hm ob hs,QG hne]
      rfl
     rfl
    rfl
   rfl
  rfl
 .rename_i n s i j off _ _ hg;have hne:n≠d:=fun e=>h (by rw[hg];exact e);rw[Xp hne];split
  .split
   .split
    .split
     .simp only[Option.map_some];rw[QG hne]
     rfl
    rfl
   rfl
  rfl
 rfl
theorem X9L (ho:∀n o,(n,o)∈objs->n≠d/\¬o.men d):∀k:Nat,(∀x:CV,¬x.men d->WS k (ins d ob objs) x=WS k objs x)/\
  (∀l:List CV,(∀x∈l,¬x.men d)->X3a k (ins d ob objs) l=X3a k objs l)/\(∀l:List (Nat×Nat),(∀p∈l,p.1≠d)->X1J k (ins d ob objs) l=X1J k objs l):=by
 have hL:∀k,(∀x:CV,¬x.men d->WS k (ins d ob objs) x=WS k objs x)->
   (∀l:List CV,(∀x∈l,¬x.men d)->X3a k (ins d ob objs) l=X3a k objs l)/\(∀l:List (Nat×Nat),(∀p∈l,p.1≠d)->X1J k (ins d ob objs) l=X1J k objs l):=by
  intro k hC;refine⟨fun l=>?_,fun l=>?_⟩
  .induction l with
   |nil=>intro _;simp only[X3a]
   | cons x l ih=>
     intro h;simp only[X3a];rw[hC x (h x (by simp)),ih fun y hy=>h y (by simp[hy])]
  induction l with
  |nil=>intro _;simp only[X1J]
  | cons p l ih=>
    obtain⟨n,off⟩:=p;intro h;simp only[X1J];rw[hC (.at_ n off) (h (n,off) (by simp)),ih fun y hy=>h y (by simp[hy])]
 intro k
 induction k with
 | zero=>
   have h0:∀x:CV,¬x.men d->WS 0 (ins d ob objs) x=WS 0 objs x:=by intro x _;simp only[WS]
   exact⟨h0,hL 0 h0⟩
 | succ k ih=>
   have hC:∀x:CV,¬x.men d->WS (k+1) (ins d ob objs) x=WS (k+1) objs x:=by
    intro x hx;cases x with
    |own n=>simp only[WS];rw[Xp hx]
    |sub n i=>simp only[WS];rw[Xp hx]
    | at_ n off=>
      simp only[WS];rw[Xp hx];split
      .rename_i cs hl;rw[ih.2.1 cs fun y hy hyd=>(ho n _ (XE hl)).2 ⟨y,hy,hyd⟩]
      rfl
    | fn f caps=>
      simp only[WS];rw[ih.2.2 caps fun p hp e=>hx ⟨p,hp,e⟩]
    |_=>simp only[WS]
   exact⟨hC,hL _ hC⟩
theorem X9M (ho:∀n o,(n,o)∈objs->n≠d/\¬o.men d) {x:CV} (h:¬x.men d):brw (ins d ob objs) x=brw objs x:=by
 unfold brw;split
 .rfl
 .rfl
 .rfl
 rw[(X9L ho 4).1 x h]
theorem X7i (ho:∀n o,(n,o)∈objs->n≠d/\¬o.men d):∀{xs:List CV},(∀x∈xs,¬x.men d)->brwL (ins d ob objs) xs=brwL objs xs
 |[],_=>rfl
 | x::xs,h=>by
   simp only[brwL];rw[X9M ho (h x (by simp)),X7i ho fun y hy=>h y (by simp[hy])]
theorem brwT_ins (ho:∀n o,(n,o)∈objs->n≠d/\¬o.men d) {r:RV} (h:¬r.men d):X3k (ins d ob objs) r=X3k objs r:=by
 cases r with
 | v t=>
   cases t with
   |one x=>simp only[X3k];rw[X9M ho h]
   |agg xs=>simp only[X3k];rw[X7i ho fun x hx hm=>h ⟨x,hx,hm⟩]
 |tup ts=>rfl
theorem X5b (ho:∀n o,(n,o)∈objs->n≠d/\¬o.men d):∀{l:List Operand},(∀x∈l,¬(g x).men d)->X1w (ins d ob objs) g l=X1w objs g l
 |[],_=>rfl
 | x::l,h=>by
   simp only[X1w];rw[brwT_ins ho (h x (by simp)),X5b ho fun y hy=>h y (by simp[hy])]
theorem X25 (ho:∀n o,(n,o)∈objs->n≠d/\¬o.men d) {r:RV} (h:¬r.men d):Wh (ins d ob objs) r=Wh objs r:=by
 unfold Wh;split
 .rename_i f caps;rw[(X9L ho 4).2.2 caps fun p hp e=>h ⟨p,hp,e⟩]
 .rfl
 rfl
theorem ZS {T:Type} {n:Nat} {x:T} {p:Nat×T}:∀{l:List (Nat×T)},p∈ins n x l->p=(n,x)\/p∈l
 |[],h=>by simpa[ins]using h
 | (k,y)::l,h=>by
   unfold ins at h;split at h
   .simpa using h
   split at h
   .rcases Ni.1 h with e|h
    .exact .inl e
    exact .inr (by simp[h])
   rcases Ni.1 h with e|h
   .exact .inr (by simp[e])
   rcases ZS h with e|h
   .exact .inl e
   exact .inr (by simp[h])
theorem X0y {T:Type} {n:Nat} {p:Nat×T}:∀{l:List (Nat×T)},p∈del n l->p∈l
 |[],h=>h
 | (k,y)::l,h=>by
   unfold del at h;split at h
   .exact Nx _ (X0y h)
   rcases Ni.1 h with e|h
   .simp[e]
   exact Nx _ (X0y h)
theorem X0u {ti:TI} {cs:List CV} {off:Nat} {r:RV} (h:Ws ti cs off=some r) (hm:∀x∈cs,¬x.men d):¬r.men d:=by
 unfold Ws at h;split at h
 .split at h
  .cases h;rintro⟨x,hx,hxm⟩;exact hm x (D8 (Dd hx)) hxm
  cases h
 split at h
 .rename_i x hx;cases h;exact hm x (N3 hx)
 cases h
theorem X19 {r:RV} {cs:List CV} (h:cellsOf r=some cs) (hm:¬r.men d):∀x∈cs,¬x.men d:=by
 unfold cellsOf at h;split at h
 .split at h
  .cases h;intro x hx;simp only[NS]at hx;subst hx;exact hm
  cases h
 .cases h;exact fun x hx hxm=>hm ⟨x,hx,hxm⟩
 cases h
theorem X5w {ti:TI}:∀(l:List (Nat×Operand)) (cs cs':List CV),Qp P ti g cs l=some cs'->(∀x∈cs,¬x.men d)->(∀x∈l.map (·.2),¬(g x).men d)->∀x∈cs',¬x.men d
 |[],cs,cs',h,hc,_=>by cases h;exact hc
 | (i, x)::l,cs,cs',h,hc,hl=>by
   unfold Qp at h;split at h
   .rename_i off size ys _ hys;split at h
    .refine X5w l _ cs' h (fun y hy=>?_) fun y hy=>hl y (by simp at hy⊢;exact .inr hy);rcases NC.1 hy with hy|hy
     .rcases NC.1 hy with hy|hy
      .exact hc y (Dd hy)
      exact X19 hys (hl x (by simp)) y hy
     exact hc y (D8 hy)
    cases h
   cases h
theorem X56:∀(l:List Operand) (ps:List (Nat×Nat)),ZW g l=some ps->(∀x∈l,¬(g x).men d)->¬ ∃p∈ps,p.1=d
 |[],ps,h,_=>by cases h;simp
 | x ::l,ps,h,hm=>by
   unfold ZW at h;split at h
   .rename_i n off r hx hr;cases h;rintro⟨p,hp,e⟩;rcases Ni.1 hp with rfl|hp
    .have:=hm x (by simp);rw[hx]at this;exact this e
    exact X56 l r hr (fun y hy=>hm y (by simp[hy])) ⟨p,hp,e⟩
   cases h
theorem evN_men {op:Op} {r:RV} {o:Option Ob} (h:evN P g op=some (r,o)) (hm:∀x∈XX op,¬(g x).men d):¬r.men d:=by
 cases op<;>simp only[evN]at h
 case move x=>cases h;exact hm x (by simp[XX])
 case assign x=>cases h;exact hm x (by simp[XX])
 case pick c a b=>
  split at h
  .split at h
   .split at h
    .cases h;exact id
    cases h
   cases h;split
   .exact hm a (by simp[XX])
   exact hm b (by simp[XX])
  cases h
 case fieldAddr s x f=>
  split at h
  .split at h
   .split at h
    .split at h
     .rename_i hg;cases h;have:=hm x (by simp[XX]);rw[hg]at this;exact this
     .rename_i hg;cases h;have:=hm x (by simp[XX]);rw[hg]at this;exact this
     .rename_i hg;cases h;have:=hm x (by simp[XX]);rw[hg]at this;exact this
     .cases h;exact id
     cases h
    cases h
   cases h
  cases h
 case nilCheck x=>
  split at h
  .cases h;exact hm x (by simp[XX])
  cases h
 case makeFunc f fs cs=>
  split at h
  .split at h
   .rename_i ps hps;cases h;exact X56 cs.toList ps hps hm
   simp only[N8]at h;obtain⟨ps,hps,he⟩:=h;cases he;exact id
  cases h
 case index t x i=>
  split at h
  .rename_i xs hg;split at h
   .split at h
    .split at h
     .simp only[N8]at h;obtain⟨r',hr',he⟩:=h;cases he;refine X0u hr' fun y hy hym=>hm x (by simp[XX]) ?_;rw[hg];exact⟨y,hy,hym⟩
     cases h
    cases h
   cases h
  split at h
  .split at h
   .split at h
    .cases h;exact id
    cases h
   cases h
  cases h
 case slice t x low high m=>
  cases m with
  |some m=>cases h
  |none=>
  simp only at h;split at h
  .split at h
   .split at h
    .split at h
     .split at h
      .split at h
       .cases h;exact id
       cases h
      cases h
     cases h
    cases h
   cases h
  .split at h
   .split at h
    .split at h
     .cases h;exact id
     cases h
    cases h
   cases h
  cases h
 case field t x f=>
  split at h
  .split at h
   .rename_i ti xs _ hg;simp only[N8]at h;obtain⟨r',hr',he⟩:=h;cases he;refine X0u hr' fun y hy hym=>hm x (by simp[XX]) ?_;rw[hg];exact⟨y,hy,hym⟩
   cases h
  cases h
 case extract x i=>
  split at h
  .rename_i ts hg;simp only[N8]at h;obtain⟨t,ht,he⟩:=h;cases he;intro htm;refine hm x (by simp[XX]) ?_;rw[hg];exact⟨t,N3 ht,htm⟩
  cases h
 case binOp op t x y t'=>
  have key:∀(o2:Option (RV×Option Ob)),(∀q,o2=some q->∃v,q.1=lit v)->o2=some (r,o)->¬r.men d:=by
   intro o2 h1 h2;obtain⟨v,hv⟩:=h1 _ h2;simp only at hv;rw[hv];exact id
  split at h
  .split at h
   .exact key _ (fun q hq=>by simp only[N8]at hq;obtain⟨v,_,rfl⟩:=hq;exact⟨v,rfl⟩) h
   cases h
  .exact key _ (fun q hq=>by simp only[N8]at hq;obtain⟨v,_,rfl⟩:=hq;exact⟨v,rfl⟩) h
  .exact key _ (fun q hq=>by simp only[N8]at hq;obtain⟨v,_,rfl⟩:=hq;exact⟨v,rfl⟩) h
  split at h
  .exact key _ (fun q hq=>by simp only[N8]at hq;obtain⟨v,_,rfl⟩:=hq;exact⟨_,rfl⟩) h
  split at h
  .exact key _ (fun q hq=>by simp only[N8]at hq;obtain⟨v,_,rfl⟩:=hq;exact⟨_,rfl⟩) h
  exact key _ (fun q hq=>by simp only[N8]at hq;obtain⟨v,_,rfl⟩:=hq;exact⟨_,rfl⟩) h
 case unOp op t x=>
  split at h
  .simp only[N8]at h;obtain⟨v,hv,he⟩:=h;cases he;exact id
  cases h
 case build t ps=>
  split at h
  .split at h
   .split at h
    .rename_i cs hcs;cases h;rintro⟨x,hx,hxm⟩;exact X5w ps.toList _ cs hcs (fun y hy=>by obtain⟨v,_,rfl⟩:=NN.1 hy;exact id) (fun x hx=>hm x hx) x hx hxm
    cases h
   cases h
  cases h
 case call c=>
  obtain⟨callee,args,ts⟩:=c;cases callee with
  |value f=>cases h
  |invoke f m=>cases h
  | builtin b=>
    cases b<;>simp only at h<;>try cases h
    .split at h
     .split at h
      .split at h
       .cases h;exact id
       cases h
      cases h
     cases h
    split at h
    .split at h
     .split at h
      .cases h;exact id
      cases h
     cases h
    cases h
 all_goals cases h
theorem evA_men {op:Op} {d':Nat} {r:RV} {o:Option Ob} (hd:d'≠d) (h:evA P g d' op=some (r,o)) (hm:∀x∈XX op,¬(g x).men d):¬r.men d/\∀o',o=some o'->¬o'.men d:=by
 cases op<;>simp only[evA]at h
 case alloc e=>
  split at h
  .cases h;refine⟨hd,?_⟩;rintro _ ⟨⟩ ⟨x,hx,hxm⟩;obtain⟨v,_,rfl⟩:=NN.1 hx;exact hxm
  cases h
 case box e x=>
  split at h
  .rename_i cs hcs;cases h;refine⟨hd,?_⟩;rintro _ ⟨⟩ ⟨y,hy,hym⟩;exact X19 hcs (hm x (by simp[XX])) y hy hym
  cases h
 case buildSlice t len parts=>
  split at h
  .split at h
   .split at h
    .split at h
     .cases h;exact⟨hd,by rintro _ ⟨⟩;exact id⟩
     split at h
     .cases h;refine⟨hd,?_⟩;rintro _ ⟨⟩ hmn;obtain⟨x,hpx,hgx⟩:=X4R ‹X0O g parts.toList=some _›;have:=hm x (by simp only[XX];rw[hpx];simp);rw[hgx]at this;simp only[Ob.men,NS]at hmn;exact this hmn.symm
     cases h
    cases h
   cases h
  cases h
 case makeSlice t l c=>
  split at h
  .split at h
   .split at h
    .cases h;exact⟨hd,by rintro _ ⟨⟩;exact id⟩
    cases h
   cases h
  cases h
 case makeMap t x=>
  cases x with
  |some x=>cases h
  |none=>cases h;exact⟨hd,by rintro _ ⟨⟩;exact id⟩
 case range t x=>
  split at h
  .split at h
   .cases h;exact⟨hd,by rintro _ ⟨⟩;exact id⟩
   .cases h;exact⟨hd,by rintro _ ⟨⟩;exact id⟩
   cases h
  cases h
 all_goals cases h
theorem evR_men {op:Op} {r:RV} (h:evR P objs g op=some r) (hm:∀x∈XX op,¬(g x).men d) (ho:∀n o,lkp objs n=some o->n≠d/\¬o.men d):¬r.men d:=by
 have hdat:∀{ti:TI} {rr:List CD} {off:Nat},Ws ti (rr.map .c) off=some r->¬r.men d:=by
  intro ti rr off h;refine X0u h fun y hy hym=>?_;obtain⟨c,_,rfl⟩:=NN.1 hy;exact hym
 unfold evR at h;split at h
 .rename_i t x;split at h
  .split at h
   .rename_i cs hl;exact X0u h fun y hy hym=>(ho _ _ hl).2 ⟨y,hy,hym⟩
   cases h
  .split at h
   .split at h
    .split at h
     .exact hdat h
     cases h
    cases h
   .rename_i hl;split at h
    .split at h
     .cases h;exact(ho _ _ hl).1
     .cases h;exact id
     cases h
    cases h
   .rename_i hl;split at h
    .split at h
     .cases h;exact(ho _ _ hl).1
     .cases h;exact id
     cases h
    cases h
   cases h
  .split at h
   .split at h
    .split at h
     .split at h
      .exact hdat h
      cases h
     cases h
    cases h
   cases h
  .exact hdat h
  cases h
 .rename_i t x i;split at h
  .split at h
   .split at h
    .split at h
     .split at h
      .split at h
       .cases h;exact id
       cases h
      cases h
     .split at h
      .rename_i n hg _ hl;split at h
       .cases h;exact(ho _ _ hl).1
       cases h
      .rename_i n hg _ hl;split at h
       .cases h;exact(ho _ _ hl).1
       cases h
      .rename_i n hg hl;split at h
       .cases h;exact(ho _ _ hl).1
       cases h
      cases h
     .split at h
      .rename_i hl;split at h
       .split at h
        .cases h;exact(ho _ _ hl).1
        cases h
       cases h
      cases h
     cases h
    unfold X6j at h;split at h
    .split at h
     .split at h
      .split at h
       .rename_i hg;cases h;have:=hm x (by simp[XX]);rw[hg]at this;exact this
       .rename_i hg;cases h;have:=hm x (by simp[XX]);rw[hg]at this;exact this
       .cases h;exact id
       cases h
      cases h
     cases h
    cases h
   cases h
  cases h
 .split at h
  .split at h
   .cases h;exact id
   .cases h;exact id
   .split at h
    .cases h;exact id
    .cases h;exact id
    .cases h;exact id
    cases h
   .split at h
    .split at h
     .cases h;exact id
     cases h
    cases h
   .split at h
    .cases h;exact id
    cases h
   cases h
  cases h
 .have hres:∀ok c b,¬(X1E ok c b).men d:=by
   intro ok c b;unfold X1E;split
   .rintro⟨t,ht,hm⟩;simp only[Ni,Dn,or_false]at ht;rcases ht with rfl|rfl<;>exact hm
   exact id
  split at h
  .split at h
   .cases h;exact hres _ _ _
   .cases h;exact hres _ _ _
   cases h
  cases h
 .unfold X28 at h;split at h
  .split at h
   .split at h
    .split at h
     .cases h;rintro⟨t,ht,hm⟩;simp only[Ni,Dn,or_false]at ht;rcases ht with rfl|rfl<;>exact hm
     cases h
    cases h
   cases h
  cases h
 cases h
theorem evW_men {op : Op} {dst:Option Nat} {r:RV} {objs':List (Nat×Ob)} (hd:∀d',dst=some d'->isAlloc op=true->d'≠d) (h:evW P objs g dst op=some (r,objs')) (hm:∀x∈XX op,¬(g x).men d)
  (ho:∀n o,(n,o)∈objs->n≠d/\¬o.men d):¬r.men d/\∀n o,(n,o)∈objs'->n≠d/\¬o.men d:=by
 have hput:∀(n:Nat) (o o':Ob) (l:List (Nat×Ob)),lkp objs n=some o->¬o'.men d->(∀p,p∈l->p∈objs)->∀m q,(m,q)∈ins n o' l->m≠d/\¬q.men d:=by
  intro n o o' l hl ho' hsub m q hlm;rcases ZS hlm with e|hlm
  .cases e;exact⟨(ho _ _ (XE hl)).1,ho'⟩
  exact ho m q (hsub _ hlm)
 unfold evW at h;split at h
 .rename_i t x y;split at h
  .rename_i n off _ hcs hg;split at h
   .split at h
    .rename_i xs hl;split at h
     .cases h;refine⟨id,hput _ _ _ objs hl ?_ fun _ h=>h⟩;rintro⟨z,hz,hzm⟩;rcases NC.1 hz with hz|hz
      .rcases NC.1 hz with hz|hz
       .exact(ho _ _ (XE hl)).2 ⟨z,Dd hz,hzm⟩
       exact X19 hcs (hm y (by simp[XX])) z hz hzm
      exact(ho _ _ (XE hl)).2 ⟨z,D8 hz,hzm⟩
     cases h
    cases h
   cases h
  .split at h
   .split at h
    .rename_i hl _;split at h
     .cases h;exact⟨id,hput _ _ _ objs hl id fun _ h=>h⟩
     cases h
    .rename_i hl _;split at h
     .split at h
      .split at h
       .cases h;exact⟨id,hput _ _ _ _ hl id fun _ h=>X0y h⟩
       cases h
      cases h
     cases h
    .rename_i hl _;split at h
     .split at h
      .split at h
       .cases h;exact⟨id,hput _ _ _ _ hl id fun _ h=>X0y h⟩
       cases h
      cases h
     cases h
    cases h
   cases h
  .split at h
   .split at h
    .rename_i hl _;split at h
     .split at h
      .cases h;exact⟨id,hput _ _ _ objs hl id fun _ h=>h⟩
      cases h
     cases h
    cases h
   cases h
  cases h
 .split at h
  .split at h
   .rename_i hl;split at h
    .split at h
     .cases h;exact⟨id,hput _ _ _ objs hl id fun _ h=>h⟩
     .split at h
      .cases h;exact⟨id,hput _ _ _ objs hl id fun _ h=>h⟩
      cases h
     cases h
    cases h
   cases h
  .split at h
   .rename_i hl;split at h
    .split at h
     .split at h
      .cases h;exact⟨id,hput _ _ _ objs hl id fun _ h=>h⟩
      cases h
     cases h
    cases h
   cases h
  cases h
 .cases dst with
  |none=>cases h
  |some d'=>
  split at h
  .rename_i heq _ _ _ _;cases heq;have hne:=hd d' rfl rfl;split at h
   .split at h
    .split at h
     .split at h
      .rename_i objs2 hmat;cases h;refine⟨hne,?_⟩;unfold Wt at hmat;split at hmat
       .split at hmat
        .split at hmat
         .split at hmat
          .split at hmat
           .split at hmat
            .cases hmat;intro m o hlm;rcases ZS hlm with e|hlm
             .cases e;exact⟨hne,id⟩
             exact ho m o (X0y (X0y hlm))
            cases hmat
           cases hmat
          cases hmat
         cases hmat
        cases hmat
       cases hmat
      split at h
      .split at h
       .cases h;refine⟨hne,fun m o hlm=>?_⟩;rcases ZS hlm with e|hlm
        .cases e;exact⟨hne,id⟩
        split at hlm
        .exact ho m o (X0y hlm)
        exact ho m o hlm
       cases h
      cases h
     cases h
    cases h
   cases h
  cases h
 cases h
theorem evW_sort {op : Op} {dst:Option Nat} {r:RV} {objs':List (Nat×Ob)} (h:evW P objs g dst op=some (r,objs')) (hs:Qi objs=true):Qi objs'=true:=by
 unfold evW at h;split at h
 .split at h
  .split at h
   .split at h
    .split at h
     .cases h;exact QH hs
     cases h
    cases h
   cases h
  .split at h
   .split at h
    .split at h
     .cases h;exact QH hs
     cases h
    .split at h
     .split at h
      .split at h
       .cases h;exact QH (Zd hs)
       cases h
      cases h
     cases h
    .split at h
     .split at h
      .split at h
       .cases h;exact QH (Zd hs)
       cases h
      cases h
     cases h
    cases h
   cases h
  .split at h
   .split at h
    .split at h
     .split at h
      .cases h;exact QH hs
      cases h
     cases h
    cases h
   cases h
  cases h
 .split at h
  .split at h
   .split at h
    .split at h
     .cases h;exact QH hs
     .split at h
      .cases h;exact QH hs
      cases h
     cases h
    cases h
   cases h
  .split at h
   .split at h
    .split at h
     .split at h
      .cases h;exact QH hs
      cases h
     cases h
    cases h
   cases h
  cases h
 .split at h
  .split at h
   .split at h
    .split at h
     .split at h
      .rename_i objs2 hmat;cases h;unfold Wt at hmat;split at hmat
       .split at hmat
        .split at hmat
         .split at hmat
          .split at hmat
           .split at hmat
            .cases hmat;exact QH (Zd (Zd hs))
            cases hmat
           cases hmat
          cases hmat
         cases hmat
        cases hmat
       cases hmat
      split at h
      .split at h
       .cases h;split
        .exact QH (Zd hs)
        exact QH hs
       cases h
      cases h
     cases h
    cases h
   cases h
  cases h
 cases h
end
end Go.Hl
