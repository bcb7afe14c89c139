/- Part of an evaluator that is sound over the model. Conditions: none. -/
import Derived.Test.YtdajceakaakdoaaGreatH2
import Derived.Deep.LoopGhost
set_option linter.unusedSimpArgs false
set_option linter.unusedVariables false
namespace Go.Hl
open Go Go.RowKit
def noγ:Nat->Value:=fun _=>.nilFunc
def Res (fresh:Bool) (F N:Nat->Prop):Nat->Prop:=fun b=>N b\/(fresh=false/\F b)
def Q5 (P:Program) (f:FuncId):Bool:=
 match P.funcs[f]? with
 |some fn=> !(fn.name== "runtime.NumGoroutine")&&fn.body.isSome
 |none=>false
def Con (P:Program) (f:FuncId) (fresh:Bool) (args:List TV) (r:RV) (ob:Option Ob) (d:Nat):Prop:=
 Q5 P f=true/\∀(F:Nat->Prop) (w:World) (vs:Array Value),(∀b,F b->b<w.heap.size)->vs.size=args.length->
  (∀(j:Nat) t u,args[j]? =some t->vs[j]? =some u->XI F noγ w t u)->
  Calls P f vs w fun e w'=>∃(v:Value) (N:Nat->Prop) (T':Nat->Value),e=.returned v/\Below w.heap.size w w'/\(∀b,N b->w.heap.size<=b/\b<w'.heap.size)/\
   Xa (Res fresh F N) T' w' r v/\∀o,ob=some o->Q0 (Res fresh F N) T' w' (fun b=>b<w.heap.size) (T' d) o/\∀b,Blk (T' d) b->¬N b
def X57 (s:Nat):Option (List (List CD))->CD
 |none=>.lit XY
 |some rs=>.sl s rs
def mpC:Option (List (Value×CD))->CD
 |none=>.lit (.map none)
 |some l=>.mp l
mutual
def Zl:Nat->List (Nat×Ob)->CV->Option CD
 |0,_,_=>none
 | k + 1,objs,x=>match x with
   | .c d=>some d
   | .own n=>match lkp objs n with
     |some (.row _ s rows)=>some (.sl s rows)
     |some (.mp l)=>some (.mp l)
     |some (.mat _ _ s rows)=>some (.sl 1 (rows.map fun r=>[X57 s r]))
     |some (.mps _ ms)=>some (.sl 1 (ms.map fun r=>[mpC r]))
     |_=>none
   | .sub n i=>match lkp objs n with
     | some (.mat _ _ s rows)=>match rows[i]? with
       |some (some rs)=>some (.sl s rs)
       |_=>none
     |_=>none
   | .at_ n off=>match lkp objs n with
     | some (.box cs)=>match X4n k objs cs with
       |some ds=>some (.ptr (ds.drop off))
       |none=>none
     |_=>none
   | .fn f caps=>match X20 k objs caps with
     |some ds=>some (.fn f ds)
     |none=>none
   |_=>none
 termination_by k _ _=>(k,0)
def X4n:Nat->List (Nat×Ob)->List CV->Option (List CD)
 |_,_,[]=>some []
 | k,objs,x::l=>match Zl k objs x,X4n k objs l with
   |some d,some ds=>if d.cell=true then some (d::ds)else none
   |_,_=>none
 termination_by k _ l=>(k,l.length+1)
def X20:Nat->List (Nat×Ob)->List (Nat×Nat)->Option (List CD)
 |_,_,[]=>some []
 | k,objs,(n,off)::l=>match Zl k objs (.at_ n off),X20 k objs l with
   |some d,some ds=>some (d::ds)
   |_,_=>none
 termination_by k _ l=>(k,l.length+1)
end
def brw (objs:List (Nat×Ob)):CV->Option CV
 | .any=>some .any
 | .c d=>some (.c d)
 | .fn f []=>some (.fn f [])
 |x=>(Zl 4 objs x).map .c
def Wu (objs:List (Nat×Ob)):RV->Option (FuncId×Bool×List TV)
 | .v (.one (.fn f caps))=>match X20 4 objs caps with
   |some ds=>some (f,!caps.isEmpty,ds.map fun d=>.one (.c d))
   |none=>none
 | .v (.one (.c (.fn f ds)))=>some (f,false,ds.map fun d=>.one (.c d))
 |_=>none
def brwL (objs:List (Nat×Ob)):List CV->Option (List CV)
 |[]=>some []
 | x::l=>match brw objs x,brwL objs l with
   |some y,some m=>some (y::m)
   |_,_=>none
def X22 (objs:List (Nat×Ob)):RV->Option TV
 | .v (.one x)=>match brw objs x with
   |some y=>some (.one y)
   |none=>none
 | .v (.agg xs)=>match brwL objs xs with
   |some ys=>some (.agg ys)
   |none=>none
 | .tup _=>none
def X1w (objs:List (Nat×Ob)) (g:Operand->RV):List Operand->Option (List TV)
 |[]=>some []
 | x::l=>match X22 objs (g x),X1w objs g l with
   |some t,some ts=>some (t::ts)
   |_,_=>none
def CV.ownB:CV->Bool
 | .own _=>true
 | .sub _ _=>true
 | .at_ _ _=>true
 | .fn _ caps=> !caps.isEmpty
 |_=>false
def RV.ownB:RV->Bool
 | .v (.one x)=>x.ownB
 | .v (.agg xs)=>xs.any CV.ownB
 | .tup _=>true
def CV.onlyB (ob:Bool) (d:Nat):CV->Bool
 | .own n=>ob&&n==d
 | .at_ n _=>ob&&n==d
 | .el n _ _ _=>ob&&n==d
 | .sub n _=>ob&&n==d
 | .el2 n _ _ _ _=>ob&&n==d
 | .fn _ caps=>caps.isEmpty
 | .gd _ _=>false
 |_=>true
def TV.onlyB (ob:Bool) (d:Nat):TV->Bool
 | .one x=>x.onlyB ob d
 | .agg xs=>xs.all (CV.onlyB ob d)
def RV.onlyB (ob:Bool) (d:Nat):RV->Bool
 | .v t=>t.onlyB ob d
 | .tup ts=>ts.all (TV.onlyB ob d)
def Ob.flat:Ob->Bool
 | .box cs=>cs.all (CV.onlyB false 0)
 | .refs _ _=>false
 | .mps _ _=>false
 | .it _ _=>false
 |_=>true
def HS.made (s:HS) (d:Nat) (ob:Option Ob):HS:=
 match ob with
 |some o=>{s with objs:=ins d o s.objs}
 |none=>s
def X1v (P:Program) (s:HS) (g:Operand->RV) (o:Oper) (K:Nat->RV->Option Ob->Prop):Prop:=
 match o.op,o.dst with
 | .call {callee:=.value x,args:=args, .. },some d=>match Wu s.objs (g x),X1w s.objs g args.toList with
   | some (f,own,es),some ts=>∃(fresh:Bool) (r:RV) (ob:Option Ob),Con P f fresh (ts++es) r ob d/\(fresh=true\/(own||args.toList.any fun x=>(g x).ownB)=false)/\
     (ob.isSome=true->Wb d s=true)/\r.onlyB ob.isSome d=true/\(∀o,ob=some o->o.flat=true)/\XP s (some d)=true/\K d r ob
   |_,_=>False
 |_,_=>False
def XaN (P:Program) (s:HS) (o:Oper) (K:HS->Prop):Prop:=X1v P s (opd s.regs) o fun d r ob=>K ((s.made d ob).put (some d) r)
def callG (P:Program) (s:HS) (b:Bool) (o:Oper) (K:HS->Prop):Prop:=X1v P s (fun x=>ZK b (opd s.regs x)) o fun d r ob=>ob=none/\K (s.put (some d) (gdR b r))
section
variable {P:Program} {F:Nat->Prop} {T:Nat->Value} {w w' w0:World} {B:Nat->Prop} {U:Nat->Option Value}
def X1Z (T:Nat->Value) (objs:List (Nat×Ob)):Nat->Prop:=fun b=>∃n o,lkp objs n=some o/\Blk (T n) b
theorem X3a {e:TypeId} {s:Nat} {rows:List (List CD)} {x:Value} {G:Nat->Prop} (h:Xv F w B e s x rows) (hF:∀b,F b->G b) (hx:∀b,blk x=some b->G b):CRel G w (.sl s rows) x:=by
 obtain⟨h0,hss,xs,hown,h1,hc⟩:=h;rcases hown.2 with⟨rfl,hn⟩|⟨b,oo,cap,cur,rfl,hB,hh,hcap,hmax,hsz,htake⟩
 .have:rows=[]:=Nv hn;subst this;exact .nil s
 refine .sl s rows b oo cap (fun i j=>xs.getD (i*s+j) undef) (hx b rfl) hcap hmax hss ?_ ?_ ?_
 .intro i j d hd;obtain⟨u,hu,hr⟩:=hc i j d hd;have:=hown.cells _ u hu;rw[Wa]at this;rw[this];simp[List.getD,hu]
 .intro i j d hd;obtain⟨u,hu,hr⟩:=hc i j d hd;simp only[List.getD,hu,Option.getD_some];exact h1 u (N3 hu)
 intro i j d hd;obtain⟨u,hu,hr⟩:=hc i j d hd;simp only[List.getD,hu,Option.getD_some];exact hr.mono hF fun _ _=>rfl
theorem X6a {e e':TypeId} {s:Nat} {rows:List (Option (List (List CD)))} {x:Value} {G:Nat->Prop} (h:Q0 F T w B x (.mat e e' s rows)) (hF:∀b,F b->G b) (hx:∀b,Blk x b->G b):
  CRel G w (.sl 1 (rows.map fun r=>[X57 s r])) (Hl.hd x):=by
 obtain⟨o,is,rfl,h0,hlen,⟨xs,hown,hxs⟩,hin,hd1,hd2⟩:=h;show CRel G w _ o;have hG:∀b,blk o=some b->G b:=fun b hb=>hx b ⟨o,by simp,hb⟩
 have hlen1:∀r∈rows.map (fun r=>[X57 s r]),r.length=1:=by
  intro r hr;obtain⟨q,_,rfl⟩:=NF.1 hr;rfl
 have get:∀i j d,XN (rows.map fun r=>[X57 s r]) i j=some d->∃r v,j=0/\rows[i]? =some r/\is[i]? =some v/\d=X57 s r/\xs[i]? =some (X0k v r):=by
  intro i j d hd;have hj:=(Z1 hlen1 hd).2;have hj0:j=0:=by omega
  subst hj0;unfold XN at hd;rw[Np]at hd;cases hr:rows[i]? with
  |none=>simp[hr]at hd
  | some r=>
    simp only[hr,Option.map_some,Option.bind_some,List.getElem?_cons_zero,Option.some.injEq]at hd;have hil:i<is.length:=by rw[hlen];exact(N5.1 hr).1
    exact⟨r,is[i],rfl,rfl,by simp[hil],hd.symm,hxs i _ r (by simp[hil]) hr⟩
 have rel:∀(i:Nat) r v,rows[i]? =some r->is[i]? =some v->CRel G w (X57 s r) (X0k v r)/\(X0k v r).oneCell'=true:=by
  intro i r v hr hv;have:=hin i v r hv hr;cases r with
  |none=>exact⟨CRel.lit _,rfl⟩
  | some rs=>
    have hro:Xv F w B e' s v rs:=this;refine⟨X3a hro hF fun b hb=>hx b ⟨v,by simp[N3 hv],hb⟩,?_⟩;obtain⟨_,_,_,rfl⟩:=hro.sl;rfl
 rcases hown.2 with⟨rfl,hn⟩|⟨b,oo,cap,cur,rfl,hB,hh,hcap,hmax,hsz,htake⟩
 .have:rows=[]:=Nv hn;subst this;exact .nil 1
 have:=CRel.sl (F:=G) (w:=w) 1 (rows.map fun r=>[X57 s r]) b oo cap (fun i _=>xs.getD i undef) (hG b rfl) (by simpa using hcap) hmax hlen1 ?_ ?_ ?_
 .simpa using this
 .intro i j d hd;obtain⟨r,v,rfl,hr,hv,rfl,hx⟩:=get i j d hd;have:=hown.cells _ _ hx;rw[Wa]at this;simp only[DL,Nat.add_zero,List.getD,hx,Option.getD_some];exact this
 .intro i j d hd;obtain⟨r,v,rfl,hr,hv,rfl,hx⟩:=get i j d hd;simp only[List.getD,hx,Option.getD_some];exact(rel i r v hr hv).2
 intro i j d hd;obtain⟨r,v,rfl,hr,hv,rfl,hx⟩:=get i j d hd;simp only[List.getD,hx,Option.getD_some];exact(rel i r v hr hv).1
theorem X9x {e:TypeId} {rows:List (Option (List (Value×CD)))} {x:Value} {G:Nat->Prop} (h:Q0 F T w B x (.mps e rows)) (hF:∀b,F b->G b) (hx:∀b,Blk x b->G b):
  CRel G w (.sl 1 (rows.map fun r=>[mpC r])) (Hl.hd x):=by
 obtain⟨o,is,rfl,hlen,⟨xs,hown,hxs⟩,hin,hd1,hd2⟩:=h;show CRel G w _ o;have hG:∀b,blk o=some b->G b:=fun b hb=>hx b ⟨o,by simp,hb⟩
 have hlen1:∀r∈rows.map (fun r=>[mpC r]),r.length=1:=by
  intro r hr;obtain⟨q,_,rfl⟩:=NF.1 hr;rfl
 have get:∀i j d,XN (rows.map fun r=>[mpC r]) i j=some d->∃r v,j=0/\rows[i]? =some r/\is[i]? =some v/\d=mpC r/\xs[i]? =some (X0F v r):=by
  intro i j d hd;have hj:=(Z1 hlen1 hd).2;have hj0:j=0:=by omega
  subst hj0;unfold XN at hd;rw[Np]at hd;cases hr:rows[i]? with
  |none=>simp[hr]at hd
  | some r=>
    simp only[hr,Option.map_some,Option.bind_some,List.getElem?_cons_zero,Option.some.injEq]at hd;have hil:i<is.length:=by rw[hlen];exact(N5.1 hr).1
    exact⟨r,is[i],rfl,rfl,by simp[hil],hd.symm,hxs i _ r (by simp[hil]) hr⟩
 have rel:∀(i:Nat) r v,rows[i]? =some r->is[i]? =some v->CRel G w (mpC r) (X0F v r)/\(X0F v r).oneCell'=true:=by
  intro i r v hr hv;have:=hin i v r hv hr;cases r with
  |none=>exact⟨CRel.lit _,rfl⟩
  | some rs=>
    obtain⟨b,es,clock,rfl,hB,hb,hk,hn,hr⟩:=(show X1n F w B v rs from this);exact⟨.mp rs b es clock (hx b ⟨.map (some b),by simp[N3 hv],rfl⟩) hb hk hn fun j k d e h1 h2=>(hr j k d e h1 h2).mono hF fun _ _=>rfl,rfl⟩
 rcases hown.2 with⟨rfl,hn⟩|⟨b,oo,cap,cur,rfl,hB,hh,hcap,hmax,hsz,htake⟩
 .have:rows=[]:=Nv hn;subst this;exact .nil 1
 have:=CRel.sl (F:=G) (w:=w) 1 (rows.map fun r=>[mpC r]) b oo cap (fun i _=>xs.getD i undef) (hG b rfl) (by simpa using hcap) hmax hlen1 ?_ ?_ ?_
 .simpa using this
 .intro i j d hd;obtain⟨r,v,rfl,hr,hv,rfl,hx⟩:=get i j d hd;have:=hown.cells _ _ hx;rw[Wa]at this;simp only[DL,Nat.add_zero,List.getD,hx,Option.getD_some];exact this
 .intro i j d hd;obtain⟨r,v,rfl,hr,hv,rfl,hx⟩:=get i j d hd;simp only[List.getD,hx,Option.getD_some];exact(rel i r v hr hv).2
 intro i j d hd;obtain⟨r,v,rfl,hr,hv,rfl,hx⟩:=get i j d hd;simp only[List.getD,hx,Option.getD_some];exact(rel i r v hr hv).1
def Owns (F:Nat->Prop) (T:Nat->Value) (objs:List (Nat×Ob)):Nat->Prop:=fun b=>F b\/X1Z T objs b
theorem X7c {objs:List (Nat×Ob)} (hh:HeapRel w0 B U F T objs w):∀(k:Nat),(∀x d v,Zl k objs x=some d->Xs F T w x v->CRel (Owns F T objs) w d v)/\
  (∀(xs:List CV) ds,X4n k objs xs=some ds->ds.length=xs.length/\∀(j:Nat) d,ds[j]? =some d->d.cell=true/\∃x,xs[j]? =some x/\∀v,Xs F T w x v->CRel (Owns F T objs) w d v)/\
  (∀(ps:List (Nat×Nat)) ds,X20 k objs ps=some ds->ds.length=ps.length/\∀(j:Nat) d,ds[j]? =some d->∃p:Nat×Nat,ps[j]? =some p/\∀v,Xs F T w (.at_ p.1 p.2) v->CRel (Owns F T objs) w d v):=by
 have hL :∀k,(∀x d v,Zl k objs x=some d->Xs F T w x v->CRel (Owns F T objs) w d v)->
   (∀(xs:List CV) ds,X4n k objs xs=some ds->ds.length=xs.length/\∀(j:Nat) d,ds[j]? =some d->d.cell=true/\∃x,xs[j]? =some x/\∀v,Xs F T w x v->CRel (Owns F T objs) w d v)/\
   (∀(ps:List (Nat×Nat)) ds,X20 k objs ps=some ds->ds.length=ps.length/\∀(j:Nat) d,ds[j]? =some d->∃p:Nat×Nat,ps[j]? =some p/\∀v,Xs F T w (.at_ p.1 p.2) v->CRel (Owns F T objs) w d v):=by
  intro k hC;refine⟨fun xs=>?_,fun ps=>?_⟩
  .induction xs with
   |nil=>intro ds h;unfold X4n at h;cases h;simp
   | cons x xs ih=>
     intro ds h;unfold X4n at h;split at h
     .rename_i d ds' hd hds;split at h
      .rename_i hc;cases h;obtain⟨h1,h2⟩:=ih ds' hds;refine⟨by simp[h1],fun j d' hj=>?_⟩;cases j with
       |zero=>cases hj;exact⟨hc,x,rfl,fun v hv=>hC x d v hd hv⟩
       |succ j=>exact h2 j d' hj
      cases h
     cases h
  induction ps with
  |nil=>intro ds h;unfold X20 at h;cases h;simp
  | cons p ps ih=>
    obtain⟨n,off⟩:=p;intro ds h;unfold X20 at h;split at h
    .rename_i d ds' hd hds;cases h;obtain⟨h1,h2⟩:=ih ds' hds;refine⟨by simp[h1],fun j d' hj=>?_⟩;cases j with
     |zero=>cases hj;exact⟨(n,off),rfl,fun v hv=>hC _ d v hd hv⟩
     |succ j=>exact h2 j d' hj
    cases h
 intro k
 induction k with
 | zero=>
   have h0:∀x d v,Zl 0 objs x=some d->Xs F T w x v->CRel (Owns F T objs) w d v:=by
    intro x d v h;unfold Zl at h;cases h
   exact⟨h0,hL 0 h0⟩
 | succ k ih=>
   obtain⟨_,ihL,ihP⟩:=ih
   have hC :∀x d v,Zl (k+1) objs x=some d->Xs F T w x v->CRel (Owns F T objs) w d v:=by
    intro x d v h hv;unfold Zl at h;split at h
    .cases h;exact CRel.mono (fun _ h=>.inl h) (fun _ _=>rfl) hv
    .rename_i n;obtain⟨hv1,_⟩:=hv;split at h
     .rename_i e s rows hl;cases h;have hro:Xv F w B e s (T n) rows:=hh.ob n _ hl;rw[hv1,Zk hro.sl];exact X3a hro (fun _ h=>.inl h) fun b hb=>.inr ⟨n,_,hl,(Wg hro.sl).2 hb⟩
     .rename_i l hl;cases h;obtain⟨b,es,clock,hγ,hB,hb,hk,hn,hr⟩:=hh.ob n _ hl;rw[hv1,hγ];exact .mp l b es clock (.inr ⟨n,_,hl,by rw[hγ];rfl⟩) hb hk hn fun j k d e h1 h2=>(hr j k d e h1 h2).mono (fun _ h=>.inl h) fun _ _=>rfl
     .rename_i e e' s rows hl;cases h;rw[hv1];exact X6a (hh.ob n _ hl) (fun _ h=>.inl h) fun b hb=>.inr ⟨n,_,hl,hb⟩
     .rename_i e ms hl;cases h;rw[hv1];exact X9x (hh.ob n _ hl) (fun _ h=>.inl h) fun b hb=>.inr ⟨n,_,hl,hb⟩
     cases h
    .rename_i n i;obtain⟨vs,hγ,hvi,_,_⟩:=hv;split at h
     .rename_i e e' s rows hl;split at h
      .rename_i rs hri;cases h;obtain⟨o,is,hγ2,hs,hlen,_,hin,_,_⟩:=hh.ob n _ hl;rw[hγ]at hγ2;cases hγ2;have hvi':is[i]? =some v:=by simpa using hvi
       have hro:Xv F w B e' s v rs:=hin i v _ hvi' hri;exact X3a hro (fun _ h=>.inl h) fun b hb=>.inr ⟨n,_,hl,by rw[hγ];exact⟨v,by simp[N3 hvi'],hb⟩⟩
      cases h
     cases h
    .rename_i n off;obtain⟨b,hb,rfl⟩:=hv;split at h
     .rename_i cs hl;split at h
      .rename_i ds hds;cases h;obtain⟨h1,h2⟩:=ihL cs ds hds;obtain⟨b',e,vs,hγ,hB,hh',hc⟩:=hh.ob n _ hl;rw[hb]at hγ;cases hγ
       have hlt:∀j d,(ds.drop off)[j]? =some d->off+j<vs.size:=by
        intro j d hj;rw[Ny]at hj;rw[hc.1,<-h1];exact(N5.1 hj).1
       refine .ptr _ b off (fun j=>vs.getD (off+j) undef) (.inr ⟨n,_,hl,by rw[hb];rfl⟩) (fun j d hj=>?_) (fun j d hj=>?_) (fun j d hj=>?_)
       .have:=hlt j d hj;rw[cell_of_row w b _ vs e (0,0) hh'];simp[this]
       .have hlt':=hlt j d hj;rw[Ny]at hj;obtain⟨hcell,x,hx,hr⟩:=h2 _ d hj;have hr':=hr _ (hc.2 _ x vs[off+j] hx (by simp[hlt']));have:(vs.getD (off+j) undef)=vs[off+j]:=by simp[hlt']
        rw[this];exact Xs.one (x:=.c d) (T:=T) hcell hr'
       have hlt':=hlt j d hj;rw[Ny]at hj;obtain⟨hcell,x,hx,hr⟩:=h2 _ d hj;have hr':=hr _ (hc.2 _ x vs[off+j] hx (by simp[hlt']));have:(vs.getD (off+j) undef)=vs[off+j]:=by simp[hlt']
       rw[this];exact hr'
      cases h
     cases h
    .rename_i f caps;split at h
     .rename_i ds hds;cases h;obtain⟨h1,h2⟩:=ihP caps ds hds;obtain⟨vs,rfl,hl,hc⟩:=hv;refine .fn f ds vs (by rw[hl,h1]) fun j d u hd hu=>?_;obtain⟨p,hp,hr⟩:=h2 j d hd;exact hr u (hc j p u hp hu)
     cases h
    cases h
   exact⟨hC,hL _ hC⟩
theorem X79 {objs:List (Nat×Ob)} (hh:HeapRel w0 B U F T objs w) {x y:CV} {v:Value} (h:brw objs x=some y) (hr:Xs F T w x v):
  Xs (fun b=>F b\/X1Z T objs b) noγ w y v:=by
 unfold brw at h;split at h
 .cases h;exact trivial
 .cases h;exact CRel.mono (fun _ h=>.inl h) (fun _ _=>rfl) hr
 .cases h;obtain⟨vs,hv,hl,_⟩:=hr;exact⟨vs,hv,hl,by simp⟩
 simp only[N8]at h;obtain⟨d,hd,rfl⟩:=h;exact(X7c hh 4).1 x d v hd hr
theorem X0i {objs:List (Nat×Ob)} (hh:HeapRel w0 B U F T objs w):∀{xs ys:List CV},brwL objs xs=some ys->ys.length=xs.length/\∀(j:Nat) (y:CV),ys[j]? =some y->∃x,xs[j]? =some x/\brw objs x=some y
 |[],ys,h=>by cases h;simp
 | x ::xs,ys,h=>by
   simp only[brwL]at h;split at h
   .rename_i y m hy hm;cases h;obtain⟨h1,h2⟩:=X0i hh hm;refine⟨by simp[h1],fun j z hz=>?_⟩;cases j with
    |zero=>cases hz;exact⟨x,rfl,hy⟩
    |succ j=>exact h2 j z hz
   cases h
theorem X2M {objs:List (Nat×Ob)} (hh:HeapRel w0 B U F T objs w) {r:RV} {t:TV} {v:Value} (h:X22 objs r=some t) (hr:Xa F T w r v):
  XI (fun b=>F b\/X1Z T objs b) noγ w t v:=by
 unfold X22 at h;split at h
 .split at h
  .rename_i y hy;cases h;exact X79 hh hy hr
  cases h
 .split at h
  .rename_i xs _ ys hy;cases h;obtain⟨vs,rfl,hs,hc⟩:=hr;obtain⟨h1,h2⟩:=X0i hh hy;refine⟨vs,rfl,by rw[hs,h1],fun j y u hyj hu=>?_⟩;obtain⟨x,hx,hb⟩:=h2 j y hyj;exact X79 hh hb (hc j x u hx hu)
  cases h
 cases h
theorem X8A {objs:List (Nat×Ob)} {x y:CV} {v:Value} (hx:x.ownB=false) (h:brw objs x=some y) (hr:Xs F T w x v):Xs F noγ w y v:=by
 unfold brw at h;split at h
 .cases h;exact trivial
 .cases h;exact hr
 .cases h;obtain⟨vs,hv,hl,_⟩:=hr;exact⟨vs,hv,hl,by simp⟩
 simp only[N8]at h;obtain⟨d,hd,rfl⟩:=h;cases x with
 |own n=>cases hx
 |sub n i=>cases hx
 |at_ n off=>cases hx
 | fn f caps=>
   simp only[CV.ownB,Bool.not_eq_false',Dj]at hx;subst hx;unfold Zl X20 at hd;cases hd;obtain⟨vs,rfl,hl,_⟩:=hr;exact CRel.fn f [] vs hl (by simp)
 |c d'=>unfold Zl at hd;cases hd;exact hr
 |_=>unfold Zl at hd;cases hd
theorem X4C {objs:List (Nat×Ob)} (hh:HeapRel w0 B U F T objs w) {r:RV} {t:TV} {v:Value} (hx:r.ownB=false) (h:X22 objs r=some t) (hr:Xa F T w r v):XI F noγ w t v:=by
 unfold X22 at h;split at h
 .split at h
  .rename_i y hy;cases h;exact X8A hx hy hr
  cases h
 .split at h
  .rename_i xs _ ys hy;cases h;obtain⟨vs,rfl,hs,hc⟩:=hr;obtain⟨h1,h2⟩:=X0i hh hy;refine⟨vs,rfl,by rw[hs,h1],fun j y u hyj hu=>?_⟩;obtain⟨x,hxj,hb⟩:=h2 j y hyj;refine X8A ?_ hb (hc j x u hxj hu);simp only[RV.ownB]at hx;rw[Dd]at hx;simpa using hx x (N3 hxj)
  cases h
 cases h
theorem X1d {objs:List (Nat×Ob)} {g:Operand->RV}:∀{xs:List Operand} {ts:List TV},X1w objs g xs=some ts->ts.length=xs.length/\∀(j:Nat) (t:TV),ts[j]? =some t->∃x,xs[j]? =some x/\X22 objs (g x)=some t
 |[],ts,h=>by cases h;simp
 | x ::xs,ts,h=>by
   simp only[X1w]at h;split at h
   .rename_i y m hy hm;cases h;obtain⟨h1,h2⟩:=X1d hm;refine⟨by simp[h1],fun j z hz=>?_⟩;cases j with
    |zero=>cases hz;exact⟨x,rfl,hy⟩
    |succ j=>exact h2 j z hz
   cases h
theorem Xs.only {ob:Bool} {d:Nat} {T':Nat->Value} {x:CV} {v:Value} (h:x.onlyB ob d=true) (hd:ob=true->T' d=T d) (hr:Xs F T w x v):Xs F T' w x v:=by
 cases x with
 |any=>trivial
 |gd b x=>cases h
 |c d=>exact hr
 | own n=>
   simp only[CV.onlyB,N4,beq_iff_eq]at h;obtain⟨h1,rfl⟩:=h;simp only[Xs]at*;rw[hd h1];exact hr
 | at_ n off=>
   simp only[CV.onlyB,N4,beq_iff_eq]at h;obtain⟨h1,rfl⟩:=h;simp only[Xs]at*;rw[hd h1];exact hr
 | el n s i off=>
   simp only[CV.onlyB,N4,beq_iff_eq]at h;obtain⟨h1,rfl⟩:=h;simp only[Xs]at*;rw[hd h1];exact hr
 | sub n i=>
   simp only[CV.onlyB,N4,beq_iff_eq]at h;obtain⟨h1,rfl⟩:=h;simp only[Xs]at*;rw[hd h1];exact hr
 | el2 n s i j off=>
   simp only[CV.onlyB,N4,beq_iff_eq]at h;obtain⟨h1,rfl⟩:=h;simp only[Xs]at*;rw[hd h1];exact hr
 | fn f caps=>
   simp only[CV.onlyB,Dj]at h;subst h;obtain⟨vs,hv,hl,_⟩:=hr;exact⟨vs,hv,hl,by simp⟩
theorem XI.only {ob:Bool} {d:Nat} {T':Nat->Value} {x:TV} {v:Value} (h:x.onlyB ob d=true) (hd:ob=true->T' d=T d) (hr:XI F T w x v):XI F T' w x v:=by
 cases x with
 |one x=>exact Xs.only h hd hr
 | agg xs=>
   obtain⟨vs,rfl,hs,hc⟩:=hr;simp only[TV.onlyB,Nm]at h;exact⟨vs,rfl,hs,fun j x u hx hu=>(hc j x u hx hu).only (h x (N3 hx)) hd⟩
theorem Xa.only {ob:Bool} {d:Nat} {T':Nat->Value} {x:RV} {v:Value} (h:x.onlyB ob d=true) (hd:ob=true->T' d=T d) (hr:Xa F T w x v):Xa F T' w x v:=by
 cases x with
 |v t=>exact XI.only h hd hr
 | tup ts=>
   obtain⟨vs,rfl,hs,hc⟩:=hr;simp only[RV.onlyB,Nm]at h;exact⟨vs,rfl,hs,fun j x u hx hu=>(hc j x u hx hu).only (h x (N3 hx)) hd⟩
theorem Q0.only {T':Nat->Value} {o:Ob} {x:Value} (h:o.flat=true) (hr:Q0 F T w B x o):Q0 F T' w B x o:=by
 cases o with
 | box cs=>
   obtain⟨b,e,vs,rfl,hB,hh,hs,hc⟩:=hr;simp only[Ob.flat,Nm]at h;exact⟨b,e,vs,rfl,hB,hh,hs,fun j x u hx hu=>(hc j x u hx hu).only (h x (N3 hx)) (by simp)⟩
 |row e s rows=>exact hr
 |mp l=>exact hr
 |mat e e' s rows=>exact hr
 |refs e ns=>cases h
 |mps e ms=>cases h
 |it l seen=>cases h
theorem HeapRel.called {objs:List (Nat×Ob)} (h:HeapRel w0 B U F T objs w) (hb:Below w.heap.size w w') {N:Nat->Prop} (hN:∀b,N b->w.heap.size<=b/\b<w'.heap.size):
  HeapRel w0 B U (fun b=>F b\/N b) T objs w' where
 below:=h.below.trans (Kept.of_below hb h.hB)
 hB:=fun b hx=>NJ (h.hB b hx) hb.size
 fsz b hF:=by
  rcases hF with hF|hF
  .exact NJ (h.fsz b hF) hb.size
  exact(hN b hF).2
 ob n o ho:=by
  have h1:=h.ob n o ho;exact h1.mono (fun _ h=>.inl h) (fun b hF=>hb.block b (h.fsz b hF)) fun b hbk=>hb.block b (h1.blk_lt hbk).2
 apart n o ho b hbk hF:=by
  rcases hF with hF|hF
  .exact h.apart n o ho b hbk hF
  have:=(h.ob n o ho).blk_lt hbk;have:=hN b hF;omega
 sep:=h.sep
 pin:=h.pin
theorem QN.low {B B':Nat->Prop} {e:TypeId} {s n:Nat} {x:Value} {xs:List Value} (hB:∀b,B b->B' b) (h:QN w B' e s x n xs):QN w B e s x n xs:=by
 refine⟨h.1,?_⟩;rcases h.2 with h|⟨b,oo,cap,cur,h1,h2,h3⟩
 .exact .inl h
 exact .inr ⟨b,oo,cap,cur,h1,fun hx=>h2 (hB _ hx),h3⟩
theorem Xv.low {B B':Nat->Prop} {e:TypeId} {s:Nat} {x:Value} {rows:List (List CD)} (hB:∀b,B b->B' b) (h:Xv F w B' e s x rows):Xv F w B e s x rows:=by
 obtain⟨h0,hs,xs,hown,h3⟩:=h;exact⟨h0,hs,xs,hown.low hB,h3⟩
theorem X1D {objs:List (Nat×Ob)} (hh:HeapRel w0 B U F T objs w) {r:RV} {f:FuncId} {own:Bool} {es:List TV} {v:Value} (h:Wu objs r=some (f,own,es)) (hr:Xa F T w r v):
  ∃us:List Value,v=.func (.func f) #[] us.toArray/\us.length=es.length/\(∀(j:Nat) t u,es[j]? =some t->us[j]? =some u->XI (fun b=>F b\/X1Z T objs b) noγ w t u)/\
   (own=false->∀(j:Nat) t u,es[j]? =some t->us[j]? =some u->XI F noγ w t u):=by
 unfold Wu at h;split at h
 .rename_i f caps;split at h
  .rename_i ds hds;cases h;obtain⟨h1,h2⟩:=(X7c hh 4).2.2 caps ds hds;obtain⟨vs,rfl,hl,hc⟩:=hr;refine⟨vs,rfl,by simp[hl,h1],fun j t u ht hu=>?_,fun ho j t u ht hu=>?_⟩
   .rw[Np]at ht;simp only[N8]at ht;obtain⟨d,hd,rfl⟩:=ht;obtain⟨p,hp,hr⟩:=h2 j d hd;exact hr u (hc j p u hp hu)
   simp only[Bool.not_eq_false',Dj]at ho;subst ho;have:ds=[]:=Nv (by simpa using h1);subst this;simp at ht
  cases h
 .rename_i f ds;cases h;have hr':CRel F w (.fn f ds) v:=hr;cases hr' with
  | fn _ _ vs hl hc=>
    have key:∀(j:Nat) t u,(ds.map fun d=>TV.one (.c d))[j]? =some t->vs[j]? =some u->XI F noγ w t u:=by
     intro j t u ht hu;rw[Np]at ht;simp only[N8]at ht;obtain⟨d,hd,rfl⟩:=ht;exact hc j d u hd hu
    exact⟨vs,rfl,by simp[hl],fun j t u ht hu=>(key j t u ht hu).mono (fun _ h=>.inl h) fun _ _=>rfl,fun _=>key⟩
 cases h
theorem X26 {s:HS} {a:Act} {o:Oper} {g:Operand->RV} {K:Nat->RV->Option Ob->Prop} (h:Rel w0 B U F T s a w) (hg:∀x,Xa F T w (g x) (a.eval x)) (hc:X1v P s g o K) {Kc:Act->World->Prop} {Q:Exit->Act->World->Prop}
  (hK:∀d r ob F' T' v w',o.dst=some d->XP s (some d)=true->K d r ob->(∀b,F b->F' b)->(∀b,F' b->F b\/¬B b)->Rel w0 B U F' T' (s.made d ob) a w'->Xa F' T' w' r v->Kc (a.put o.dst v) w')
  :o.wp P a w Kc Q:=by
 unfold X1v at hc;split at hc
 .rename_i x args ts d ho hd;split at hc
  .rename_i f own es tvs hf hts;obtain⟨fresh,r,ob,⟨hcall,hcon⟩,hown,hunm,honly,hflat,hok,hk⟩:=hc;obtain⟨us,hv',hul,hes,hesd⟩:=X1D h.heap hf (hg x)
   have hrun:(execOp a.eval o).run P w=.ok (.enter f (args.map a.eval++us.toArray)) w:=by
    unfold Q5 at hcall;split at hcall
    .rename_i fn hfn;simp only[N4,Nw]at hcall;have hnm:¬fn.name= "runtime.NumGoroutine" :=by simpa using hcall.1
     have hnb:¬fn.body=none:=by
      intro hb;rw[hb]at hcall;cases hcall.2
     simp[execOp,ho,resolve,hv',Deferred.ofValue,invoke,callFunc,hfn,hnm,hnb]
    cases hcall
   unfold Oper.wp;rw[hrun,Oper.upon_enter];obtain⟨hl,hts'⟩:=X1d hts
   -- the set of blocks that the callee may look at
   have hcase:∃F2:Nat->Prop,(∀b,F2 b->b<w.heap.size)/\(fresh=false->∀b,F2 b->F b)/\
     ∀(j:Nat) t u,(tvs++es)[j]? =some t->(args.map a.eval++us.toArray)[j]? =some u->XI F2 noγ w t u:=by
    have hget:∀(j:Nat) x u,args.toList[j]? =some x->(args.map a.eval)[j]? =some u->u=a.eval x:=by
     intro j x u hx hu;have hx':args[j]? =some x:=by simpa using hx
     rw[Array.getElem?_map,hx']at hu;simpa using hu.symm
    have hsz:(args.map a.eval).size=tvs.length:=by rw[Array.size_map,hl,Array.length_toList]
    have both:∀G:Nat->Prop,(∀(j:Nat) t u,tvs[j]? =some t->(args.map a.eval)[j]? =some u->XI G noγ w t u)->(∀(j:Nat) t u,es[j]? =some t->us[j]? =some u->XI G noγ w t u)->
      ∀(j:Nat) t u,(tvs++es)[j]? =some t->(args.map a.eval++us.toArray)[j]? =some u->XI G noγ w t u:=by
     intro G h1 h2 j t u ht hu;by_cases hj:j<tvs.length
     .rw[Ns hj]at ht;rw[D5 (by omega)]at hu;exact h1 j t u ht hu
     rw[Nn (D6 hj)]at ht;rw[Array.getElem?_append_right (by omega),hsz]at hu;exact h2 _ t u ht (by simpa using hu)
    rcases hown with rfl|hown
    .refine⟨fun b=>F b\/X1Z T s.objs b,?_,by simp,both _ ?_ hes⟩
     .rintro b (hb|⟨n,o',hl',hb⟩)
      .exact h.heap.fsz b hb
      exact((h.heap.ob n o' hl').blk_lt hb).2
     intro j t u ht hu;obtain⟨y,hy,hbr⟩:=hts' j t ht;rw[hget j y u hy hu];exact X2M h.heap hbr (hg y)
    simp only[NV]at hown;refine⟨F,h.heap.fsz,fun _ _ h=>h,both _ ?_ (hesd hown.1)⟩;intro j t u ht hu;obtain⟨y,hy,hbr⟩:=hts' j t ht;rw[hget j y u hy hu];refine X4C h.heap ?_ hbr (hg y);have hown2:=hown.2;rw[Dd]at hown2;simpa using hown2 y (N3 hy)
   obtain⟨F2,hF2,hF2F,hargs⟩:=hcase;refine(hcon F2 w (args.map a.eval++us.toArray) hF2 (by simp[hl,hul]) hargs).mono ?_;rintro e w' ⟨v,N,T',rfl,hb,hN,hr,hobj⟩
   have hres:∀b,Res fresh F2 N b->F b\/N b:=by
    rintro b (hb|⟨hfr,hb⟩)
    .exact .inr hb
    exact .inl (hF2F hfr b hb)
   have hheap:=h.heap.called hb hN;have hFk:∀b,F b->w'.heap[b]? =w.heap[b]? :=fun b hF=>hb.block b (h.heap.fsz b hF)
   have hNB:∀b,(F b\/N b)->F b\/¬B b:=by
    rintro b (hb|hb)
    .exact .inl hb
    exact .inr fun hx=>Dz _ (NJ (h.heap.hB b hx) (hN b hb).1)
   cases ob with
   | none=>
     refine hK d r none (fun b=>F b\/N b) T v w' hd hok hk (fun _ h=>.inl h) hNB ?_ ((hr.mono hres fun _ _=>rfl).only honly (by simp));exact⟨hheap,h.defers,h.nt,fun k r hl=>(h.regs k r hl).mono (fun _ h=>.inl h) hFk⟩
   | some o'=>
     obtain⟨ho1,ho2⟩:=hobj o' rfl;have hun:=hunm rfl;have hnew:∀b,Blk (T' d) b->w.heap.size<=b:=fun b hb=>D6 (ho1.blk_lt hb).1;have hfl:=hflat o' rfl;have hob':Q0 (fun b=>F b\/N b) (upd T d (T' d)) w' (fun b=>b<w.heap.size) (T' d) o':=(ho1.mono hres (fun _ _=>rfl) (fun _ _=>rfl)).only hfl
     have hobB:Q0 (fun b=>F b\/N b) (upd T d (T' d)) w' B (T' d) o':=by
      cases o' with
      |box cs=>obtain⟨b,e,vs,h1,h2,h3⟩:=hob';exact⟨b,e,vs,h1,fun hx=>h2 (h.heap.hB _ hx),h3⟩
      |row e' s' rows=>exact Xv.low (fun b hx=>h.heap.hB b hx) hob'
      |mp l=>obtain⟨b,es,clock,h1,h2,h3⟩:=hob';exact⟨b,es,clock,h1,fun hx=>h2 (h.heap.hB _ hx),h3⟩
      | mat e e' s' rows=>
        obtain⟨o,is,h1,h2,h3,⟨xs,h4,h5⟩,h6,h7⟩:=hob';refine⟨o,is,h1,h2,h3,⟨xs,h4.low (fun b hx=>h.heap.hB b hx),h5⟩,fun i v r hv hr=>?_,h7⟩;have:=h6 i v r hv hr;cases r with
        |none=>exact this
        |some rr=>exact Xv.low (fun b hx=>h.heap.hB b hx) this
      |refs e ns=>cases hfl
      |mps e ms=>cases hfl
      |it l seen=>cases hfl
     have hheap':HeapRel w0 B U (fun b=>F b\/N b) (upd T d (T' d)) (ins d o' s.objs) w':={
      below:=hheap.below
      hB:=hheap.hB
      fsz:=hheap.fsz
      ob:=fun n o ho=>by
       rw[XQ]at ho;split at ho
       .rename_i e;cases ho;subst e;rw[Xt];exact hobB
       rename_i e;rw[Xe _ e];exact(hheap.ob n o ho).upd (WG hun n o ho).2
      apart:=fun n o ho b hbk hF=>by
       rw[XQ]at ho;split at ho
       .rename_i e;rw[e,Xt]at hbk;rcases hF with hF|hF
        .have:=hnew b hbk;have:=h.heap.fsz b hF;omega
        exact ho2 b hbk hF
       rename_i e;rw[Xe _ e]at hbk;exact hheap.apart n o ho b hbk hF
      sep:=fun n m on om hn hm hne b hbn hbm=>by
       rw[XQ]at hn hm;split at hn
       .rename_i e;rw[e,Xt]at hbn;split at hm
        .rename_i e';exact hne (e.trans e'.symm)
        rename_i e';rw[Xe _ e']at hbm;have h1:=hnew b hbn;have h2:=(h.heap.ob m om hm).blk_lt hbm;omega
       rename_i e;rw[Xe _ e]at hbn;split at hm
       .rename_i e';rw[e',Xt]at hbm;have h1:=hnew b hbm;have h2:=(h.heap.ob n on hn).blk_lt hbn;omega
       rename_i e';rw[Xe _ e']at hbm;exact h.heap.sep n m on om hn hm hne b hbn hbm
      pin:=fun n v hv=>by
       obtain⟨h1,h2⟩:=h.heap.pin n v hv;have:=X0a hun
       exact⟨h1,by rw[Xe _ (by omega)];exact h2⟩}
     refine hK d r (some o') (fun b=>F b\/N b) (upd T d (T' d)) v w' hd hok hk (fun _ h=>.inl h) hNB ?_ ((hr.mono hres fun _ _=>rfl).only honly (fun _=>by rw[Xt]));exact⟨hheap',h.defers,h.nt,fun k r hl=>((h.regs k r hl).mono (fun _ h=>.inl h) hFk).upd (Z2 hun hl)⟩
  exact hc.elim
 exact hc.elim
theorem X7z {s:HS} {a:Act} {o:Oper} {K:HS->Prop} (h:Rel w0 B U F T s a w) (hc:XaN P s o K) {Kc:Act->World->Prop} {Q:Exit->Act->World->Prop}
  (hK:∀s' F' T' a' w',K s'->(∀b,F b->F' b)->(∀b,F' b->F b\/¬B b)->Rel w0 B U F' T' s' a' w'->Kc a' w')
  :o.wp P a w Kc Q:=by
 refine X26 h h.opd hc fun d r ob F' T' v w' hd hok hk h1 h2 hr hv=>?_;refine hK _ F' T' _ _ hk h1 h2 ?_;rw[hd];have hok':XP (s.made d ob) (some d)=true:=by cases ob<;>exact hok
 exact hr.step (objs':=(s.made d ob).objs) hok' hr.heap hv fun _ _ _ _ h=>h
theorem X8s {s:HS} {a:Act} {o:Oper} {K:HS->Prop} (h:Rel w0 B U F T s a w) (hc:callG P s true o K) {Kc:Act->World->Prop} {Q:Exit->Act->World->Prop}
  (hK:∀s' F' T' a' w',K s'->(∀b,F b->F' b)->(∀b,F' b->F b\/¬B b)->Rel w0 B U F' T' s' a' w'->Kc a' w')
  :o.wp P a w Kc Q:=by
 refine X26 h (fun x=>X2f rfl (h.opd x)) hc fun d r ob F' T' v w' hd hok hk h1 h2 hr hv=>?_;obtain⟨rfl,hk⟩:=hk;refine hK _ F' T' _ _ hk h1 h2 ?_;rw[hd];exact hr.step (s:=s) (objs':=s.objs) hok hr.heap (X19 (fun _=>hv) (by simp)) fun _ _ _ _ h=>h
theorem Xb1 {s:HS} {b:Bool} {o:Oper} {K:HS->Prop} (hc:callG P s b o K):∃r,XP s o.dst=true/\K (s.put o.dst (gdR b r)):=by
 unfold callG X1v at hc;split at hc
 .rename_i x args ts d ho hd;split at hc
  .obtain⟨fresh,r,ob,_,_,_,_,_,hok,rfl,hk⟩:=hc;rw[hd];exact⟨r,hok,hk⟩
  exact hc.elim
 exact hc.elim
end
end Go.Hl
namespace Go.Hl
open Go Go.RowKit
def wpR (P:Program) (ops:Array Oper):List Oper->HS->(HS->Prop)->Prop
 |[],s,K=>K s
 | o :: l,s,K=>match o.guard with
   | none=>(match Qj o.op with
     | .call=>XaN P s o (fun s'=>wpR P ops l s' K)
     | _=>match X4u P s o with
       |some s'=>wpR P ops l s' K
       |none=>False)
   | some _=>match Zi ops o s with
     | some b=>(match Qj o.op with
       | .call=>(b=false/\XP s o.dst=true/\wpR P ops l (s.put o.dst (.v (.one .any))) K)\/callG P s b o (fun s'=>wpR P ops l s' K)
       | _=>match stpG P s b o with
         |some s'=>wpR P ops l s' K
         |none=>False)
     |none=>False
def HT (P:Program) (c:Code) (s:HS) (Q:Exit->HS->Prop):Prop:=
 ∀(w0:World) (B:Nat->Prop) (U:Nat->Option Value) (F:Nat->Prop) (T:Nat->Value) (a:Act) (w:World),Rel w0 B U F T s a w->
  c.wp P (fun e a' w'=>∃(s':HS) (F':Nat->Prop) (T':Nat->Value),Q e s'/\(∀b,F b->F' b)/\(∀b,F' b->F b\/¬B b)/\Rel w0 B U F' T' s' a' w') a w
def le (s s':HS):Prop:=
 ∀(w0:World) (B:Nat->Prop) (U:Nat->Option Value) (F:Nat->Prop) (T:Nat->Value) (a:Act) (w:World),Rel w0 B U F T s a w->
  ∃(F':Nat->Prop) (T':Nat->Value),(∀b,F b->F' b)/\(∀b,F' b->F b\/¬B b)/\Rel w0 B U F' T' s' a w
section
variable {P:Program} {F:Nat->Prop} {T:Nat->Value} {w w' w0:World} {B:Nat->Prop} {U:Nat->Option Value}
def boolV:Value->Option Bool
 | .bool c=>some c
 |_=>none
theorem X1i {ops:Array Oper} {j d:Nat} {a:Act} (hd:(ops[j]?).bind (·.dst)=some d) {v:Value} (hv:a.tmps.getD d undef=v):yielded ops a.tmps j=boolV v:=by
 subst hv;unfold yielded;rw[hd];simp only[Option.bind_some];rw[Nu];cases hx:a.tmps[d]? with
 |none=>simp[undef,boolV]
 |some u=>simp only[Option.getD_some];cases u<;>rfl
theorem X06 {ops:Array Oper} {o:Oper} {s:HS} {a:Act} {b:Bool} (h:Rel w0 B U F T s a w) (hg:Zi ops o s=some b):Region.wanted o (yielded ops a.tmps)=b:=by
 unfold Zi at hg;unfold Region.wanted;split at hg
 .rename_i hn;rw[hn];cases hg;rfl
 rename_i j want hn;rw[hn];split at hg
 .rename_i d hd;split at hg
  .rename_i c hl;have hv:a.tmps.getD d undef=.bool c:=Xa.lit_eq rfl (h.regs d _ hl);simp only[X1i hd hv];simp only[Option.some.injEq]at hg;subst hg;cases c<;>cases want<;>rfl
  .rename_i b' c hl;have hx:=h.regs d _ hl;simp only[Option.some.injEq]at hg;cases b' with
   | true=>
     have hv:a.tmps.getD d undef=.bool c:=by
      have h2:CRel F w (.lit (.bool c)) (a.tmps.getD d undef):=hx.1 rfl;generalize a.tmps.getD d undef=u at h2;cases h2;rfl
     simp only[X1i hd hv];subst hg;cases c<;>cases want<;>rfl
   | false=>
     have hv:a.tmps.getD d undef=undef:=hx.2 rfl;simp only[X1i hd hv];subst hg;rfl
  .rename_i hl;have hx:=h.regs d _ hl;simp only[Option.some.injEq]at hg;have hv:a.tmps.getD d undef=undef:=hx.2 rfl;simp only[X1i hd hv];subst hg;rfl
  cases hg
 cases hg
theorem X2N {ops:Array Oper} {i:Nat} {o:Oper} {l:List Oper} {s:HS} {a:Act} {K:HS->Prop} {Kc:Act->World->Prop} {Q:Exit->Act->World->Prop} (hi:ops[i]? =some o)
  (h:Rel w0 B U F T s a w) (hw:wpR P ops (o::l) s K)
  (hK:∀s' F' T' a' w',wpR P ops l s' K->(∀b,F b->F' b)->(∀b,F' b->F b\/¬B b)->Rel w0 B U F' T' s' a' w'->Kc a' w'):wpOp P ops Q i Kc a w:=by
 unfold wpOp;rw[hi];simp only
 -- passed Wi: the slot holds nothing
 have skip:∀r:RV,XP s o.dst=true->Xa F T w r undef->wpR P ops l (s.put o.dst r) K->Kc (a.put o.dst undef) w:=by
  intro r hok hr hk;refine hK _ F T _ _ hk (fun _ h=>h) (fun _ h=>.inl h) ?_;have:=h.step (dst:=o.dst) (r:=r) (v:=undef) (objs':=s.objs) hok h.heap hr (fun _ _ _ _ h=>h);exact this
 have exec:∀{s'},X4u P s o=some s'->wpR P ops l s' K->o.wp P a w Kc Q:=by
  intro s' hs hk;unfold X4u at hs;split at hs
  .rename_i r objs' he;split at hs
   .rename_i hok;cases hs;obtain⟨nx,v,w',T',hrun,hnx,hh,hr,hkeep⟩:=X6q h he;have hrel:=h.step hok hh hr hkeep;unfold Oper.wp;rw[hrun];rcases hnx with rfl|⟨rfl,rfl⟩
    .exact hK _ F T' _ _ hk (fun _ h=>h) (fun _ h=>.inl h) hrel
    exact hK _ F T' _ _ hk (fun _ h=>h) (fun _ h=>.inl h) hrel
   cases hs
  cases hs
 simp only[wpR]at hw;split at hw
 .rename_i hn;have hwant:Region.wanted o (yielded ops a.tmps)=true:=by unfold Region.wanted;rw[hn]
  rw[hwant];simp only[Nf];refine .inl ?_;split at hw
  .exact X7z h hw hK
  split at hw
  .rename_i s' hs;exact exec hs hw
  exact hw.elim
 split at hw
 .rename_i b hg;rw[X06 h hg]
  have seen:∀{r:RV},b=true->XP s o.dst=true->wpR P ops l (s.put o.dst (gdR b r)) K->(∃v,(execOp a.eval o).run P w=.ok (.value v) w/\Xa F T w r v)->o.wp P a w Kc Q:=by
   rintro r hb hok hk ⟨v,hrun,hr⟩;unfold Oper.wp;rw[hrun];refine hK _ F T _ _ hk (fun _ h=>h) (fun _ h=>.inl h) ?_;have:=h.step (dst:=o.dst) (r:=gdR b r) (v:=v) (objs':=s.objs) hok h.heap (X19 (fun _=>hr) (fun hf=>by rw[hb]at hf;cases hf)) (fun _ _ _ _ h=>h);exact this
  split at hw
  .cases b with
   | true=>
     simp only[Nf];refine .inl ?_;rcases hw with⟨h0,_⟩|hw
     .cases h0
     exact X8s h hw hK
   | false=>
     simp only[Nz,Nc];rcases hw with⟨_,hok,hk⟩|hw
     .exact skip (.v (.one .any)) hok trivial hk
     obtain⟨r,hok,hk⟩:=Xb1 hw;exact skip _ hok (X19 (by simp) fun _=>rfl) hk
  split at hw
  .rename_i s' hs;unfold stpG at hs;split at hs
   .rename_i hok;split at hs
    .split at hs
     .rename_i r x he;cases hs;cases b with
      | true=>
        simp only[Nf];obtain⟨_,v,hrun,hr⟩:=X2m (F:=F) (T:=T) (w:=w) (fun x=>X2f rfl (h.opd x)) he;exact .inl (seen rfl hok hw ⟨v,hrun,hr⟩)
      | false=>
        simp only[Nz,Nc];exact skip _ hok (X19 (by simp) fun _=>rfl) hw
     split at hs
     .rename_i hb;cases hs;subst hb;simp only[Nz,Nc];exact skip (.v (.one .any)) hok trivial hw
     cases hs
    .split at hs
     .rename_i r he;cases hs;cases b with
      | true=>
        simp only[Nf];obtain⟨v,hrun,hr⟩:=X0U h.heap (fun x=>X2f rfl (h.opd x)) he;exact .inl (seen rfl hok hw ⟨v,hrun,hr⟩)
      | false=>
        simp only[Nz,Nc];exact skip _ hok (X19 (by simp) fun _=>rfl) hw
     split at hs
     .rename_i hb;cases hs;subst hb;simp only[Nz,Nc];exact skip (.v (.one .any)) hok trivial hw
     cases hs
    cases b with
    | true=>
      simp only[Nf];exact .inl (exec hs hw)
    | false=>
      cases hs;simp only[Nz,Nc];exact skip (.v (.one .any)) hok trivial hw
   cases hs
  exact hw.elim
 exact hw.elim
theorem XbC {ops:Array Oper} {K:HS->Prop} {Q:Exit->Act->World->Prop}:∀(l:List Oper) (k:Nat) (s:HS) (F:Nat->Prop) (T:Nat->Value) (a:Act) (w:World),ops.toList.drop k=l->
  Rel w0 B U F T s a w->wpR P ops l s K->
  (∀s' F' T' a' w',K s'->(∀b,F b->F' b)->(∀b,F' b->F b\/¬B b)->Rel w0 B U F' T' s' a' w'->Q .normal a' w')->
  wpOps P ops Q ((List.range' k l.length)) a w
 |[],k,s,F,T,a,w,_,h,hw,hK=>hK s F T a w hw (fun _ h=>h) (fun _ h=>.inl h) h
 | o::l,k,s,F,T,a,w,hd,h,hw,hK=>by
   have hi:ops[k]? =some o:=by
    have:(ops.toList.drop k)[0]? =some o:=by rw[hd];rfl
    rw[Ny]at this;simpa using this
   rw[List.length_cons,List.range'_succ,wpOps_cons];refine X2N hi h hw fun s' F' T' a' w' hw' h1 h2 hr=>?_;refine XbC l (k+1) s' F' T' a' w' ?_ hr hw' fun s2 F2 γ2 a2 w2 hk2 h3 h4 hr2=>?_
   .rw[<-List.drop_drop,hd];rfl
   refine hK s2 F2 γ2 a2 w2 hk2 (fun b hb=>h3 b (h1 b hb)) (fun b hb=>?_) hr2;rcases h4 b hb with h|h
   .exact h2 b h
   exact .inr h
theorem X4d {id:Nat} {ops:Array Oper} {s:HS} {Q:Exit->HS->Prop} (h:wpR P ops ops.toList s (Q .normal)):HT P (.region id ops false) s Q:=by
 intro w0 B U F T a w hr;refine wp_region ?_
 have:=XbC (Q:=fun e a' w'=>∃(s':HS) (F':Nat->Prop) (T':Nat->Value),Q e s'/\(∀b,F b->F' b)/\(∀b,F' b->F b\/¬B b)/\Rel w0 B U F' T' s' a' w') ops.toList 0 s F T a w (by simp) hr h
  fun s' F' T' a' w' hk h1 h2 h3=>⟨s',F',T',hk,h1,h2,h3⟩
 rw[List.range_eq_range'];simpa using this
def evs (P:Program) (ops:Array Oper):List Oper->HS->Option HS
 |[],s=>some s
 | o ::l,s=>match o.guard with
   | none=>match X4u P s o with
     |some s'=>evs P ops l s'
     |none=>none
   | some _=>match Zi ops o s with
     | some b=>match stpG P s b o with
       |some s'=>if Qj o.op=.call then none else evs P ops l s'
       |none=>none
     |none=>none
theorem X1g {ops:Array Oper} {K:HS->Prop}:∀(l:List Oper) (s s':HS),evs P ops l s=some s'->K s'->wpR P ops l s K
 |[],s,s',h,hk=>by cases h;exact hk
 | o :: l,s,s',h,hk=>by
   cases hgd:o.guard with
   | none=>
     simp only[evs,hgd]at h;simp only[wpR,hgd];split at h
     .rename_i s1 hs
      have hc:Qj o.op≠ .call:=by
       intro hc;simp only[X4u,evOp,hc]at hs;cases hs
      split
      .rename_i e;exact absurd e hc
      exact X1g l s1 s' h hk
     cases h
   | some p=>
     simp only[evs,hgd]at h;simp only[wpR,hgd];cases hg:Zi ops o s with
     |none=>rw[hg]at h;cases h
     | some b=>
       rw[hg]at h;simp only at h⊢;split at h
       .rename_i s1 hs;split at h
        .cases h
        rename_i hc;split
        .rename_i e;exact absurd e hc
        exact X1g l s1 s' h hk
       cases h
structure CR where
 fresh:Bool
 r:RV
 ob:Option Ob
def X6m (s:HS) (d:Nat) (own:Bool) (c:CR):Bool:=
 (c.fresh|| !own)&&(!c.ob.isSome||Wb d s)&&c.r.onlyB c.ob.isSome d&&(match c.ob with|some o=>o.flat|none=>true)&&XP s (some d)
def evc (P : Program) (ops:Array Oper):List Oper->HS->List CR->Option (HS×Prop)
 |[],s,_=>some (s,True)
 | o :: l, s, cs=>match o.guard with
   | none => (match Qj o.op with
     | .call =>match cs with
       | c ::cs=>(match o.op,o.dst with
         | .call {callee:=.value x,args:=args, .. },some d=>match Wu s.objs (opd s.regs x),X1w s.objs (opd s.regs) args.toList with
           | some (f,own,es),some ts=>if X6m s d (own||args.toList.any fun x=>(opd s.regs x).ownB) c=true then
             (match evc P ops l ((s.made d c.ob).put (some d) c.r) cs with
             |some (s',p)=>some (s',Con P f c.fresh (ts++es) c.r c.ob d/\p)
             |none=>none)
             else none
           |_,_=>none
         |_,_=>none)
       |[]=>none
     | _=>match X4u P s o with
       |some s'=>evc P ops l s' cs
       |none=>none)
   | some _ => match Zi ops o s with
     | some b =>(match Qj o.op with
       | .call =>match cs with
         | c ::cs=>(match o.op,o.dst with
           | .call {callee:=.value x,args:=args, .. },some d=>match Wu s.objs (ZK b (opd s.regs x)),X1w s.objs (fun x=>ZK b (opd s.regs x)) args.toList with
             | some (f,own,es),some ts=>if X6m s d (own||args.toList.any fun x=>(ZK b (opd s.regs x)).ownB) c=true/\c.ob.isNone=true then
               (match evc P ops l (s.put (some d) (gdR b c.r)) cs with
               |some (s',p)=>some (s',Con P f c.fresh (ts++es) c.r c.ob d/\p)
               |none=>none)
               else none
             |_,_=>none
           |_,_=>none)
         |[]=>none
       | _=>match stpG P s b o with
         |some s'=>evc P ops l s' cs
         |none=>none)
     |none=>none
theorem X5m {s:HS} {d:Nat} {own:Bool} {c:CR} (h:X6m s d own c=true):(c.fresh=true\/own=false)/\(c.ob.isSome=true->Wb d s=true)/\c.r.onlyB c.ob.isSome d=true/\(∀o,c.ob=some o->o.flat=true)/\XP s (some d)=true:=by
 unfold X6m at h;simp only[N4,Nl,Nw]at h;obtain⟨⟨⟨⟨h1,h2⟩,h3⟩,h4⟩,h5⟩:=h;refine⟨h1,fun hs=>h2.resolve_left (by rw[hs];simp),h3,fun o ho=>?_,h5⟩;rw[ho]at h4;exact h4
theorem QZ {ops:Array Oper} {K:HS->Prop}:∀(l:List Oper) (s s':HS) (cs:List CR) (p:Prop),evc P ops l s cs=some (s',p)->p->K s'->wpR P ops l s K
 |[],s,s',_,p,h,_,hk=>by cases h;exact hk
 | o :: l, s, s',cs,p,h,hp,hk=>by
   cases hgd:o.guard with
   | none =>
     simp only[evc,hgd]at h;simp only[wpR,hgd];split at h
     .rename_i hc;split at h
      .rename_i c cs;split at h
       .rename_i x args ts d ho hd;split at h
        .rename_i f own es tvs hf hts;split at h
         .rename_i hok;obtain⟨h1,h2,h3,h4,h5⟩:=X5m hok;split at h
          .rename_i s2 p2 hev;cases h;unfold XaN X1v;rw[ho,hd];simp only[hf,hts];exact⟨c.fresh,c.r,c.ob,hp.1,h1,h2,h3,h4,h5,QZ l _ _ cs _ hev hp.2 hk⟩
          cases h
         cases h
        cases h
       cases h
      cases h
     rename_i hc;split at h
     .rename_i s1 hs;exact QZ l s1 s' cs p h hp hk
     cases h
   | some q =>
     simp only[evc,hgd]at h;simp only[wpR,hgd];cases hg:Zi ops o s with
     |none=>rw[hg]at h;cases h
     | some b =>
       rw[hg]at h;simp only at h⊢;split at h
       .rename_i hc;split at h
        .rename_i c cs;split at h
         .rename_i x args ts d ho hd;split at h
          .rename_i f own es tvs hf hts;split at h
           .rename_i hok;obtain⟨h1,h2,h3,h4,h5⟩:=X5m hok.1;split at h
            .rename_i s2 p2 hev;cases h;refine .inr ?_;unfold callG X1v;rw[ho,hd];simp only[hf,hts];exact⟨c.fresh,c.r,c.ob,hp.1,h1,h2,h3,h4,h5,by simpa using hok.2,QZ l _ _ cs _ hev hp.2 hk⟩
            cases h
           cases h
          cases h
         cases h
        cases h
       rename_i hc;split at h
       .rename_i s1 hs;exact QZ l s1 s' cs p h hp hk
       cases h
theorem Wj {id:Nat} {ops:Array Oper} {s s':HS} {p:Prop} {Q:Exit->HS->Prop} (cs:List CR) (h:evc P ops ops.toList s cs=some (s',p)) (hp:p) (hq:Q .normal s'):HT P (.region id ops false) s Q:=
 X4d (QZ _ _ _ _ _ h hp hq)
theorem Xp {id:Nat} {ops:Array Oper} {s s':HS} {Q:Exit->HS->Prop} (h:evs P ops ops.toList s=some s') (hq:Q .normal s'):HT P (.region id ops false) s Q:=
 X4d (X1g _ _ _ h hq)
theorem XB {c:Code} {s s':HS} {Q:Exit->HS->Prop} (hl:le s s') (h:HT P c s' Q):HT P c s Q:=by
 intro w0 B U F T a w hr;obtain⟨F',T',h1,h2,hr'⟩:=hl w0 B U F T a w hr;refine wp_mono (h w0 B U F' T' a w hr') ?_;rintro e a' w' ⟨s2,F2,γ2,hq,h3,h4,hr2⟩;exact⟨s2,F2,γ2,hq,fun b hb=>h3 b (h1 b hb),fun b hb=>(h4 b hb).elim (h2 b) .inr,hr2⟩
theorem HT_mono {c:Code} {s:HS} {Q Q':Exit->HS->Prop} (h:HT P c s Q) (hq:∀e s',Q e s'->Q' e s'):HT P c s Q':=by
 intro w0 B U F T a w hr;refine wp_mono (h w0 B U F T a w hr) ?_;rintro e a' w' ⟨s2,F2,γ2,hq',h3⟩;exact⟨s2,F2,γ2,hq e s2 hq',h3⟩
def X8H (P:Program) (c:Code) (Q:Exit->HS->Prop):Exit->HS->Prop
 | .normal,s=>HT P c s Q
 |e,s=>Q e s
def Xaw (id:Nat) (Q:Exit->HS->Prop):Exit->HS->Prop
 | .exit k,s=>if k=id then Q .normal s else Q (.exit k) s
 |e,s=>Q e s
def X9h (I:HS->Prop) (Q:Exit->HS->Prop):Exit->HS->Prop
 | .normal,s=>I s
 |e,s=>Q e s
theorem X0 {x y:Code} {s:HS} {Q:Exit->HS->Prop} (h:HT P x s (X8H P y Q)):HT P (.seq x y) s Q:=by
 intro w0 B U F T a w hr;refine wp_seq (wp_mono (h w0 B U F T a w hr) ?_);rintro e a' w' ⟨s',F',T',hq,h1,h2,hr'⟩;cases e with
 | normal=>
   refine wp_mono (hq w0 B U F' T' a' w' hr') ?_;rintro e2 a2 w2 ⟨s2,F2,γ2,hq2,h3,h4,hr2⟩;exact⟨s2,F2,γ2,hq2,fun b hb=>h3 b (h1 b hb),fun b hb=>(h4 b hb).elim (h2 b) .inr,hr2⟩
 |_=>exact⟨s',F',T',hq,h1,h2,hr'⟩
theorem HT_cut {I:Type} {x y:Code} {s:HS} {Q:Exit->HS->Prop} (M:I->HS) (J:I->Prop) (h:HT P x s (X9h (fun s'=>∃z,J z/\le s' (M z)) Q)) (h2:∀z,J z->HT P y (M z) Q):HT P (.seq x y) s Q:=by
 refine X0 (HT_mono h ?_);intro e s' hq;cases e with
 |normal=>obtain⟨z,hj,hl⟩:=hq;exact XB hl (h2 z hj)
 |_=>exact hq
theorem X3 {id:Nat} {c:Code} {s:HS} {Q:Exit->HS->Prop} (h:HT P c s (Xaw id Q)):HT P (.block id c) s Q:=by
 intro w0 B U F T a w hr;refine wp_block (wp_mono (h w0 B U F T a w hr) ?_);rintro e a' w' ⟨s',F',T',hq,h1,h2,hr'⟩;cases e with
 | exit k=>
   simp only[Exit.inBlock];simp only[Xaw]at hq;split
   .rename_i e;rw[Na e]at hq;exact⟨s',F',T',hq,h1,h2,hr'⟩
   rename_i e;rw[N7 e]at hq;exact⟨s',F',T',hq,h1,h2,hr'⟩
 |_=>exact⟨s',F',T',hq,h1,h2,hr'⟩
theorem Xb {s:HS} {Q:Exit->HS->Prop} (h:Q .normal s):HT P .skip s Q:=
 fun _ _ _ F T _ _ hr=>wp_skip ⟨s,F,T,h,fun _ h=>h,fun _ h=>.inl h,hr⟩
theorem Qe {s:HS} {Q:Exit->HS->Prop} (h:Q .ret s):HT P .ret s Q:=
 fun _ _ _ F T _ _ hr=>wp_ret ⟨s,F,T,h,fun _ h=>h,fun _ h=>.inl h,hr⟩
theorem Xg {id:Nat} {s:HS} {Q:Exit->HS->Prop} (h:Q (.exit id) s):HT P (.exit id) s Q:=
 fun _ _ _ F T _ _ hr=>wp_exit ⟨s,F,T,h,fun _ h=>h,fun _ h=>.inl h,hr⟩
theorem X8 {c:Operand} {x y:Code} {s:HS} {Q:Exit->HS->Prop} {t:Bool} (hc:opd s.regs c=.v (.one (.c (.lit (.bool t)))))
  (ht:t=true->HT P x s Q) (hf:t=false->HT P y s Q):HT P (.cond c x y) s Q:=by
 intro w0 B U F T a w hr;have hx:=hr.opd c;rw[hc]at hx;have hv:a.eval c=.bool t:=Xa.lit_eq rfl hx;exact wp_cond_split hv (fun e=>ht e w0 B U F T a w hr) (fun e=>hf e w0 B U F T a w hr)
theorem HT_loop {I:Type} {c:Code} {s:HS} {Q:Exit->HS->Prop} (S:I->HS) (J:I->Prop) (μ:I->Nat) (x0:I) (j0:J x0) (h0:le s (S x0))
  (round:∀x,J x->HT P c (S x) (X9h (fun s'=>∃x',J x'/\μ x'<μ x/\le s' (S x')) Q)):HT P (.loop c) s Q:=by
 intro w0 B U F T a w hr;obtain⟨F0,γ0,h1,h2,hr0⟩:=h0 w0 B U F T a w hr;refine wp_loop_ghost (fun n a w=>∃x F' T',J x/\μ x=n/\(∀b,F b->F' b)/\(∀b,F' b->F b\/¬B b)/\Rel w0 B U F' T' (S x) a w) (μ x0) ⟨x0,F0,γ0,j0,rfl,h1,h2,hr0⟩ ?_;rintro n a w ⟨x,F',T',hj,rfl,h3,h4,hr'⟩;refine wp_mono (round x hj w0 B U F' T' a w hr') ?_;rintro e a' w' ⟨s',F2,γ2,hq,h5,h6,hr2⟩;cases e with
 | normal=>
   obtain⟨x',hj',hlt,hle⟩:=hq;obtain⟨F3,γ3,h7,h8,hr3⟩:=hle w0 B U F2 γ2 a' w' hr2;exact⟨μ x',hlt,x',F3,γ3,hj',rfl,fun b hb=>h7 b (h5 b (h3 b hb)),fun b hb=>(h8 b hb).elim (fun h=>(h6 b h).elim (h4 b) .inr) .inr,hr3⟩
 |_=>exact⟨s',F2,γ2,hq,fun b hb=>h5 b (h3 b hb),fun b hb=>(h6 b hb).elim (h4 b) .inr,hr2⟩
end
def CV.ren (Y:Nat->Nat) (nils:List Nat):CV->CV
 | .own n=>if nils.contains n then .c (.lit XY)else .own (Y n)
 | .at_ n off=>if nils.contains n then .at_ n off else .at_ (Y n) off
 | .el n s i off=>if nils.contains n then .el n s i off else .el (Y n) s i off
 | .sub n i=>if nils.contains n then .sub n i else .sub (Y n) i
 | .el2 n s i j off=>if nils.contains n then .el2 n s i j off else .el2 (Y n) s i j off
 | .fn f caps=>.fn f (caps.map fun p=>(Y p.1,p.2))
 | .gd b x=>.gd b (x.ren Y nils)
 |x=>x
def TV.ren (Y:Nat->Nat) (nils:List Nat):TV->TV
 | .one x=>.one (x.ren Y nils)
 | .agg xs=>.agg (xs.map (CV.ren Y nils))
def RV.ren (Y:Nat->Nat) (nils:List Nat):RV->RV
 | .v t=>.v (t.ren Y nils)
 | .tup ts=>.tup (ts.map (TV.ren Y nils))
def Ob.ren (Y:Nat->Nat) (nils:List Nat):Ob->Ob
 | .box cs=>.box (cs.map (CV.ren Y nils))
 | .refs e ns=>.refs e (ns.map Y)
 |o=>o
def CV.okNil (nils:List Nat):CV->Bool
 | .at_ n _=> !nils.contains n
 | .el n _ _ _=> !nils.contains n
 | .sub n _=> !nils.contains n
 | .el2 n _ _ _ _=> !nils.contains n
 | .fn _ caps=>caps.all fun p=> !nils.contains p.1
 | .gd _ x=>x.okNil nils
 |_=>true
def TV.okNil (nils:List Nat):TV->Bool
 | .one x=>x.okNil nils
 | .agg xs=>xs.all (CV.okNil nils)
def RV.okNil (nils:List Nat):RV->Bool
 | .v t=>t.okNil nils
 | .tup ts=>ts.all (TV.okNil nils)
def Ob.okNil (nils:List Nat):Ob->Bool
 | .box cs=>cs.all (CV.okNil nils)
 | .refs _ ns=>ns.all fun n=> !nils.contains n
 |_=>true
def CV.menA (d:Nat):CV->Bool
 | .at_ n _=>n==d
 | .sub n _=>n==d
 | .el2 n _ _ _ _=>n==d
 | .fn _ caps=>caps.any fun p=>p.1==d
 | .gd _ x=>x.menA d
 |_=>false
def TV.menA (d:Nat):TV->Bool
 | .one x=>x.menA d
 | .agg xs=>xs.any (CV.menA d)
def RV.menA (d:Nat):RV->Bool
 | .v t=>t.menA d
 | .tup ts=>ts.any (TV.menA d)
def Ob.menA (d:Nat):Ob->Bool
 | .box cs=>cs.any (CV.menA d)
 |_=>false
def WY {T:Type} (p:Nat->T->Prop):List (Nat×T)->Prop
 |[]=>True
 |(k,x)::l=>p k x/\WY p l
theorem Z0 {T:Type} {p:Nat->T->Prop}:∀{l:List (Nat×T)},WY p l->∀k x,(k,x)∈l->p k x
 | (k,x)::l,h,k',x',hm=>by
   rcases Nh.1 hm with e|hm
   .cases e;exact h.1
   exact Z0 h.2 k' x' hm
section
variable {P:Program} {F:Nat->Prop} {T T':Nat->Value} {w w' w0:World} {B:Nat->Prop} {U:Nat->Option Value} {Y:Nat->Nat} {nils:List Nat}
theorem Xs.ren (h1:∀n,nils.contains n=false->T' n=T (Y n)) (h2:∀n,nils.contains n=true->T' n=XY) {x:CV} {v:Value} (hk:x.okNil nils=true) (h:Xs F T w (x.ren Y nils) v):Xs F T' w x v:=by
 induction x with
 |gd b x ih=>exact⟨fun hb=>ih hk (h.1 hb),h.2⟩
 |any=>trivial
 |c d=>exact h
 | own n=>
   simp only[CV.ren]at h;split at h
   .rename_i hn;have e:v=XY:=by cases h;rfl
    exact⟨by rw[h2 n hn,e];rfl,by rw[e];rfl⟩
   rename_i hn;simp only[Xs]at*;rw[h1 n (by simpa using hn)];exact h
 | at_ n off=>
   simp only[CV.okNil,Nw]at hk;simp only[CV.ren,hk,Nz,Nc]at h;simp only[Xs]at*;rw[h1 n hk];exact h
 | el n s i off=>
   simp only[CV.okNil,Nw]at hk;simp only[CV.ren,hk,Nz,Nc]at h;simp only[Xs]at*;rw[h1 n hk];exact h
 | sub n i=>
   simp only[CV.okNil,Nw]at hk;simp only[CV.ren,hk,Nz,Nc]at h;simp only[Xs]at*;rw[h1 n hk];exact h
 | el2 n s i j off=>
   simp only[CV.okNil,Nw]at hk;simp only[CV.ren,hk,Nz,Nc]at h;simp only[Xs]at*;rw[h1 n hk];exact h
 | fn f caps=>
   simp only[CV.okNil,Nm,Nw]at hk;obtain⟨vs,hv,hl,hc⟩:=h;refine⟨vs,hv,by simpa using hl,fun j p u hp hu=>?_⟩;rw[h1 p.1 (hk p (N3 hp))];exact hc j (Y p.1,p.2) u (by simp[hp]) hu
theorem Xq.ren (h1:∀n,nils.contains n=false->T' n=T (Y n)) (h2:∀n,nils.contains n=true->T' n=XY) {xs:List CV} {vs:Array Value} (hk:xs.all (CV.okNil nils)=true)
  (h:Xq F T w (xs.map (CV.ren Y nils)) vs):Xq F T' w xs vs:=by
 refine⟨by simpa using h.1,fun j x u hx hu=>?_⟩;rw[Nm]at hk;exact(h.2 j (x.ren Y nils) u (by simp[hx]) hu).ren h1 h2 (hk x (N3 hx))
theorem XI.ren (h1:∀n,nils.contains n=false->T' n=T (Y n)) (h2:∀n,nils.contains n=true->T' n=XY) {x:TV} {v:Value} (hk:x.okNil nils=true) (h:XI F T w (x.ren Y nils) v):XI F T' w x v:=by
 cases x with
 |one x=>exact Xs.ren h1 h2 hk h
 |agg xs=>obtain⟨vs,rfl,hc⟩:=h;exact⟨vs,rfl,hc.ren h1 h2 hk⟩
theorem Xa.ren (h1:∀n,nils.contains n=false->T' n=T (Y n)) (h2:∀n,nils.contains n=true->T' n=XY) {x:RV} {v:Value} (hk:x.okNil nils=true) (h:Xa F T w (x.ren Y nils) v):Xa F T' w x v:=by
 cases x with
 |v t=>exact XI.ren h1 h2 hk h
 | tup ts=>
   obtain⟨vs,rfl,hs,hc⟩:=h;refine⟨vs,rfl,by simpa using hs,fun j t u ht hu=>?_⟩;simp only[RV.okNil,Nm]at hk;exact(hc j (t.ren Y nils) u (by simp[ht]) hu).ren h1 h2 (hk t (N3 ht))
def X0m (Y:Nat->Nat) (n:Nat):Nat:=if 1000000<=n then n else Y n
theorem Xl {s s':HS} (Y:Nat->Nat) (nils:List Nat) (hn:s'.nt=s.nt)
  (hr:WY (fun k r=>r.okNil nils=true/\opd s.regs (.tmp k)=r.ren (X0m Y) nils) s'.regs)
  (ho:WY (fun n o=>if nils.contains n then(match o with| .row _ sz []=>0<sz|_=>False)else o.okNil nils=true/\lkp s.objs (X0m Y n)=some (o.ren (X0m Y) nils)) s'.objs)
  (hi:WY (fun n _=>WY (fun m _=>n=m\/X0m Y n≠X0m Y m\/nils.contains n=true\/nils.contains m=true) s'.objs) s'.objs)
  (hp:nils.all (fun n=>decide (n<1000000))=true:=by rfl):le s s':=by
 intro w0 B U F T a w h
 let T':Nat->Value:=fun n=>if nils.contains n then XY else T (X0m Y n)
 have h1:∀n,nils.contains n=false->T' n=T (X0m Y n):=fun n h=>by simp only[T',h];rfl
 have h2:∀n,nils.contains n=true->T' n=XY:=fun n h=>by simp only[T',h,Nf]
 have hobj:∀n o,lkp s'.objs n=some o->(nils.contains n=true/\∃e sz,o=.row e sz []/\0<sz)\/(nils.contains n=false/\o.okNil nils=true/\lkp s.objs (X0m Y n)=some (o.ren (X0m Y) nils)):=by
  intro n o hl;have:=Z0 ho n o (XC hl);split at this
  .rename_i hc;refine .inl ⟨hc,?_⟩;split at this
   .exact⟨_,_,rfl,this⟩
   exact this.elim
  rename_i hc;exact .inr ⟨by simpa using hc,this⟩
 refine⟨F,T',fun _ h=>h,fun _ h=>.inl h,⟨⟨h.heap.below,h.heap.hB,h.heap.fsz,?_,?_,?_,?_⟩,h.defers,by rw[hn];exact h.nt,?_⟩⟩
 .intro n o hl;rcases hobj n o hl with⟨hc,e,sz,rfl,hsz⟩|⟨hc,hok,hl'⟩
  .rw[h2 n hc];exact⟨hsz,by simp,[],QN.nil w B e sz,by simp,by simp[XN]⟩
  have:=h.heap.ob _ _ hl';rw[h1 n hc];cases o with
  | box cs=>
    obtain⟨b,e,vs,hx,hB,hh,hc'⟩:=this;exact⟨b,e,vs,hx,hB,hh,hc'.ren h1 h2 hok⟩
  |row e sz rows=>exact this
  |mp l=>exact this
  |mat e e' sz rows=>exact this
  | refs e ns=>
    obtain⟨b,hx,hB,hh⟩:=this;refine⟨b,by simpa using hx,hB,?_⟩;rw[hh,List.map_map];congr 3;refine List.map_congr_left fun m hm=>?_;simp only[Ob.okNil,Nm,Nw]at hok;simp only[Function.comp];rw[h1 m (hok m hm)]
  |mps e ms=>exact this
  |it l seen=>exact this
 .intro n o hl b hb;rcases hobj n o hl with⟨hc,_⟩|⟨hc,hok,hl'⟩
  .rw[h2 n hc]at hb;cases hb
  rw[h1 n hc]at hb;exact h.heap.apart _ _ hl' b hb
 .intro n m on om hln hlm hne b hbn hbm;rcases hobj n on hln with⟨hc,_⟩|⟨hc,hok,hl'⟩
  .rw[h2 n hc]at hbn;cases hbn
  rcases hobj m om hlm with⟨hc2,_⟩|⟨hc2,hok2,hl2⟩
  .rw[h2 m hc2]at hbm;cases hbm
  rw[h1 n hc]at hbn;rw[h1 m hc2]at hbm;have:=Z0 (Z0 hi n on (XC hln)) m om (XC hlm);rcases this with h3|h3|h3|h3
  .exact hne h3
  .exact h.heap.sep _ _ _ _ hl' hl2 h3 b hbn hbm
  .rw[hc]at h3;cases h3
  rw[hc2]at h3;cases h3
 .intro n v hv;obtain⟨h3,h4⟩:=h.heap.pin n v hv;refine⟨h3,?_⟩
  have hc:nils.contains n=false:=by
   cases hc:nils.contains n with
   |false=>rfl
   | true=>
     rw[Nm]at hp;have:=hp n (by simpa using hc);simp only[N6]at this;omega
  rw[h1 n hc];simp only[X0m,Na h3];exact h4
 intro k r hl;obtain⟨hok,he⟩:=Z0 hr k r (XC hl);have:=h.opd (.tmp k);rw[he]at this;exact this.ren h1 h2 hok
theorem le_trans {s s' s'':HS} (h:le s s') (h':le s' s''):le s s'':=by
 intro w0 B U F T a w hr;obtain⟨F1,γ1,a1,a2,hr1⟩:=h w0 B U F T a w hr;obtain⟨F2,γ2,b1,b2,hr2⟩:=h' w0 B U F1 γ1 a w hr1;exact⟨F2,γ2,fun b hb=>b1 b (a1 b hb),fun b hb=>(b2 b hb).elim (a2 b) .inr,hr2⟩
theorem le_refl (s:HS):le s s:=fun _ _ _ F T _ _ hr=>⟨F,T,fun _ h=>h,fun _ h=>.inl h,hr⟩
def CV.frz (n:Nat) (d:CD):CV->CV
 | .own m=>if m=n then .c d else .own m
 | .at_ m off=>if m=n then(match d with| .ptr cs=>.c (.ptr (cs.drop off))|_=>.any)else .at_ m off
 | .el m s' i off=>if m=n then .any else .el m s' i off
 | .sub m i=>if m=n then .any else .sub m i
 | .el2 m s i j off=>if m=n then .any else .el2 m s i j off
 | .fn f caps=>if caps.any (fun p=>p.1==n)then .any else .fn f caps
 | .gd b x=>.gd b (x.frz n d)
 |x=>x
def TV.frz (n:Nat) (d:CD):TV->TV
 | .one x=>.one (x.frz n d)
 | .agg xs=>.agg (xs.map (CV.frz n d))
def RV.frz (n:Nat) (d:CD):RV->RV
 | .v t=>.v (t.frz n d)
 | .tup ts=>.tup (ts.map (TV.frz n d))
def Ob.frz (n:Nat) (d:CD):Ob->Ob
 | .box cs=>.box (cs.map (CV.frz n d))
 |o=>o
def W9 {T Y:Type} (f:T->Y):List (Nat×T)->List (Nat×Y)
 |[]=>[]
 |(k,x)::l=>(k,f x)::W9 f l
theorem ZC {T Y:Type} (f:T->Y) (n:Nat):∀l:List (Nat×T),lkp (W9 f l) n=(lkp l n).map f
 |[]=>rfl
 | (k,x)::l=>by
   simp only[W9,lkp];split
   .rfl
   exact ZC f n l
def X5D (G:Nat->Prop) (w:World) (x:Value) (d:CD):Prop:=CRel G w d (Hl.hd x)/\∀b,x=.pointer (some ⟨b,0,none⟩)->∀cs,d=.ptr cs->∀off,CRel G w (.ptr (cs.drop off)) (.pointer (some ⟨b,off,none⟩))
theorem Xs.frz {n:Nat} {d:CD} {G:Nat->Prop} (hG:∀b,F b->G b) (hn:X5D G w (T n) d) {x:CV} {v:Value} (h:Xs F T w x v):Xs G T w (x.frz n d) v:=by
 induction x with
 |gd b x ih=>exact⟨fun hb=>ih (h.1 hb),h.2⟩
 |any=>trivial
 |c d=>exact CRel.mono hG (fun _ _=>rfl) h
 | own m=>
   simp only[CV.frz];split
   .rename_i e;subst e;rw[h.1];exact hn.1
   exact h
 | at_ m off=>
   simp only[CV.frz];split
   .rename_i e;subst e;split
    .rename_i cs;obtain⟨b,hb,rfl⟩:=h;exact hn.2 b hb cs rfl off
    trivial
   exact h
 | el m s' i off=>
   simp only[CV.frz];split
   .trivial
   exact h
 | sub m i=>
   simp only[CV.frz];split
   .trivial
   exact h
 | el2 m s' i j off=>
   simp only[CV.frz];split
   .trivial
   exact h
 | fn f caps=>
   simp only[CV.frz];split
   .trivial
   exact h
theorem Xq.frz {n:Nat} {d:CD} {G:Nat->Prop} (hG:∀b,F b->G b) (hn:X5D G w (T n) d) {xs:List CV} {vs:Array Value} (h:Xq F T w xs vs):Xq G T w (xs.map (CV.frz n d)) vs:=by
 refine⟨by simpa using h.1,fun j x u hx hu=>?_⟩;rw[Np]at hx;simp only[N8]at hx;obtain⟨y,hy,rfl⟩:=hx;exact(h.2 j y u hy hu).frz hG hn
theorem Xa.frz {n:Nat} {d:CD} {G:Nat->Prop} (hG:∀b,F b->G b) (hn:X5D G w (T n) d) {x:RV} {v:Value} (h:Xa F T w x v):Xa G T w (x.frz n d) v:=by
 have ht:∀(t:TV) v,XI F T w t v->XI G T w (t.frz n d) v:=by
  intro t v h;cases t with
  |one x=>exact Xs.frz hG hn h
  |agg xs=>obtain⟨vs,rfl,hc⟩:=h;exact⟨vs,rfl,hc.frz hG hn⟩
 cases x with
 |v t=>exact ht t v h
 | tup ts=>
   obtain⟨vs,rfl,hs,hc⟩:=h;refine⟨vs,rfl,by simpa using hs,fun j t u htt hu=>?_⟩;rw[Np]at htt;simp only[N8]at htt;obtain⟨y,hy,rfl⟩:=htt;exact ht _ _ (hc j y u hy hu)
def HS.frz (x:HS) (n:Nat) (d:CD):HS:=
 {x with regs:=W9 (RV.frz n d) x.regs,objs:=W9 (Ob.frz n d) (del n x.objs)}
theorem X3U {x:HS} (n:Nat) {o:Ob} {d:CD} (h:lkp x.objs n=some o)
  (hn:∀{w0:World} {B:Nat->Prop} {U:Nat->Option Value} {F:Nat->Prop} {T:Nat->Value} {w:World},HeapRel w0 B U F T x.objs w->X5D (fun b=>F b\/Blk (T n) b) w (T n) d):le x (x.frz n d):=by
 intro w0 B U F T a w hr;have hob:=hr.heap.ob n _ h
 let G:Nat->Prop:=fun b=>F b\/Blk (T n) b
 have hG:∀b,F b->G b:=fun _ h=>.inl h;have hn':X5D G w (T n) d:=hn hr.heap
 have hlk:∀m o,lkp (x.frz n d).objs m=some o->m≠n/\∃o0,lkp x.objs m=some o0/\o=o0.frz n d:=by
  intro m o hl;simp only[HS.frz]at hl;rw[ZC]at hl;simp only[N8]at hl;obtain⟨o0,ho0,rfl⟩:=hl;obtain⟨h1,h2⟩:=Ql ho0;exact⟨h1,o0,h2,rfl⟩
 refine⟨G,T,hG,?_,⟨⟨hr.heap.below,hr.heap.hB,?_,?_,?_,?_,hr.heap.pin⟩,hr.defers,hr.nt,?_⟩⟩
 .rintro b (hb|hb)
  .exact .inl hb
  exact .inr (hob.blk_lt hb).1
 .rintro b (hb|hb)
  .exact hr.heap.fsz b hb
  exact(hob.blk_lt hb).2
 .intro m o hl;obtain⟨hne,o0,h0,rfl⟩:=hlk m o hl;have:=(hr.heap.ob m o0 h0).mono (F':=G) (w':=w) hG (fun _ _=>rfl) (fun _ _=>rfl);cases o0 with
  | box cs=>
    obtain⟨b,e',vs,h1,h2,h3,_⟩:=this;obtain⟨b',e2,vs',h1',h2',h3',h4⟩:=hr.heap.ob m _ h0;exact⟨b',e2,vs',h1',h2',h3',h4.frz hG hn'⟩
  |row e' s' rows'=>exact this
  |mp l=>exact this
  |mat e e' s rows=>exact this
  |refs e ns=>exact this
  |mps e ms=>exact this
  |it l seen=>exact this
 .rintro m o hl b hb (hF|hF)
  .obtain⟨hne,o0,h0,rfl⟩:=hlk m o hl;exact hr.heap.apart m o0 h0 b hb hF
  obtain⟨hne,o0,h0,rfl⟩:=hlk m o hl;exact hr.heap.sep m n o0 _ h0 h hne b hb hF
 .intro m k om ok hlm hlk' hne;obtain⟨_,o1,h1,_⟩:=hlk m om hlm;obtain⟨_,o2,h2,_⟩:=hlk k ok hlk';exact hr.heap.sep m k o1 o2 h1 h2 hne
 intro k r hl;simp only[HS.frz]at hl;rw[ZC]at hl;simp only[N8]at hl;obtain⟨r0,hr0,rfl⟩:=hl;exact(hr.regs k r0 hr0).frz hG hn'
theorem Qs {x:HS} (n:Nat) {e:TypeId} {s:Nat} {rows:List (List CD)} (h:lkp x.objs n=some (.row e s rows)):le x (x.frz n (.sl s rows)):=
 X3U n h fun {_ B _ F T w} hh=>by
  have hro:Xv F w B e s (T n) rows:=hh.ob n _ h;refine⟨?_,fun b hb cs e=>by cases e⟩;rw[Zk hro.sl];exact X3a hro (fun _ h=>.inl h) fun b hb=>.inr ((Wg hro.sl).2 hb)
theorem le_frzP {x:HS} (n:Nat) {l:List (Value×CD)} (h:lkp x.objs n=some (.mp l)):le x (x.frz n (.mp l)):=
 X3U n h fun {_ B _ F T w} hh=>by
  obtain⟨b,es,clock,hγ,hB,hb,hk,hn,hr⟩:=hh.ob n _ h;refine⟨?_,fun b hb cs e=>by cases e⟩;rw[hγ];exact .mp l b es clock (.inr rfl) hb hk hn fun j k d e h1 h2=>(hr j k d e h1 h2).mono (fun _ h=>.inl h) fun _ _=>rfl
theorem le_frzM {x:HS} (n:Nat) {e e':TypeId} {s:Nat} {rows:List (Option (List (List CD)))} (h:lkp x.objs n=some (.mat e e' s rows)):le x (x.frz n (.sl 1 (rows.map fun r=>[X57 s r]))):=
 X3U n h fun {_ B _ F T w} hh=>⟨X6a (hh.ob n _ h) (fun _ h=>.inl h) fun b hb=>.inr hb,fun b hb cs e=>by cases e⟩
theorem le_frzQ {x:HS} (n:Nat) {e:TypeId} {ms:List (Option (List (Value×CD)))} (h:lkp x.objs n=some (.mps e ms)):le x (x.frz n (.sl 1 (ms.map fun r=>[mpC r]))):=
 X3U n h fun {_ B _ F T w} hh=>⟨X9x (hh.ob n _ h) (fun _ h=>.inl h) fun b hb=>.inr hb,fun b hb cs e=>by cases e⟩
theorem XaX {x:HS} (n:Nat) {e:TypeId} {k:Nat} (e':TypeId) (s:Nat) (hs:0<s) (hn6:n<1000000) (hrow:lkp x.objs n=some (.row e 1 (List.replicate k [.lit XY])))
  (hm:(x.regs.all fun p=> !p.2.menA n)=true) (hm2:(x.objs.all fun p=> !p.2.menA n)=true):le x {x with objs:=ins n (.mat e e' s (List.replicate k none)) x.objs}:=by
 intro w0 B U F T a w hr;have hro:Xv F w B e 1 (T n) (List.replicate k [.lit XY]):=hr.heap.ob n _ hrow;have hsl:=hro.sl;have hown:=hro;obtain⟨_,_,xs,hown,hx1,hxc⟩:=hown
 let y:Value:=.agg (T n::List.replicate k undef).toArray
 have hhd:Hl.hd y=T n:=rfl
 have hB:∀b,Blk y b↔Blk (T n) b:=by
  intro b;constructor
  .rintro⟨v,hv,hvb⟩;simp only[Nh,List.mem_replicate]at hv;rcases hv with rfl|⟨_,rfl⟩
   .exact(Wg hsl).2 hvb
   cases hvb
  intro hb;exact⟨T n,by simp,(Wg hsl).1 hb⟩
 have hcv:∀{z:CV} {v:Value},z.menA n=false->Xs F T w z v->Xs F (upd T n y) w z v:=by
  intro z
  induction z with
  |gd b z ih=>intro v hz h;exact⟨fun hb=>ih hz (h.1 hb),h.2⟩
  |any=>intro v hz h;trivial
  |c d=>intro v hz h;exact h
  | own m=>
    intro v hz h;by_cases e:m=n
    .subst e;exact⟨by rw[Xt,hhd,h.1,Zk hsl],h.2⟩
    simp only[Xs]at*;rw[Xe _ e];exact h
  | at_ m off=>
    intro v hz h;simp only[CV.menA,beq_eq_false_iff_ne]at hz;simp only[Xs]at*;rw[Xe _ hz];exact h
  | el m s' i off=>
    intro v hz h;by_cases e:m=n
    .subst e;obtain⟨b,oo,len,cap,h1,h2⟩:=h;refine⟨b,oo,len,cap,?_,h2⟩;rw[Xt,hhd];rw[Zk hsl]at h1;exact h1
    simp only[Xs]at*;rw[Xe _ e];exact h
  | sub m i=>
    intro v hz h;simp only[CV.menA,beq_eq_false_iff_ne]at hz;simp only[Xs]at*;rw[Xe _ hz];exact h
  | el2 m s' i j off=>
    intro v hz h;simp only[CV.menA,beq_eq_false_iff_ne]at hz;simp only[Xs]at*;rw[Xe _ hz];exact h
  | fn f caps=>
    intro v hz h;obtain⟨vs,hv,hl,hc⟩:=h;simp only[CV.menA,Dd,beq_iff_eq]at hz;refine⟨vs,hv,hl,fun j p u hp hu=>?_⟩;rw[Xe _ (hz p (N3 hp))];exact hc j p u hp hu
 have htv:∀{z:TV} {v:Value},z.menA n=false->XI F T w z v->XI F (upd T n y) w z v:=by
  intro z v hz h;cases z with
  |one z=>exact hcv hz h
  | agg zs=>
    obtain⟨vs,rfl,hs,hc⟩:=h;simp only[TV.menA,Dd,DK]at hz;exact⟨vs,rfl,hs,fun j z u hj hu=>hcv (hz z (N3 hj)) (hc j z u hj hu)⟩
 have hrv:∀{z:RV} {v:Value},z.menA n=false->Xa F T w z v->Xa F (upd T n y) w z v:=by
  intro z v hz h;cases z with
  |v t=>exact htv hz h
  | tup ts=>
    obtain⟨vs,rfl,hs,hc⟩:=h;simp only[RV.menA,Dd,DK]at hz;exact⟨vs,rfl,hs,fun j z u hj hu=>htv (hz z (N3 hj)) (hc j z u hj hu)⟩
 have hot:∀m o,m≠n->lkp x.objs m=some o->Q0 F (upd T n y) w B (T m) o:=by
  intro m o hne hl;have:=hr.heap.ob m o hl
  have hmo:o.menA n=false:=by
   rw[Nm]at hm2;simpa using hm2 _ (XC hl)
  cases o with
  | box cs=>
    obtain⟨b,e',vs,h1,h2,h3,h4,h5⟩:=this;simp only[Ob.menA,Dd,DK]at hmo;exact⟨b,e',vs,h1,h2,h3,h4,fun j z u hj hu=>hcv (hmo z (N3 hj)) (h5 j z u hj hu)⟩
  |row e' s' rows'=>exact this
  |mp l=>exact this
  |mat e e' s rows=>exact this
  | refs e ns=>
    obtain⟨b,h1,h2,h3⟩:=this;refine⟨b,h1,h2,?_⟩;rw[h3];congr 3;refine List.map_congr_left fun q _=>?_;by_cases e:q=n
    .subst e;rw[Xt,hhd,Zk hsl]
    rw[Xe _ e]
  |mps e ms=>exact this
  |it l seen=>exact this
 refine⟨F,upd T n y,fun _ h=>h,fun _ h=>.inl h,⟨⟨hr.heap.below,hr.heap.hB,hr.heap.fsz,?_,?_,?_,?_⟩,hr.defers,hr.nt,?_⟩⟩
 .intro m o hl;simp only at hl;rw[XQ]at hl;split at hl
  .rename_i e';subst e';cases hl;rw[Xt];refine⟨T m,List.replicate k undef,rfl,hs,by simp,⟨xs,by simpa using hown,fun i v r hv hr=>?_⟩,fun i v r hv hr=>?_,fun i v b hv hb=>?_,fun i j u v b hu hv hij hb=>?_⟩
   .have hi:i<k:=by have:=(N5.1 hv).1;simpa using this
    rw[D7,Na hi]at hr;cases hr;obtain⟨u,hu,hcu⟩:=hxc i 0 (.lit XY) (by simp[XN,D7,hi]);cases hcu;simpa[X0k]using hu
   .have hi:i<k:=by have:=(N5.1 hv).1;simpa using this
    rw[D7,Na hi]at hr hv;cases hr;cases hv;rfl
   .have hi:i<k:=by have:=(N5.1 hv).1;simpa using this
    rw[D7,Na hi]at hv;cases hv;cases hb
   have hi:i<k:=by have:=(N5.1 hu).1;simpa using this
   rw[D7,Na hi]at hu;cases hu;cases hb
  rename_i hne;rw[Xe _ hne];exact hot m o hne hl
 .intro m o hl b hb;simp only at hl;rw[XQ]at hl;split at hl
  .rename_i e';subst e';rw[Xt]at hb;exact hr.heap.apart m _ hrow b ((hB b).1 hb)
  rename_i hne;rw[Xe _ hne]at hb;exact hr.heap.apart m o hl b hb
 .intro m q om oq hlm hlq hmq b hbm hbq;simp only at hlm hlq;rw[XQ]at hlm hlq;split at hlm
  .rename_i em;split at hlq
   .rename_i eq;exact hmq (em.trans eq.symm)
   rename_i hq;rw[em,Xt]at hbm;rw[Xe _ hq]at hbq;exact hr.heap.sep n q _ _ hrow hlq (Ne.symm hq) b ((hB b).1 hbm) hbq
  rename_i hm';rw[Xe _ hm']at hbm;split at hlq
  .rename_i eq;rw[eq,Xt]at hbq;exact hr.heap.sep m n _ _ hlm hrow hm' b hbm ((hB b).1 hbq)
  rename_i hq;rw[Xe _ hq]at hbq;exact hr.heap.sep m q _ _ hlm hlq hmq b hbm hbq
 .intro m v hv;obtain⟨h1,h2⟩:=hr.heap.pin m v hv;exact⟨h1,by rw[Xe _ (by omega)];exact h2⟩
 intro q r hl
 have:r.menA n=false:=by
  rw[Nm]at hm;simpa using hm _ (XC hl)
 exact hrv this (hr.regs q r hl)
theorem le_mps {x:HS} (n:Nat) {e:TypeId} {k:Nat} (hn6:n<1000000) (hrow:lkp x.objs n=some (.row e 1 (List.replicate k [.lit (.map none)])))
  (hm:(x.regs.all fun p=> !p.2.menA n)=true) (hm2:(x.objs.all fun p=> !p.2.menA n)=true):le x {x with objs:=ins n (.mps e (List.replicate k none)) x.objs}:=by
 intro w0 B U F T a w hr;have hro:Xv F w B e 1 (T n) (List.replicate k [.lit (.map none)]):=hr.heap.ob n _ hrow;have hsl:=hro.sl;have hown:=hro;obtain⟨_,_,xs,hown,hx1,hxc⟩:=hown
 let y:Value:=.agg (T n::List.replicate k undef).toArray
 have hhd:Hl.hd y=T n:=rfl
 have hB:∀b,Blk y b↔Blk (T n) b:=by
  intro b;constructor
  .rintro⟨v,hv,hvb⟩;simp only[Nh,List.mem_replicate]at hv;rcases hv with rfl|⟨_,rfl⟩
   .exact(Wg hsl).2 hvb
   cases hvb
  intro hb;exact⟨T n,by simp,(Wg hsl).1 hb⟩
 have hcv:∀{z:CV} {v:Value},z.menA n=false->Xs F T w z v->Xs F (upd T n y) w z v:=by
  intro z
  induction z with
  |gd b z ih=>intro v hz h;exact⟨fun hb=>ih hz (h.1 hb),h.2⟩
  |any=>intro v hz h;trivial
  |c d=>intro v hz h;exact h
  | own m=>
    intro v hz h;by_cases e:m=n
    .subst e;exact⟨by rw[Xt,hhd,h.1,Zk hsl],h.2⟩
    simp only[Xs]at*;rw[Xe _ e];exact h
  | at_ m off=>
    intro v hz h;simp only[CV.menA,beq_eq_false_iff_ne]at hz;simp only[Xs]at*;rw[Xe _ hz];exact h
  | el m s' i off=>
    intro v hz h;by_cases e:m=n
    .subst e;obtain⟨b,oo,len,cap,h1,h2⟩:=h;refine⟨b,oo,len,cap,?_,h2⟩;rw[Xt,hhd];rw[Zk hsl]at h1;exact h1
    simp only[Xs]at*;rw[Xe _ e];exact h
  | sub m i=>
    intro v hz h;simp only[CV.menA,beq_eq_false_iff_ne]at hz;simp only[Xs]at*;rw[Xe _ hz];exact h
  | el2 m s' i j off=>
    intro v hz h;simp only[CV.menA,beq_eq_false_iff_ne]at hz;simp only[Xs]at*;rw[Xe _ hz];exact h
  | fn f caps=>
    intro v hz h;obtain⟨vs,hv,hl,hc⟩:=h;simp only[CV.menA,Dd,beq_iff_eq]at hz;refine⟨vs,hv,hl,fun j p u hp hu=>?_⟩;rw[Xe _ (hz p (N3 hp))];exact hc j p u hp hu
 have htv:∀{z:TV} {v:Value},z.menA n=false->XI F T w z v->XI F (upd T n y) w z v:=by
  intro z v hz h;cases z with
  |one z=>exact hcv hz h
  | agg zs=>
    obtain⟨vs,rfl,hs,hc⟩:=h;simp only[TV.menA,Dd,DK]at hz;exact⟨vs,rfl,hs,fun j z u hj hu=>hcv (hz z (N3 hj)) (hc j z u hj hu)⟩
 have hrv:∀{z:RV} {v:Value},z.menA n=false->Xa F T w z v->Xa F (upd T n y) w z v:=by
  intro z v hz h;cases z with
  |v t=>exact htv hz h
  | tup ts=>
    obtain⟨vs,rfl,hs,hc⟩:=h;simp only[RV.menA,Dd,DK]at hz;exact⟨vs,rfl,hs,fun j z u hj hu=>htv (hz z (N3 hj)) (hc j z u hj hu)⟩
 have hot:∀m o,m≠n->lkp x.objs m=some o->Q0 F (upd T n y) w B (T m) o:=by
  intro m o hne hl;have:=hr.heap.ob m o hl
  have hmo:o.menA n=false:=by
   rw[Nm]at hm2;simpa using hm2 _ (XC hl)
  cases o with
  | box cs=>
    obtain⟨b,e',vs,h1,h2,h3,h4,h5⟩:=this;simp only[Ob.menA,Dd,DK]at hmo;exact⟨b,e',vs,h1,h2,h3,h4,fun j z u hj hu=>hcv (hmo z (N3 hj)) (h5 j z u hj hu)⟩
  |row e' s' rows'=>exact this
  |mp l=>exact this
  |mat e e' s rows=>exact this
  | refs e ns=>
    obtain⟨b,h1,h2,h3⟩:=this;refine⟨b,h1,h2,?_⟩;rw[h3];congr 3;refine List.map_congr_left fun q _=>?_;by_cases e:q=n
    .subst e;rw[Xt,hhd,Zk hsl]
    rw[Xe _ e]
  |mps e ms=>exact this
  |it l seen=>exact this
 refine⟨F,upd T n y,fun _ h=>h,fun _ h=>.inl h,⟨⟨hr.heap.below,hr.heap.hB,hr.heap.fsz,?_,?_,?_,?_⟩,hr.defers,hr.nt,?_⟩⟩
 .intro m o hl;simp only at hl;rw[XQ]at hl;split at hl
  .rename_i e';subst e';cases hl;rw[Xt];refine⟨T m,List.replicate k undef,rfl,by simp,⟨xs,by simpa using hown,fun i v r hv hr=>?_⟩,fun i v r hv hr=>?_,fun i v b hv hb=>?_,fun i j u v b hu hv hij hb=>?_⟩
   .have hi:i<k:=by have:=(N5.1 hv).1;simpa using this
    rw[D7,Na hi]at hr;cases hr;obtain⟨u,hu,hcu⟩:=hxc i 0 (.lit (.map none)) (by simp[XN,D7,hi]);cases hcu;simpa[X0F]using hu
   .have hi:i<k:=by have:=(N5.1 hv).1;simpa using this
    rw[D7,Na hi]at hr hv;cases hr;cases hv;rfl
   .have hi:i<k:=by have:=(N5.1 hv).1;simpa using this
    rw[D7,Na hi]at hv;cases hv;cases hb
   have hi:i<k:=by have:=(N5.1 hu).1;simpa using this
   rw[D7,Na hi]at hu;cases hu;cases hb
  rename_i hne;rw[Xe _ hne];exact hot m o hne hl
 .intro m o hl b hb;simp only at hl;rw[XQ]at hl;split at hl
  .rename_i e';subst e';rw[Xt]at hb;exact hr.heap.apart m _ hrow b ((hB b).1 hb)
  rename_i hne;rw[Xe _ hne]at hb;exact hr.heap.apart m o hl b hb
 .intro m q om oq hlm hlq hmq b hbm hbq;simp only at hlm hlq;rw[XQ]at hlm hlq;split at hlm
  .rename_i em;split at hlq
   .rename_i eq;exact hmq (em.trans eq.symm)
   rename_i hq;rw[em,Xt]at hbm;rw[Xe _ hq]at hbq;exact hr.heap.sep n q _ _ hrow hlq (Ne.symm hq) b ((hB b).1 hbm) hbq
  rename_i hm';rw[Xe _ hm']at hbm;split at hlq
  .rename_i eq;rw[eq,Xt]at hbq;exact hr.heap.sep m n _ _ hlm hrow hm' b hbm ((hB b).1 hbq)
  rename_i hq;rw[Xe _ hq]at hbq;exact hr.heap.sep m q _ _ hlm hlq hmq b hbm hbq
 .intro m v hv;obtain⟨h1,h2⟩:=hr.heap.pin m v hv;exact⟨h1,by rw[Xe _ (by omega)];exact h2⟩
 intro q r hl
 have:r.menA n=false:=by
  rw[Nm]at hm;simpa using hm _ (XC hl)
 exact hrv this (hr.regs q r hl)
end
def QQ:Nat->List TV->List (Nat×RV)
 |_,[]=>[]
 |k,t::ts=>(k,.v t)::QQ (k+1) ts
def resT (P:Program) (s:HS):ResultVar->Option TV
 | .tmp t=>match opd s.regs (.tmp t)with
   | .v tv=>some tv
   |_=>none
 | .cell a t=>match evR P s.objs (opd s.regs) (.load t (.tmp a))with
   |some (.v tv)=>some tv
   |_=>none
def X34 (P:Program) (s:HS):List ResultVar->Option (List TV)
 |[]=>some []
 | x::l=>match resT P s x,X34 P s l with
   |some t,some ts=>some (t::ts)
   |_,_=>none
def XL:List TV->RV
 |[t]=>.v t
 |ts=>.tup ts
def CV.litB:CV->Bool
 | .c (.lit _)=>true
 | .c _=>false
 | .gd _ _=>false
 |_=>true
def TV.litB:TV->Bool
 | .one x=>x.litB
 | .agg xs=>xs.all CV.litB
def RV.litB:RV->Bool
 | .v t=>t.litB
 | .tup ts=>ts.all TV.litB
def Ob.lits:Ob->Prop
 | .box cs=>cs.all CV.litB=true
 | .row _ _ rows=>∀r∈rows,∀c∈r,∃v,c=.lit v
 |_=>False
structure RetOK (P:Program) (rs:List ResultVar) (s:HS) (fresh:Bool) (r:RV) (ob:Option Ob) (d:Nat):Prop where
 res:∃ts,X34 P s rs=some ts/\r=XL ts
 objs:∀o,ob=some o->lkp s.objs d=some o
 lit:fresh=true->r.litB=true/\∀o,ob=some o->o.lits
section
variable {P:Program} {F:Nat->Prop} {T T':Nat->Value} {w w' w0:World} {B:Nat->Prop} {U:Nat->Option Value}
theorem Xs.lits {G:Nat->Prop} {x:CV} {v:Value} (hx:x.litB=true) (h:Xs F T w x v):Xs G T w x v:=by
 cases x with
 |gd b x=>cases hx
 | c d=>
   cases d with
   |lit u=>cases h;exact CRel.lit _
   |_=>cases hx
 |_=>exact h
theorem Xq.lits {G:Nat->Prop} {xs:List CV} {vs:Array Value} (hx:xs.all CV.litB=true) (h:Xq F T w xs vs):Xq G T w xs vs:=by
 rw[Nm]at hx;exact⟨h.1,fun j x u hxj hu=>(h.2 j x u hxj hu).lits (hx x (N3 hxj))⟩
theorem XI.lits {G:Nat->Prop} {x:TV} {v:Value} (hx:x.litB=true) (h:XI F T w x v):XI G T w x v:=by
 cases x with
 |one x=>exact Xs.lits hx h
 |agg xs=>obtain⟨vs,rfl,hc⟩:=h;exact⟨vs,rfl,hc.lits hx⟩
theorem Xa.lits {G:Nat->Prop} {x:RV} {v:Value} (hx:x.litB=true) (h:Xa F T w x v):Xa G T w x v:=by
 cases x with
 |v t=>exact XI.lits hx h
 | tup ts=>
   obtain⟨vs,rfl,hs,hc⟩:=h;simp only[RV.litB,Nm]at hx;exact⟨vs,rfl,hs,fun j t u ht hu=>(hc j t u ht hu).lits (hx t (N3 ht))⟩
theorem Q0.lits {G:Nat->Prop} {o:Ob} {x:Value} (ho:o.lits) (h:Q0 F T w B x o):Q0 G T w B x o:=by
 cases o with
 |box cs=>obtain⟨b,e,vs,h1,h2,h3,h4⟩:=h;exact⟨b,e,vs,h1,h2,h3,h4.lits ho⟩
 | row e s rows=>
   obtain⟨h0,hs,xs,hown,h1,hc⟩:=h;refine⟨h0,hs,xs,hown,h1,fun i j d hd=>?_⟩;obtain⟨u,hu,hr⟩:=hc i j d hd;refine⟨u,hu,?_⟩
   have:∃v,d=.lit v:=by
    unfold XN at hd;cases hri:rows[i]? with
    |none=>simp[hri]at hd
    | some r=>
      simp only[hri,Option.bind_some]at hd;exact ho r (N3 hri) d (N3 hd)
   obtain⟨v,rfl⟩:=this;cases hr;exact CRel.lit _
 |mp l=>exact ho.elim
 |mat e e' s rows=>exact ho.elim
 |refs e ns=>exact ho.elim
 |mps e ms=>exact ho.elim
 |it l seen=>exact ho.elim
theorem Ze:∀(ts:List TV) (k n:Nat) (r:RV),lkp (QQ k ts) n=some r->k<=n/\∃t,ts[n - k]? =some t/\r=.v t
 |[],k,n,r,h=>by cases h
 | t::ts,k,n,r,h=>by
   simp only[QQ,lkp]at h;split at h
   .rename_i e;cases h;subst e;exact⟨NK _,t,by simp,rfl⟩
   rename_i e;obtain⟨h1,t',h2,h3⟩:=Ze ts (k+1) n r h;refine⟨by omega,t',?_,h3⟩;rw[show n - k=(n - (k+1))+1 by omega];exact h2
def X8X (tmps:Array Value):ResultVar->Sem Value
 | .tmp t=>pure (tmps.getD t undef)
 | .cell a t=>do loadVar t (<-asAddr (tmps.getD a undef))
theorem X07 (fn:Func) (tmps:Array Value):
  results fn tmps=(do let vs<-fn.results.toList.mapM (X8X tmps);pure (if h:vs.toArray.size=1 then vs.toArray[0] else .tuple vs.toArray):Sem Value):=by
 have e:(fun x:ResultVar=>(match x with
   | .tmp t=>pure (tmps.getD t undef)
   | .cell a t=>do loadVar t (<-asAddr (tmps.getD a undef)):Sem Value))=X8X tmps:=by
  funext x;cases x<;>rfl
 rw[<-e];unfold results;rw[Array.mapM_eq_mapM_toList];simp only[map_eq_pure_bind,bind_assoc,pure_bind];rfl
theorem Xax {s:HS} {a:Act} (h:Rel w0 B U F T s a w) {x:ResultVar} {t:TV} (hx:resT P s x=some t):
  ∃v,(X8X a.tmps x).run P w=.ok v w/\XI F T w t v:=by
 cases x with
 | tmp k=>
   simp only[resT]at hx;split at hx
   .rename_i tv htv;cases hx;have:=h.opd (.tmp k);rw[htv]at this;exact⟨_,rfl,this⟩
   cases hx
 | cell k ty=>
   simp only[resT]at hx;split at hx
   .rename_i tv htv;cases hx;obtain⟨v,hrun,hr⟩:=X0U (P:=P) (Y:=a.eval) (o:={dst:=none,op:=.load ty (.tmp k),type:=0,pos:= "",after:= #[],guard:=none}) h.heap h.opd htv
    refine⟨v,?_,hr⟩;simp only[execOp]at hrun
    have hv:∃ad,a.eval (.tmp k)=.pointer (some ad):=by
     have:=h.opd (.tmp k);simp only[evR]at htv;split at htv
     .rename_i hg;rw[hg]at this;obtain⟨b,_,e⟩:=this;exact⟨_,e⟩
     .rename_i hg;rw[hg]at this;obtain⟨b,_,_,_,_,e⟩:=this;exact⟨_,e⟩
     .rename_i hg;rw[hg]at this;obtain⟨_,b,_,_,_,_,_,e⟩:=this;exact⟨_,e⟩
     .rename_i hg;rw[hg]at this;obtain⟨b,o,c,e,_⟩:=CRel.ptr_inv this;exact⟨_,e⟩
     cases htv
    obtain⟨ad,had⟩:=hv;have had':a.tmps.getD k undef=.pointer (some ad):=had;rw[had]at hrun;simp[Instr.loadAt,Instr.sureAddr]at hrun;cases hl:(loadVar ty ad).run P w with
    | ok u w'=>
      rw[hl]at hrun;simp at hrun;simp[X8X,had',asAddr,hl,hrun]
    | halt x w'=>
      rw[hl]at hrun;simp at hrun
   cases hx
theorem Zz {s:HS} {a:Act} (h:Rel w0 B U F T s a w):∀{xs:List ResultVar} {ts:List TV},X34 P s xs=some ts->
  ∃vs:List Value,(xs.mapM (X8X a.tmps)).run P w=.ok vs w/\vs.length=ts.length/\∀(j:Nat) t u,ts[j]? =some t->vs[j]? =some u->XI F T w t u
 |[],ts,hr=>by cases hr;exact⟨[],rfl,rfl,by simp⟩
 | x ::xs,ts,hr=>by
   simp only[X34]at hr;split at hr
   .rename_i t ts' ht hts;cases hr;obtain⟨v,hv,hvr⟩:=Xax h ht;obtain⟨vs,hvs,hl,hc⟩:=Zz h hts;refine⟨v::vs,?_,by simp[hl],fun j t u htj hu=>?_⟩
    .rw[List.mapM_cons,Sem.run_bind,hv,Result.andThen_ok,Sem.run_bind,hvs];rfl
    cases j with
    |zero=>cases htj;cases hu;exact hvr
    |succ j=>exact hc j t u htj hu
   cases hr
theorem Xd3 {f:FuncId} {fn:Func} {c:Code} {args:List TV} {fresh:Bool} {r:RV} {ob:Option Ob} {d:Nat} (hf:P.funcs[f]? =some fn) (hb:fn.body=some c) (hcall:Q5 P f=true) (hnt:args.length<=fn.ntmps)
  (h:HT P c ⟨fn.ntmps,QQ 0 args,[]⟩ (fun e s'=>(e=.normal\/e=.ret)/\∃s2,le s' s2/\RetOK P fn.results.toList s2 fresh r ob d)):Con P f fresh args r ob d:=by
 refine⟨hcall,fun F w vs hF hsz hargs=>?_⟩
 have hrel:Rel w (fun b=>b<w.heap.size) (fun _=>none) F noγ ⟨fn.ntmps,QQ 0 args,[]⟩ {tmps:=vs++Array.replicate (fn.ntmps - vs.size) undef,defers:=[]} w:=by
  refine⟨⟨Kept.refl _ _,fun _ h=>h,hF,by simp[lkp],by simp[lkp],by simp[lkp],by simp⟩,rfl,by simp;omega,fun k r hl=>?_⟩;obtain⟨_,t,ht,rfl⟩:=Ze args 0 k r hl;simp only[Nat.sub_zero]at ht;have hk:k<vs.size:=by rw[hsz];exact(N5.1 ht).1
  have hv:(vs++Array.replicate (fn.ntmps - vs.size) undef).getD k undef=vs[k]:=by
   rw[Nu,D5 hk];simp[hk]
  rw[hv];exact hargs k t _ ht (by simp[hk])
 refine calls_of_wp hf hb (wp_mono (h w (fun b=>b<w.heap.size) (fun _=>none) F noγ _ w hrel) ?_);rintro e a' w' ⟨s',F1,γ1,⟨he,s2,hle,hret⟩,h1,h2,hr'⟩;obtain⟨F2,γ2,h3,h4,hr2⟩:=hle w (fun b=>b<w.heap.size) (fun _=>none) F1 γ1 a' w' hr';obtain⟨ts,hts,rfl⟩:=hret.res;obtain⟨us,hus,hul,huc⟩:=Zz hr2 hts
 have key:a'.defers=[]/\∃v,(results fn a'.tmps).run P w'=.ok v w'/\∃(v2:Value) (N:Nat->Prop) (T':Nat->Value),Ending.returned v=.returned v2/\Below w.heap.size w w'/\(∀b,N b->w.heap.size<=b/\b<w'.heap.size)/\
   Xa (Res fresh F N) T' w' (XL ts) v2/\∀o,ob=some o->Q0 (Res fresh F N) T' w' (fun b=>b<w.heap.size) (T' d) o/\∀b,Blk (T' d) b->¬N b:=by
  have hFF:∀b,F2 b->Res false F (fun b=>F2 b/\w.heap.size<=b) b:=by
   intro b hb;rcases h4 b hb with h5|h5
   .rcases h2 b h5 with h6|h6
    .exact .inr ⟨rfl,h6⟩
    exact .inl ⟨hb,D6 h6⟩
   exact .inl ⟨hb,D6 h5⟩
  have hres:∃v,(results fn a'.tmps).run P w'=.ok v w'/\Xa F2 γ2 w' (XL ts) v:=by
   rw[X07,Sem.run_bind,hus,Result.andThen_ok];refine⟨_,rfl,?_⟩
   match ts,us,hul,huc with
   |[],[],_,_=>exact⟨#[],rfl,rfl,by simp⟩
   |[t],[u],_,hc=>exact hc 0 t u rfl rfl
   |t1::t2::ts,u1::u2::us,hl,hc=>exact⟨(u1::u2::us).toArray,by simp,by simpa using hl,fun j t u ht hu=>hc j t u ht (by simpa using hu)⟩
  obtain⟨v,hv,hvr⟩:=hres;refine⟨hr2.defers,v,hv,v,fun b=>F2 b/\w.heap.size<=b,γ2,rfl,hr2.heap.below.below,fun b hb=>⟨hb.2,hr2.heap.fsz b hb.1⟩,?_,fun o ho=>⟨?_,fun b hb hN=>hr2.heap.apart d o (hret.objs o ho) b hb hN.1⟩⟩
  .cases fresh with
   |false=>exact hvr.mono hFF fun _ _=>rfl
   |true=>exact hvr.lits (hret.lit rfl).1
  have:=hr2.heap.ob d o (hret.objs o ho);cases fresh with
  |false=>exact this.mono hFF (fun _ _=>rfl) fun _ _=>rfl
  |true=>exact this.lits ((hret.lit rfl).2 o ho)
 rcases he with rfl|rfl
 .exact key
 exact key
end
end Go.Hl
