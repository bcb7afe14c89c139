/- Part of an evaluator that is sound over the model. Conditions: none. -/
import Derived.Test.YtdccocolnaklkaaGreatDoorH5
import Derived.Laws.Entries
set_option linter.unusedSimpArgs false
set_option linter.unusedVariables false
namespace Go.Hl
open Go Go.RowKit
def CV.mv (n d:Nat):CV->CV
 | .own m=>if m=n then .own d else .own m
 |x=>x
def TV.mv (n d:Nat):TV->TV
 | .one x=>.one (x.mv n d)
 | .agg xs=>.agg (xs.map (CV.mv n d))
def RV.mv (n d:Nat):RV->RV
 | .v t=>.v (t.mv n d)
 | .tup ts=>.tup (ts.map (TV.mv n d))
def Ob.mv (n d:Nat):Ob->Ob
 | .box cs=>.box (cs.map (CV.mv n d))
 |o=>o
section
variable {P:Program} {F:Nat->Prop} {T T':Nat->Value} {w w' w0:World} {B:Nat->Prop} {U:Nat->Option Value}
theorem Xo.mv {n d:Nat} (hh:hd (T d)=hd (T n)) {x:CV} {v:Value} (h:Xo F T w x v):Xo F T w (x.mv n d) v:=by
 cases x with
 | own m=>
   simp only[CV.mv];split
   .rename_i e;subst e;exact⟨by rw[hh];exact h.1,h.2⟩
   exact h
 |_=>exact h
theorem Xk.mv {n d:Nat} (hh:hd (T d)=hd (T n)) {xs:List CV} {vs:Array Value} (h:Xk F T w xs vs):Xk F T w (xs.map (CV.mv n d)) vs:=by
 refine⟨by simpa using h.1,fun j x u hx hu=>?_⟩;rw[Nj]at hx;simp only[N7]at hx;obtain⟨y,hy,rfl⟩:=hx;exact(h.2 j y u hy hu).mv hh
theorem XA.mv {n d:Nat} (hh:hd (T d)=hd (T n)) {x:TV} {v:Value} (h:XA F T w x v):XA F T w (x.mv n d) v:=by
 cases x with
 |one x=>exact Xo.mv hh h
 |agg xs=>obtain⟨vs,rfl,hc⟩:=h;exact⟨vs,rfl,hc.mv hh⟩
theorem Xa.mv {n d:Nat} (hh:hd (T d)=hd (T n)) {x:RV} {v:Value} (h:Xa F T w x v):Xa F T w (x.mv n d) v:=by
 cases x with
 |v t=>exact XA.mv hh h
 | tup ts=>
   obtain⟨vs,rfl,hs,hc⟩:=h;refine⟨vs,rfl,by simpa using hs,fun j x u hx hu=>?_⟩;rw[Nj]at hx;simp only[N7]at hx;obtain⟨y,hy,rfl⟩:=hx;exact(hc j y u hy hu).mv hh
theorem XR.mv {n d:Nat} (hh:hd (T d)=hd (T n)) {x:Value} {o:Ob} (h:XR F T w B x o):XR F T w B x (o.mv n d):=by
 cases o with
 |box cs=>obtain⟨b,e,vs,h1,h2,h3,h4⟩:=h;exact⟨b,e,vs,h1,h2,h3,h4.mv hh⟩
 |_=>exact h
theorem HeapRel.mv {n d:Nat} {objs:List (Nat×Ob)} (hh:hd (T d)=hd (T n)) (h:HeapRel w0 B U F T objs w):HeapRel w0 B U F T (Zy (Ob.mv n d) objs) w:=by
 have hl:∀m o,lkp (Zy (Ob.mv n d) objs) m=some o->∃o0,lkp objs m=some o0/\o=o0.mv n d:=by
  intro m o ho;rw[ZR]at ho;simp only[N7]at ho;obtain⟨o0,h1,rfl⟩:=ho;exact⟨o0,h1,rfl⟩
 exact {
  below:=h.below
  hB:=h.hB
  fsz:=h.fsz
  ob:=fun m o ho=>by
   obtain⟨o0,h1,rfl⟩:=hl m o ho;exact(h.ob m o0 h1).mv hh
  apart:=fun m o ho=>by
   obtain⟨o0,h1,_⟩:=hl m o ho;exact h.apart m o0 h1
  sep:=fun m k om ok hm hk=>by
   obtain⟨o1,h1,_⟩:=hl m om hm;obtain⟨o2,h2,_⟩:=hl k ok hk;exact h.sep m k o1 o2 h1 h2
  pin:=h.pin}
theorem X3G {ops:Array Oper} {i:Nat} {o:Oper} {a:Act} {Q:Exit->Act->World->Prop} {Kc:Act->World->Prop} {nx:Next} {v:Value} (hi:ops[i]? =some o) (hgd:o.guard=none) (hrun:(execOp a.eval o).run P w=.ok nx w')
  (hnx:nx=.value v\/nx=.skip/\v=undef) (hk:Kc (a.put o.dst v) w'):wpOp P ops Q i Kc a w:=by
 unfold wpOp;rw[hi];simp only;have hwant:Region.wanted o (yielded ops a.tmps)=true:=by unfold Region.wanted;rw[hgd]
 rw[hwant];simp only[Nd];refine .inl ?_;unfold Oper.wp;rw[hrun];rcases hnx with rfl|⟨rfl,rfl⟩
 .exact hk
 exact hk
theorem mat_grow {objs:List (Nat×Ob)} {t tE e e' ty:TypeId} {te tte:TI} {s n i d:Nat} {rows:List (Option (List (List CD)))} {rs more:List (List CD)} {v src:Value} (hh:HeapRel w0 B U F T objs w)
  (hl:lkp objs n=some (.mat e e' s rows)) (hri:rows[i]? =some (some rs)) (hv:Xo F T w (.sub n i) v) (hdn:∀m o,lkp objs m=some o->m≠d/\¬o.men d) (hd6:d<1000000)
  (hu:P.underlying t=some (.slice e')) (hti:XY P e'=some te) (hts:te.size=s) (hzl:te.zero.length=te.size) (htte:XY P tE=some tte) (hs1:tte.size=1)
  (hms:∀r∈more,r.length=te.size)
  (hsrc:(src=.slice none 0 0/\more=[])\/∃a c,∃news:List Value,src=.slice (some a) more.length c/\news.length=more.length*te.size/\
   (∀j u,news[j]? =some u->w.cell? (a.add j)=some u)/\(∀u∈news,u.oneCell'=true)/\
   ∀i j d,XM more i j=some d->∃u,news[i*te.size+j]? =some u/\CRel F w d u)
  (hmax:rs.length+more.length<=maxLen) (hby:(rs.length+more.length)*te.bytes<=140737488355328):
  ∃(b oo len cap:Nat) (v':Value) (w1 W:World) (x:Value),hd (T n)=.slice (some ⟨b,oo,none⟩) len cap/\i<len/\(Builtin.append_ #[t,t] ty #[v,src]).run P w=.ok v' w1/\
   (storeVar tE ⟨b,oo+i,none⟩ v').run P w1=.ok () W/\hd x=hd (T n)/\HeapRel w0 B U F (upd T d x) (ins d (.mat e e' s (rows.set i (some (rs++more)))) (del n objs)) W/\(∀c,F c->W.heap[c]? =w.heap[c]?):=by
 obtain⟨o',is,hγ,h0,hlen,⟨xs,hown,hxs⟩,hin,hd1,hd2⟩:=hh.ob n _ hl;obtain⟨vs,hγ',hvi,hv1,hvu⟩:=hv;rw[hγ]at hγ';cases hγ';have hvi':is[i]? =some v:=by simpa using hvi
 have hlt:i<rows.length:=(N8.1 hri).1;have hil:i<is.length:=by rw[hlen];exact hlt
 have hro:Xn F w B e' s v rs:=hin i v (some rs) hvi' hri;obtain⟨_,hss,xv,hownv,hx1,hxc⟩:=hro;have hvsl:=hownv.sl;have hbv:∀b,v.ownBlock=some b->Blk (T n) b:=fun b hb=>by rw[hγ];exact⟨v,by simp[N3 hvi'],by rw[X0a hvsl];exact hb⟩
 obtain⟨v',w1,hrun,hgr,hblk,hform,hF1,hrow⟩:=X1u (P:=P) (w:=w) (B:=B) (F:=F) (ty:=ty) (src:=src) (more:=more) (rows:=rs) (v:=v) (xs:=xv) hu hti (by omega) hzl (by rw[hts];exact hownv) hh.hB
  (by rw[hts];exact hss) hx1 (by rw[hts];exact hxc) hms hsrc hmax hby hh.fsz (fun b hb=>hh.apart n _ hl b (hbv b hb))
 have hrow:Xn F w1 B e' s v' (rs++more):=by rw[<-hts];exact hrow T
 obtain⟨ti',td,z,hi,htd,hz,g1,g2,g3,g4,g5⟩:=Xx htte;rcases hown.2 with⟨hn,hz0⟩|⟨b,oo,cap,cur,hob,hBb,hhb,hrest⟩
 .omega
 subst hob;have hBn:Blk (T n) b:=by rw[hγ];exact⟨.slice (some ⟨b,oo,none⟩) rows.length cap,by simp,rfl⟩
 have hFb:¬F b:=hh.apart n _ hl b hBn;have hbs:b<w.heap.size:=((hh.ob n _ hl).blk_lt hBn).2;have hb1:w1.heap[b]? =w.heap[b]? :=hgr.block b hbs fun e'=>hd1 i v b hvi' (by rw[X0a hvsl];exact e'.symm) rfl;have hown1:Qn w1 B e 1 (.slice (some ⟨b,oo,none⟩) rows.length cap) rows.length xs:=hown.mono fun c hc=>by cases hc;exact hb1
 have hone:v'.oneCell'=true:=by obtain⟨_,_,_,rfl⟩:=hform;rfl
 have hcy:v'.cells= #[v']:=ZZ hone;have hk1:Kept B w0 w1:=hh.below.grown hgr hh.hB fun k hk hx=>((hh.ob n _ hl).blk_lt (hbv k hk)).1 hx;obtain⟨W,hrunW,hWo,hWs,hWB,hownW⟩:=X11 (P:=P) hi (v:=v') (by rw[hcy,g1,hs1];rfl) (by rw[hcy];simpa using hone) hown1 (k:=i) (by rw[hcy];simp;omega) hk1;have hFW:∀c,F c->W.heap[c]? =w.heap[c]? :=fun c hc=>(hWo c fun e'=>hFb (e'▸hc)).trans (hF1 c hc)
 -- what blocks the new header may name
 have hvb:∀c,blk v'=some c->w.heap.size<=c\/blk v=some c:=fun c hc=>(hblk c hc).imp id fun h=>by rw[X0a hvsl];exact h
 have hnb:∀c,blk v'=some c->c≠b/\∀(k:Nat) u,k≠i->is[k]? =some u->blk u≠some c:=by
  intro c hc;refine⟨fun e'=>?_,fun k u hk hu hcu=>?_⟩
  .subst e';rcases hvb c hc with h|h
   .omega
   exact hd1 i v c hvi' h rfl
  rcases hvb c hc with h|h
  .have:=((hh.ob n _ hl).blk_lt (by rw[hγ];exact⟨u,by simp[N3 hu],hcu⟩:Blk (T n) c)).2;omega
  exact hd2 k i u v c hu hvi' hk hcu h
 have hset:∀(k:Nat) u r,(is.set i v')[k]? =some u->(rows.set i (some (rs++more)))[k]? =some r->(k=i/\u=v'/\r=some (rs++more))\/(k≠i/\is[k]? =some u/\rows[k]? =some r):=by
  intro k u r hu hr;by_cases e':k=i
  .subst e';rw[NK hil]at hu;rw[NK hlt]at hr;cases hu;cases hr;exact .inl ⟨rfl,rfl,rfl⟩
  rw[D4 (Ne.symm e')]at hu hr;exact .inr ⟨e',hu,hr⟩
 have hset1:∀(k:Nat) u,(is.set i v')[k]? =some u->(k=i/\u=v')\/(k≠i/\is[k]? =some u):=by
  intro k u hu;by_cases e':k=i
  .subst e';rw[NK hil]at hu;cases hu;exact .inl ⟨rfl,rfl⟩
  rw[D4 (Ne.symm e')]at hu;exact .inr ⟨e',hu⟩
 refine⟨b,oo,rows.length,cap,v',w1,W,.agg (.slice (some ⟨b,oo,none⟩) rows.length cap::is.set i v').toArray,by rw[hγ];rfl,hlt,hrun,hrunW,by rw[hγ];rfl,?_,hFW⟩;refine hh.moved (ns:=[n]) (by simp[hl]) (fun m o hm=>?_) hdn hWB (by rw[hWs];exact hgr.size) (fun k hk hne=>?_) ?_ hd6 ?_
 .obtain⟨h1,h2⟩:=Q6 hm;exact⟨by simpa using h1,h2⟩
 .rw[hWo k fun e'=>hne n (by simp) (e'▸hBn)];exact hgr.block k hk fun e'=>hne n (by simp) (hbv k e'.symm)
 .rintro c ⟨u,hu,huc⟩;simp only[Np]at hu;rcases hu with rfl|hu
  .exact .inr ⟨n,by simp,by cases huc;exact hBn⟩
  rcases Dl hu with hu|rfl
  .exact .inr ⟨n,by simp,by rw[hγ];exact⟨u,by simp[hu],huc⟩⟩
  rcases hvb c huc with h|h
  .exact .inl h
  exact .inr ⟨n,by simp,hbv c (by rw[<-X0a hvsl];exact h)⟩
 refine⟨_,_,rfl,h0,by simp[hlen],⟨_,by rw[Dp];exact hownW,fun k u r hu hr=>?_⟩,fun k u r hu hr=>?_,fun k u c hu huc=>?_,fun j k u u2 c hu hu2 hjk huc=>?_⟩
 .rw[hcy];rw[W0 _ _ _ _ (by simp[hown.1];omega)];rcases hset k u r hu hr with⟨rfl,rfl,rfl⟩|⟨hne,hu',hr'⟩
  .simp[X0F]
  rw[N6 (by simp;omega)];exact hxs k u r hu' hr'
 .rcases hset k u r hu hr with⟨rfl,rfl,rfl⟩|⟨hne,hu',hr'⟩
  .exact Xn.mono (fun _ h=>h) (fun c hc=>hWo c fun e'=>hFb (e'▸hc)) (fun c hc=>hWo c (hnb c hc).1) hrow
  have:=hin k u r hu' hr';cases r with
  |none=>exact this
  | some rr=>
    have hub:∀c,blk u=some c->c<w.heap.size:=fun c hc=>((hh.ob n _ hl).blk_lt (by rw[hγ];exact⟨u,by simp[N3 hu'],hc⟩:Blk (T n) c)).2;exact Xn.mono (fun _ h=>h) hFW (fun c hc=>(hWo c fun e'=>hd1 k u c hu' hc (by rw[e'];rfl)).trans (hgr.block c (hub c hc) fun e'=>hd2 k i u v c hu' hvi' hne hc (by rw[X0a hvsl];exact e'.symm))) this
 .rcases hset1 k u hu with⟨rfl,rfl⟩|⟨hne,hu'⟩
  .intro e';cases e';exact(hnb _ huc).1 rfl
  exact hd1 k u c hu' huc
 rcases hset1 j u hu with⟨rfl,rfl⟩|⟨hne,hu'⟩
 .rcases hset1 k u2 hu2 with⟨rfl,rfl⟩|⟨hne2,hu2'⟩
  .exact absurd rfl hjk
  exact(hnb c huc).2 k u2 hne2 hu2'
 rcases hset1 k u2 hu2 with⟨rfl,rfl⟩|⟨hne2,hu2'⟩
 .intro hvc;exact(hnb c hvc).2 j u hne hu' huc
 exact hd2 j k u u2 c hu' hu2' hjk huc
theorem HeapRel.mapd {n d:Nat} {objs:List (Nat×Ob)} {x:Value} (h:HeapRel w0 B U F (upd T d x) objs w) (hnd:n≠d) (hx:hd x=hd (T n)):HeapRel w0 B U F (upd T d x) (Zy (Ob.mv n d) objs) w:=
 h.mv (by rw[Xu,Xm _ hnd];exact hx)
end
def neT (d:Nat):Operand->Bool
 | .tmp t=>decide (t≠d)
 |_=>true
def matAP (P:Program) (s:HS) (o1 o2 o3:Oper):Option HS:=
 match o1.guard,o1.op,o1.dst,o2.guard,o2.op,o2.dst,o3.guard,o3.op with
 | none, .call {callee:=.builtin .append,args:=as0,argTypes:=ts, .. },some d1,none,.indexAddr tM xm xi,some d2,none,.store tE (.tmp e2) (.tmp e1)=>
   match as0.toList,ts.toList with
   | [x, y],[t,t']=>if t=t'/\e2=d2/\e1=d1/\d1≠d2/\neT d1 xm=true/\neT d1 xi=true/\XP s (some d1)=true/\XP s (some d2)=true/\XP s o3.dst=true then
     match WP P t,WP P tM,opd s.regs x,opd s.regs xm,QT (opd s.regs xi)with
     | some e',some eM,.v (.one (.sub n i)),.v (.one (.own n')),some (.int .i64 i')=>if n'=n/\i'=(i:Int)/\QN d1 s=true then
       match XY P e',XY P eM,XY P tE,lkp s.objs n with
       | some te,some tm,some tte,some (.mat e e2' sz rows)=>match rows[i]?,QB s.objs te.size (opd s.regs y)with
         | some (some rs),some more=>if e2'=e'/\te.size=sz/\te.zero.length=te.size/\tm.size=1/\tte.size=1/\Qy (rs.length+more.length) te.bytes then
           let t:=((({s with objs:=Zy (Ob.mv n d1) (ins d1 (.mat e e' sz (rows.set i (some (rs++more)))) (del n s.objs))}:HS).put (some d1) (.v (.one .any))).put (some d2) (.v (.one .any))).put o3.dst (.v (.one .any))
           some {t with regs:=Zy (RV.mv n d1) t.regs}
           else none
         |_,_=>none
       |_,_,_,_=>none
       else none
     |_,_,_,_,_=>none
     else none
   |_,_=>none
 |_,_,_,_,_,_,_,_=>none
section
variable {P:Program} {F:Nat->Prop} {T T':Nat->Value} {w w' w0:World} {B:Nat->Prop} {U:Nat->Option Value}
theorem X3X {a:Act} {d:Nat} {v:Value} {x:Operand} (h:neT d x=true):(a.put (some d) v).eval x=a.eval x:=by
 cases x with
 | tmp t=>
   have ht:t≠d:=by simpa[neT]using h
   show((a.tmps.setIfInBounds d v).getD t undef)=a.tmps.getD t undef;rw[Ns,Nx (Ne.symm ht),<-Array.getD_eq_getD_getElem?]
 |_=>rfl
theorem X4T {a:Act} {d:Nat} {v:Value} (h:d<a.tmps.size):(a.put (some d) v).eval (.tmp d)=v:=by
 show((a.tmps.setIfInBounds d v).getD d undef)=v;rw[Ns,Array.getElem?_setIfInBounds_self_of_lt h];rfl
theorem Qh.matA {ops:Array Oper} {k:Nat} {s s':HS} {o1 o2 o3:Oper} (h1:ops[k]? =some o1) (h2:ops[k+1]? =some o2) (h3:ops[k+2]? =some o3) (h:matAP P s o1 o2 o3=some s'):Qh P ops k 3 s (fun u=>u=s'):=by
 intro w0 B U F T a w Q Xs hr hK;unfold matAP at h;split at h
 .rename_i as0 ts d1 tM xm xi d2 tE e2 e1 hg1 ho1 hd1 hg2 ho2 hd2 hg3 ho3;split at h
  .rename_i x y t t' has hts;split at h
   .rename_i hc;obtain⟨rfl,rfl,rfl,hdd,hxm,hxi,hok1,hok2,hok3⟩:=hc;split at h
    .rename_i e' eM n i n' i' he heM hx hm hi;split at h
     .rename_i hc2;obtain⟨rfl,rfl,hun⟩:=hc2;split at h
      .rename_i te tm tte e e2' sz rows hte htm htte hl;split at h
       .rename_i rs more hri hmore;split at h
        .rename_i hc3;obtain⟨rfl,hsz,hzl,hm1,ht1,hroom⟩:=hc3;cases h;have eas:as0= #[x,y]:=by obtain⟨l⟩:=as0;simpa using has
         have ets:ts= #[t,t]:=by obtain⟨l⟩:=ts;simpa using hts
         subst eas;subst ets
         have hpos:0<te.size:=by
          obtain⟨o',is,hγ,h0,_⟩:=hr.heap.ob _ _ hl;omega
         have hnd:n'≠e1:=(WZ hun n' _ hl).1;have hxv:=hr.opd x;rw[hx]at hxv;have hmv:=hr.opd xm;rw[hm]at hmv;have hiv:=Xa.lit_eq hi (hr.opd xi);obtain⟨hms,hsrc⟩:=X47 hpos hr.heap (hr.opd y) hmore;obtain⟨b,oo,len,cap,v',w1,W,xx,hob,hlt,hrun,hrunW,hhd,hhp,hF⟩:=mat_grow (P:=P) (tE:=tE) (ty:=o1.type) hr.heap hl hri hxv (fun m o hm=>WZ hun m o hm) (X0f hun) (Qf he) hte hsz hzl htte ht1 hms hsrc hroom.1 hroom.2;obtain⟨i',td,z,hi',htd,hz,g1,g2,g3,g4,g5⟩:=Xx htm;have hs1:e1<a.tmps.size:=by rw[hr.nt.1];simpa[XP]using hok1
         have hs2:e2<a.tmps.size:=by rw[hr.nt.1];simpa[XP]using hok2
         show wpOps P ops Q (k::(k+1)::(k+2)::Xs) a w;rw[wpOps_cons];refine X3G (nx:=.value v') (v:=v') (w':=w1) h1 hg1 ?_ (.inl rfl) ?_
         .unfold execOp;rw[ho1];simp[resolve,invoke,builtin,hrun]
         rw[hd1,wpOps_cons];refine X3G (nx:=.value (.pointer (some ⟨b,oo+i,none⟩))) (v:=.pointer (some ⟨b,oo+i,none⟩)) (w':=w1) h2 hg2 ?_ (.inl rfl) ?_
         .unfold execOp;rw[ho2];have hvm:a.eval xm=.slice (some ⟨b,oo,none⟩) len cap:=by rw[hmv.1,hob]
          simp[X3X hxm,X3X hxi,hvm,hiv,Instr.indexAt,asIntOf,run_underlying (Qf heM),hlt,Xw hi',g1,hm1,QE]
         rw[hd2,wpOps_cons];refine X3G (nx:=.skip) (v:=undef) (w':=W) h3 hg3 ?_ (.inr ⟨rfl,rfl⟩) ?_
         .unfold execOp;rw[ho3];have q1:((a.put (some e1) v').put (some e2) (.pointer (some ⟨b,oo+i,none⟩))).eval (.tmp e2)=.pointer (some ⟨b,oo+i,none⟩):=X4T (by simpa[Act.put]using hs2);have q2:((a.put (some e1) v').put (some e2) (.pointer (some ⟨b,oo+i,none⟩))).eval (.tmp e1)=v':=by rw[X3X (by simp[neT,hdd])];exact X4T hs1
          simp[q1,q2,Instr.storeAt,Instr.sureAddr,hrunW]
         have hkeep:∀(j:Nat) r v,lkp s.regs j=some r->Xa F T w r v->Xa F (upd T e1 xx) W r v:=fun j r v hj hv=>(hv.mono (fun _ h=>h) hF).upd (WY hun hj);have r1:=hr.step (dst:=some e1) (r:=.v (.one .any)) (v:=v') hok1 (hhp.mapd hnd hhd) trivial hkeep;have r2:=r1.step (dst:=some e2) (r:=.v (.one .any)) (v:=.pointer (some ⟨b,oo+i,none⟩)) hok2 r1.heap trivial (fun _ _ _ _ h=>h)
         have r3:=r2.step (dst:=o3.dst) (r:=.v (.one .any)) (v:=undef) (by cases hd3:o3.dst with
          |none=>rfl
          |some d3=>rw[hd3]at hok3;exact hok3) r2.heap trivial (fun _ _ _ _ h=>h)
         have hh2:hd (upd T e1 xx e1)=hd (upd T e1 xx n'):=by rw[Xu,Xm _ hnd];exact hhd
         refine hK _ F (upd T e1 xx) _ W rfl (fun _ h=>h) (fun _ h=>.inl h) ⟨r3.heap,r3.defers,r3.nt,fun j r hj=>?_⟩;rw[ZR]at hj;simp only[N7]at hj;obtain⟨r0,h0,rfl⟩:=hj;exact(r3.regs j r0 h0).mv hh2
        cases h
       cases h
      cases h
     cases h
    cases h
   cases h
  cases h
 cases h
theorem RunsN.matA {ops:Array Oper} {l:List Oper} {s s':HS} {K:HS->Prop} {o1 o2 o3:Oper} (h:matAP P s o1 o2 o3=some s') (hr:RunsN P ops l s' K):RunsN P ops (o1::o2::o3::l) s K:=by
 refine .many (M:=fun u=>u=s') 3 (fun k hk=>?_) fun u hu=>by rw[hu];exact hr
 exact Qh.matA (hk 0 o1 rfl) (hk 1 o2 rfl) (hk 2 o3 rfl) h
def ConR (P:Program) (f:FuncId) (e:TypeId) (sz:Nat) (rs rs':List (List CD)):Prop:=
 XX P f=true/\∀(F:Nat->Prop) (B:Nat->Prop) (w:World) (v:Value),Xn F w B e sz v rs->(∀b,F b->b<w.heap.size)->(∀b,blk v=some b->¬F b)->
  Calls P f #[v] w fun x w'=>x=.returned (.tuple #[])/\w'.os=w.os/\w'.tape=w.tape/\w'.output=w.output/\w.heap.size<=w'.heap.size/\(∀k,k<w.heap.size->blk v≠some k->w'.heap[k]? =w.heap[k]?)/\Xn F w' B e sz v rs'
def subAP (s:HS) (o:Oper):Option (FuncId×Nat×Nat×TypeId×TypeId×Nat×List (Option (List (List CD)))×List (List CD)×Nat):=
 match o.guard,o.op,o.dst with
 | none, .call {callee:=.value x,args:=args, .. },some d=>match X3n (opd s.regs x),args.toList with
   | some (f,[]),[y]=>match opd s.regs y with
     | .v (.one (.sub n i))=>match lkp s.objs n with
       | some (.mat e e' sz rows)=>match rows[i]? with
         |some (some rs)=>if XP s (some d)=true/\0<rs.length then some (f,n,i,e,e',sz,rows,rs,d)else none
         |_=>none
       |_=>none
     |_=>none
   |_,_=>none
 |_,_,_=>none
theorem Qh.subA {ops:Array Oper} {k:Nat} {s:HS} {o:Oper} {f:FuncId} {n i d sz:Nat} {e e':TypeId} {rows:List (Option (List (List CD)))} {rs rs':List (List CD)} (h1:ops[k]? =some o) (h:subAP s o=some (f,n,i,e,e',sz,rows,rs,d))
  (hcon:ConR P f e' sz rs rs'):Qh P ops k 1 s (fun u=>u=({s with objs:=ins n (.mat e e' sz (rows.set i (some rs'))) s.objs}:HS).put (some d) (.tup [])):=by
 intro w0 B U F T a w Q Xs hr hK;unfold subAP at h;split at h
 .rename_i x as0 ats d1 hg ho hd1;split at h
  .rename_i f1 y hx has;split at h
   .rename_i n1 i1 hy;split at h
    .rename_i e1 e1' sz1 rows1 hl;split at h
     .rename_i rs1 hri;split at h
      .rename_i hc;obtain⟨hok,hlen0⟩:=hc;cases h;have eas:as0= #[y]:=by obtain⟨l⟩:=as0;simpa using has
       subst eas;obtain⟨hcall,hcon⟩:=hcon;obtain⟨cvs,hv,hcl,_⟩:=WJ hx (hr.opd x);have hcv:cvs=[]:=Nr (by simpa using hcl);subst hcv;have hv':a.eval x=.func (.func f) #[] #[]:=hv;have hyv:=hr.opd y;rw[hy]at hyv;obtain⟨vs,hvs,hsub,hv1,hvu⟩:=hyv;obtain⟨o',is,hγ,h0,hlen,⟨xs,hown,hxs⟩,hin,hd1',hd2⟩:=hr.heap.ob n _ hl;rw[hγ]at hvs;cases hvs;have hvi:is[i]? =some (a.eval y):=by simpa using hsub
       have hro:Xn F w B e' sz (a.eval y) rs:=hin i _ (some rs) hvi hri
       obtain⟨b,hb⟩:∃b,blk (a.eval y)=some b:=by
        obtain⟨_,_,xs,hown,_⟩:=hro;rcases hown.2 with⟨_,hn⟩|⟨b,oo,cap,cur,hv,_⟩
        .omega
        exact⟨b,by rw[hv];rfl⟩
       have hBn:Blk (T n) b:=by rw[hγ];exact⟨a.eval y,by simp[N3 hvi],hb⟩
       have hlt:i<rows.length:=(N8.1 hri).1
       have hrun:(execOp a.eval o).run P w=.ok (.enter f (#[y].map a.eval)) w:=by
        unfold XX at hcall;split at hcall
        .rename_i fn hfn;simp only[N4,Nm]at hcall;have hnm:¬fn.name= "runtime.NumGoroutine" :=by simpa using hcall.1
         have hnb:¬fn.body=none:=by
          intro hb;rw[hb]at hcall;cases hcall.2
         simp[execOp,ho,resolve,hv',Deferred.ofValue,invoke,callFunc,hfn,hnm,hnb]
        cases hcall
       show wpOps P ops Q (k::Xs) a w;rw[wpOps_cons];unfold wpOp;rw[h1];simp only;have hwant:Region.wanted o (yielded ops a.tmps)=true:=by unfold Region.wanted;rw[hg]
       rw[hwant];simp only[Nd];refine .inl ?_;unfold Oper.wp;rw[hrun,Oper.upon_enter];have hargs:(#[y].map a.eval:Array Value)= #[a.eval y]:=by simp
       rw[hargs];refine(hcon F B w (a.eval y) hro hr.heap.fsz (fun c hc=>hr.heap.apart n _ hl c (by rw[hγ];exact⟨a.eval y,by simp[N3 hvi],hc⟩))).mono ?_;rintro z w' ⟨rfl,q1,q2,q3,q4,q5,hro'⟩;have hkeep:∀c,c<w.heap.size->c≠b->w'.heap[c]? =w.heap[c]? :=fun c hc hne=>q5 c hc fun e=>hne (by rw[hb]at e;cases e;rfl);have hFk:∀c,F c->w'.heap[c]? =w.heap[c]? :=fun c hc=>hkeep c (hr.heap.fsz c hc) fun e'=>hr.heap.apart n _ hl b hBn (e'▸hc);have hkp:Kept B w0 w':=hr.heap.below.trans ⟨q1,q2,q3,q4,fun c hc=>hkeep c (hr.heap.hB c hc) fun e'=>((hr.heap.ob n _ hl).blk_lt hBn).1 (e'▸hc)⟩
       have hob:XR F T w' B (T n) (.mat e e' sz (rows.set i (some rs'))):=by
        have hil:∀(k:Nat) v c,is[k]? =some v->blk v=some c->c<w.heap.size:=fun k v c hk hc=>((hr.heap.ob n _ hl).blk_lt (by rw[hγ];exact⟨v,by simp[N3 hk],hc⟩:Blk (T n) c)).2;refine⟨o',is,hγ,h0,by simp[hlen],⟨xs,?_,fun j u r hu hr'=>?_⟩,fun j u r hu hr'=>?_,hd1',hd2⟩
        .rw[Dp];refine hown.mono fun c hc=>?_;exact hkeep c ((hr.heap.ob n _ hl).blk_lt (by rw[hγ];exact⟨o',by simp,hc⟩:Blk (T n) c)).2 fun e'=>by subst e';exact hd1' i _ _ hvi hb hc
        .rw[D2]at hr';split at hr'
         .rename_i e2;subst e2;cases hr';rw[hvi]at hu;cases hu;have:=hxs i _ (some rs) hvi hri;exact this
         exact hxs j u r hu hr'
        rw[D2]at hr';split at hr'
        .rename_i e2;subst e2;cases hr';rw[hvi]at hu;cases hu;exact hro'
        rename_i e2;have:=hin j u r hu hr';cases r with
        |none=>exact this
        |some rr=>exact Xn.mono (fun _ h=>h) hFk (fun c hc=>hkeep c (hil j u c hu hc) fun e'=>by subst e';exact hd2 j i u _ _ hu hvi (Ne.symm e2) hc hb) this
       refine hK _ F T _ _ rfl (fun _ h=>h) (fun _ h=>.inl h) ?_;rw[hd1];exact hr.step (dst:=some d) hok (F':=F) (T':=T) (hr.heap.wrote hl (b:=b) hBn hkp q4 (fun c hc hne=>hkeep c hc hne) hob) ⟨#[],rfl,rfl,fun j t u h1 h2=>by simp at h1⟩ fun _ _ _ _ hv=>hv.mono (fun _ h=>h) hFk
      cases h
     cases h
    cases h
   cases h
  cases h
 cases h
theorem RunsN.subA {ops:Array Oper} {l:List Oper} {s:HS} {K:HS->Prop} {o:Oper} {f:FuncId} {n i d sz:Nat} {e e':TypeId} {rows:List (Option (List (List CD)))} {rs rs':List (List CD)} (h:subAP s o=some (f,n,i,e,e',sz,rows,rs,d)) (hcon:ConR P f e' sz rs rs')
  (hr:RunsN P ops l (({s with objs:=ins n (.mat e e' sz (rows.set i (some rs'))) s.objs}:HS).put (some d) (.tup [])) K):RunsN P ops (o::l) s K:=by
 refine .many (M:=fun u=>u=_) 1 (fun k hk=>?_) fun u hu=>by rw[hu];exact hr
 exact Qh.subA (hk 0 o rfl) h hcon
end
theorem X9r {P:Program} {ops:Array Oper} {id:Nat} {s s':HS} {p:Prop} {Q:Exit->HS->Prop} (cs:List (Option CR)) (hm:P.follows .mixedOrders=true) (hd:drawB ops=true) (hc:X0E ops.toList s=true) (h:evcS P ops ops.toList s cs=some (s',p)) (hp:p) (hq:Q .normal s'):HT P (.region id ops true) s Q:=X5u hm hd hc (X2o _ _ _ _ _ h hp hq)
def rwO (n:Nat) (o:Ob):List (Nat×Ob)->List (Nat×Ob)
 |[]=>[]
 |(m,x)::l=>(if m=n then(m,o)else(m,x))::rwO n o l
theorem X5R {n m:Nat} {o y:Ob}:∀{l:List (Nat×Ob)},lkp (rwO n o l) m=some y->(m=n/\y=o)\/lkp l m=some y
 |[],h=>by cases h
 | (k,x)::l,h=>by
   simp only[rwO]at h;by_cases hk:k=n
   .rw[N9 hk]at h;simp only[lkp]at h⊢;by_cases hm:k=m
    .rw[N9 hm]at h;cases h;exact .inl ⟨by omega,rfl⟩
    rw[N6 hm]at h⊢;exact X5R h
   rw[N6 hk]at h;simp only[lkp]at h⊢;by_cases hm:k=m
   .rw[N9 hm]at h⊢;exact .inr h
   rw[N6 hm]at h⊢;exact X5R h
attribute [simp] X1F
inductive RunsC (P:Program) (ops:Array Oper):List Oper->HS->(HS->Prop)->Prop
 |done {l:List Oper} {s:HS} {K:HS->Prop}:wpR P ops l s K->RunsC P ops l s K
 |cut {l:List Oper} {s s1 s2:HS} {K:HS->Prop} (k:Nat):wpR P ops (l.take k) s (fun t=>t=s1)->le s1 s2->RunsC P ops (l.drop k) s2 K->RunsC P ops l s K
 | conv {l:List Oper} {o:Oper} {s:HS} {K:HS->Prop} (sT dT:TypeId) (x:Operand) (k:IntKind) (n:Int):o.guard=none->o.op=.convert sT dT x->Hl.opd s.regs x=Hl.lit (.int k n)->XP s o.dst=true->(P.underlying sT).isSome=true->
   P.underlying dT=some (.int (P.intKind dT))->RunsC P ops l (s.put o.dst (Hl.lit (.int (P.intKind dT) ((P.intKind dT).wrap n)))) K->RunsC P ops (o::l) s K
section
variable {P:Program} {w0:World} {B:Nat->Prop} {U:Nat->Option Value}
theorem convS {ops:Array Oper} {Q:Exit->Act->World->Prop} {i:Nat} {o:Oper} {s:HS} {a:Act} {w:World} {F:Nat->Prop} {T:Nat->Value} {Kc:Act->World->Prop} {sT dT:TypeId} {x:Operand} {k:IntKind} {n:Int}
  (hi:ops[i]? =some o) (h:Rel w0 B U F T s a w) (hg:o.guard=none) (ho:o.op=.convert sT dT x) (hx:Hl.opd s.regs x=Hl.lit (.int k n)) (hok:XP s o.dst=true) (hs:(P.underlying sT).isSome=true) (hd:P.underlying dT=some (.int (P.intKind dT)))
  (hK:∀a',Rel w0 B U F T (s.put o.dst (Hl.lit (.int (P.intKind dT) ((P.intKind dT).wrap n)))) a' w->Kc a' w):wpOp P ops Q i Kc a w:=by
 unfold wpOp;rw[hi];simp only;have hwant:Region.wanted o (yielded ops a.tmps)=true:=by unfold Region.wanted;rw[hg]
 rw[hwant];simp only[Nd];refine .inl ?_
 have hv:a.eval x=.int k n:=by
  have:=h.opd x;rw[hx]at this;have h2:CRel F w (.lit (.int k n)) (a.eval x):=this;generalize a.eval x=u at h2;cases h2;rfl
 unfold Oper.wp execOp;simp only[ho,hv,Sem.run_bind,run_convert_int w sT dT k n hs hd,Result.andThen_ok,Sem.run_pure];refine hK _ ?_;exact h.step (dst:=o.dst) (r:=Hl.lit (.int (P.intKind dT) ((P.intKind dT).wrap n))) (v:=.int (P.intKind dT) ((P.intKind dT).wrap n)) (objs':=s.objs) hok h.heap (CRel.lit _) (fun _ _ _ _ h=>h)
theorem RunsC.cutE {ops:Array Oper} {l:List Oper} {s s1 s2:HS} {p:Prop} {K:HS->Prop} (k:Nat) (cs:List CR) (h:evc P ops (l.take k) s cs=some (s1,p)) (hp:p) (hle:le s1 s2) (hr:RunsC P ops (l.drop k) s2 K):RunsC P ops l s K:=
 .cut k (Qm _ _ _ _ _ h hp rfl) hle hr
theorem RunsC.doneE {ops:Array Oper} {l:List Oper} {s s1:HS} {p:Prop} {K:HS->Prop} (cs:List CR) (h:evc P ops l s cs=some (s1,p)) (hp:p) (hq:K s1):RunsC P ops l s K:=
 .done (Qm _ _ _ _ _ h hp hq)
end
end Go.Hl
namespace Go.Hl
open Go
def rowAP (s:HS) (o:Oper):Option (FuncId×Nat×TypeId×Nat×List (List CD)×Nat):=
 match o.guard,o.op,o.dst with
 | none,.call {callee:=.value x,args:=args, .. },some d=>match X3n (opd s.regs x),args.toList with
   | some (f,[]),[y]=>match opd s.regs y with
     | .v (.one (.own n))=>match lkp s.objs n with
       |some (.row e sz rs)=>if XP s (some d)=true/\0<rs.length then some (f,n,e,sz,rs,d)else none
       |_=>none
     |_=>none
   |_,_=>none
 |_,_,_=>none
theorem Qh.rowA {P:Program} {ops:Array Oper} {k:Nat} {s:HS} {o:Oper} {f:FuncId} {n d sz:Nat} {e:TypeId} {rs rs':List (List CD)} (h1:ops[k]? =some o) (h:rowAP s o=some (f,n,e,sz,rs,d))
  (hcon:ConR P f e sz rs rs'):Qh P ops k 1 s (fun u=>u=({s with objs:=ins n (.row e sz rs') s.objs}:HS).put (some d) (.tup [])):=by
 intro w0 B U F T a w Q Xs hr hK;unfold rowAP at h;split at h
 .rename_i x as0 ats d1 hg ho hd1;split at h
  .rename_i f1 y hx has;split at h
   .rename_i n1 hy;split at h
    .rename_i e1 sz1 rs1 hl;split at h
     .rename_i hc;obtain⟨hok,hlen0⟩:=hc;cases h;have eas:as0= #[y]:=by obtain⟨l⟩:=as0;simpa using has
      subst eas;obtain⟨hcall,hcon⟩:=hcon;obtain⟨cvs,hv,hcl,_⟩:=WJ hx (hr.opd x);have hcv:cvs=[]:=Nr (by simpa using hcl);subst hcv;have hv':a.eval x=.func (.func f) #[] #[]:=hv;have hyv:=hr.opd y;rw[hy]at hyv;have hro:Xn F w B e sz (T n) rs:=hr.heap.ob n _ hl
      obtain⟨b,hb,hBn,hhd⟩:∃b,blk (T n)=some b/\Blk (T n) b/\hd (T n)=T n:=by
       obtain⟨_,_,xs,hown,_⟩:=hro;rcases hown.2 with⟨_,hn⟩|⟨b,oo,cap,cur,hv,_⟩
       .omega
       rw[hv];exact⟨b,rfl,rfl,rfl⟩
      have hγ:a.eval y=T n:=by rw[<-hhd];exact hyv.1
      have hrun:(execOp a.eval o).run P w=.ok (.enter f (#[y].map a.eval)) w:=by
       unfold XX at hcall;split at hcall
       .rename_i fn hfn;simp only[N4,Nm]at hcall;have hnm:¬fn.name= "runtime.NumGoroutine" :=by simpa using hcall.1
        have hnb:¬fn.body=none:=by
         intro hb;rw[hb]at hcall;cases hcall.2
        simp[execOp,ho,resolve,hv',Deferred.ofValue,invoke,callFunc,hfn,hnm,hnb]
       cases hcall
      show wpOps P ops Q (k::Xs) a w;rw[wpOps_cons];unfold wpOp;rw[h1];simp only;have hwant:Region.wanted o (yielded ops a.tmps)=true:=by unfold Region.wanted;rw[hg]
      rw[hwant];simp only[Nd];refine .inl ?_;unfold Oper.wp;rw[hrun,Oper.upon_enter];have hargs:(#[y].map a.eval:Array Value)= #[T n]:=by simp[hγ]
      rw[hargs];refine(hcon F B w (T n) hro hr.heap.fsz (fun c hc=>hr.heap.apart n _ hl c (by rw[hb]at hc;cases hc;exact hBn))).mono ?_;rintro z w' ⟨rfl,q1,q2,q3,q4,q5,hro'⟩;have hkeep:∀c,c<w.heap.size->c≠b->w'.heap[c]? =w.heap[c]? :=fun c hc hne=>q5 c hc fun e=>hne (by rw[hb]at e;cases e;rfl);have hFk:∀c,F c->w'.heap[c]? =w.heap[c]? :=fun c hc=>hkeep c (hr.heap.fsz c hc) fun e'=>hr.heap.apart n _ hl b hBn (e'▸hc);have hkp:Kept B w0 w':=hr.heap.below.trans ⟨q1,q2,q3,q4,fun c hc=>hkeep c (hr.heap.hB c hc) fun e'=>((hr.heap.ob n _ hl).blk_lt hBn).1 (e'▸hc)⟩;have hob:XR F T w' B (T n) (.row e sz rs'):=hro';refine hK _ F T _ _ rfl (fun _ h=>h) (fun _ h=>.inl h) ?_;rw[hd1];exact hr.step (dst:=some d) hok (F':=F) (T':=T) (hr.heap.wrote hl (b:=b) hBn hkp q4 (fun c hc hne=>hkeep c hc hne) hob) ⟨#[],rfl,rfl,fun j t u h1 h2=>by simp at h1⟩ fun _ _ _ _ hv=>hv.mono (fun _ h=>h) hFk
     cases h
    cases h
   cases h
  cases h
 cases h
theorem RunsN.rowA {P:Program} {ops:Array Oper} {l:List Oper} {s:HS} {K:HS->Prop} {o:Oper} {f:FuncId} {n d sz:Nat} {e:TypeId} {rs rs':List (List CD)} (h:rowAP s o=some (f,n,e,sz,rs,d)) (hcon:ConR P f e sz rs rs')
  (hr:RunsN P ops l (({s with objs:=ins n (.row e sz rs') s.objs}:HS).put (some d) (.tup [])) K):RunsN P ops (o::l) s K:=by
 refine .many (M:=fun u=>u=_) 1 (fun k hk=>?_) fun u hu=>by rw[hu];exact hr
 exact Qh.rowA (hk 0 o rfl) h hcon
theorem Qa.conv {P:Program} {ops:Array Oper} {i:Nat} {o:Oper} {s t:HS} (sT dT:TypeId) (x:Operand) (k:IntKind) (n:Int) (hi:ops[i]? =some o) (hg:o.guard=none) (ho:o.op=.convert sT dT x) (hx:Hl.opd s.regs x=Hl.lit (.int k n)) (hok:XP s o.dst=true) (hs:(P.underlying sT).isSome=true)
  (hd:P.underlying dT=some (.int (P.intKind dT))) (ht:s.put o.dst (Hl.lit (.int (P.intKind dT) ((P.intKind dT).wrap n)))=t):Qa P ops i s (fun u=>u=t):=by
 intro w0 B U F T a w Kc Q hr hK;refine convS hi hr hg ho hx hok hs hd fun a' hr'=>?_;rw[ht]at hr';exact hK t F T a' w rfl (fun _ h=>h) (fun _ h=>.inl h) hr'
end Go.Hl
namespace Go.Hl
open Go Go.RowKit
def fnx (g:Operand->RV):Operand->RV
 | .func f=>.v (.one (.c (.fn f [])))
 |x=>g x
section
variable {P:Program}
theorem Qh.fns {ops:Array Oper} {k:Nat} {o:Oper} {s:HS} {d:Nat} {r:RV} {ob:Ob} (hi:ops[k]? =some o) (hg:o.guard=none) (hd:o.dst=some d) (hu:QN d s=true) (hok:XP s (some d)=true) (h:evA P (fnx (opd s.regs)) d o.op=some (r,some ob)):
  Qh P ops k 1 s (fun u=>u=({s with objs:=ins d ob s.objs}:HS).put (some d) r):=by
 intro w0 B U F T a w Q Xs hr hK
 have hx:∀x,Xa F T w (fnx (opd s.regs) x) (a.eval x):=by
  intro x;cases x with
  |func f=>exact CRel.fn f [] [] rfl (by simp)
  |tmp t=>exact hr.opd (.tmp t)
  |const v=>exact hr.opd (.const v)
  |global g=>exact hr.opd (.global g)
 have hm:∀x,¬(fnx (opd s.regs) x).men d:=by
  intro x;cases x with
  |func f=>simp[fnx,RV.men,TV.men,CV.men]
  |tmp t=>exact X0m hu (.tmp t)
  |const v=>exact X0m hu (.const v)
  |global g=>exact X0m hu (.global g)
 obtain⟨ob',hob,v,w',hrun,hh,hrv,hsz,hk⟩:=X5c hr.heap hx hm (WZ hu) (X0f hu) h;cases hob;show wpOps P ops Q (k::Xs) a w;rw[wpOps_cons];unfold wpOp;rw[hi];simp only;have hwant:Region.wanted o (yielded ops a.tmps)=true:=by unfold Region.wanted;rw[hg]
 rw[hwant];simp only[Nd];refine .inl ?_;unfold Oper.wp;rw[hrun,Oper.upon_value,hd];refine hK _ F (upd T d v) (a.put (some d) v) w' rfl (fun _ h=>h) (fun _ h=>.inl h) ?_;exact hr.step (dst:=some d) hok hh hrv fun k r v hl hr2=>(hr.heap.keepR hk hr2).upd (WY hu hl)
theorem RunsN.fns {ops:Array Oper} {l:List Oper} {s:HS} {K:HS->Prop} {o:Oper} {d:Nat} {r:RV} {ob:Ob} (hg:o.guard=none) (hd:o.dst=some d) (hu:QN d s=true) (hok:XP s (some d)=true) (h:evA P (fnx (opd s.regs)) d o.op=some (r,some ob))
  (hr:RunsN P ops l (({s with objs:=ins d ob s.objs}:HS).put (some d) r) K):RunsN P ops (o::l) s K:=by
 refine .many (M:=fun u=>u=_) 1 (fun k hk=>?_) fun u hu=>by rw[hu];exact hr
 exact Qh.fns (hk 0 o rfl) hg hd hu hok h
theorem wpOp_gd {ops ops':Array Oper} {Q:Exit->Act->World->Prop} {i:Nat} {o:Oper} {a:Act} {w:World} {Kc:Act->World->Prop} (hi:ops[i]? =some o) (hw:Region.wanted o (yielded ops a.tmps)=true) (hi':ops'[i]? =some {o with guard:=none}) (h:wpOp P ops' Q i Kc a w):wpOp P ops Q i Kc a w:=by
 unfold wpOp at h⊢;rw[hi];rw[hi']at h;simp only at h⊢;have h2:Region.wanted {o with guard:=none} (yielded ops' a.tmps)=true:=by unfold Region.wanted;rfl
 rw[h2]at h;rw[hw];simp only[Nd]at h⊢;exact h
theorem Qh.callG {ops:Array Oper} {k:Nat} {o:Oper} {s:HS} {f:FuncId} {d:Nat} {objs objs':List (Nat×Ob)} {args:List TV} (Y I:Nat->Nat) {r:RV} (hi:ops[k]? =some o) (hg:ZM ops o s=some true) (hc:gOfC s {o with guard:=none}=some (f,args.map (TV.ren Y []),d))
  (hd:HandS Y I objs objs' s) (hcon:ConS P f objs args r objs') (ho:X40 (objs'.map (·.1)) r=true):Qh P ops k 1 s (fun u=>u=({s with objs:=X02 I objs' (WB (objs.map fun p=>Y p.1) s.objs)}:HS).put (some d) (r.ren I [])):=by
 intro w0 B U F T a w Q Xs hr hK;show wpOps P ops Q (k::Xs) a w;rw[wpOps_cons];refine wpOp_gd (ops':=Array.replicate (k+1) {o with guard:=none}) hi (Zx hr hg) (by simp) ?_;exact s_sound (by simp) hr hc hd hcon ho fun F2 γ2 a2 w2 h3 h4 hr2=>hK _ F2 γ2 a2 w2 rfl h3 h4 hr2
theorem RunsN.callG {ops:Array Oper} {l:List Oper} {o:Oper} {s:HS} {K:HS->Prop} {f:FuncId} {d:Nat} {objs objs':List (Nat×Ob)} {args:List TV} (Y I:Nat->Nat) {r:RV} (hg:ZM ops o s=some true) (hc:gOfC s {o with guard:=none}=some (f,args.map (TV.ren Y []),d))
  (hd:HandS Y I objs objs' s) (hcon:ConS P f objs args r objs') (ho:X40 (objs'.map (·.1)) r=true) (hr:RunsN P ops l (({s with objs:=X02 I objs' (WB (objs.map fun p=>Y p.1) s.objs)}:HS).put (some d) (r.ren I [])) K):RunsN P ops (o::l) s K:=by
 refine .many (M:=fun u=>u=_) 1 (fun k hk=>?_) fun u hu=>by rw[hu];exact hr
 exact Qh.callG Y I (hk 0 o rfl) hg hc hd hcon ho
end
section
variable {P:Program} {F:Nat->Prop} {T:Nat->Value} {w w0:World} {B:Nat->Prop} {U:Nat->Option Value}
theorem Xn.cut {e:TypeId} {s:Nat} {rows:List (List CD)} {v:Value} (h:Xn F w B e s v rows) {l hi:Nat} (hl:l<=hi) (hh:hi<=rows.length):
  ∃(a:Option Addr) (cap:Nat),v=.slice a rows.length cap/\rows.length<=cap/\Xn F w B e s (.slice (if cap=l then a else a.map fun a=>a.add (l*s)) (hi - l) (cap - l)) ((rows.take hi).drop l):=by
 obtain⟨h0,hs,xs,⟨hxl,hown⟩,h1,hc⟩:=h;have hlen:((rows.take hi).drop l).length=hi - l:=by simp[Nat.min_eq_left hh]
 have hs':∀r∈(rows.take hi).drop l,r.length=s:=fun r hr=>hs r (Db (D5 hr))
 have hm1:(hi - l)*s+l*s<=rows.length*s:=by
  rw[<-Nat.add_mul];exact NX _ (by omega)
 have hxs':((xs.drop (l*s)).take ((hi - l)*s)).length=(hi - l)*s:=by
  rw[Nt,NS,hxl];omega
 have hc':∀i j d,XM ((rows.take hi).drop l) i j=some d->∃u,((xs.drop (l*s)).take ((hi - l)*s))[i*s+j]? =some u/\CRel F w d u:=by
  intro i j d hd;have hlt:=Wh hs' hd;rw[hlen]at hlt
  have hlt2:i*s+j<(hi - l)*s:=by
   have:(i+1)*s<=(hi - l)*s:=NX _ hlt.1;rw[NM]at this;omega
  have hd':XM rows (l+i) j=some d:=by
   unfold XM at hd⊢;rw[Nn,Nw]at hd;split at hd
   .exact hd
   cases hd
  obtain⟨u,hu,hr⟩:=hc _ _ _ hd';refine⟨u,?_,hr⟩;rw[Nw,N9 hlt2,Nn,<-hu];congr 1;rw[NM];omega
 have hone:∀u∈(xs.drop (l*s)).take ((hi - l)*s),u.oneCell'=true:=fun u hu=>h1 u (D5 (Db hu));rcases hown with⟨rfl,hn⟩|⟨g,o,cap,cur,rfl,hB,hg,hcap,hmax,hsz,htake⟩
 .refine⟨none,0,by rw[hn],by omega,h0,hs',_,⟨by rw[hlen];exact hxs',.inl ⟨?_,by rw[hlen];omega⟩⟩,hone,hc'⟩;rw[show hi - l=0 by omega,Nat.zero_sub];split<;>rfl
 refine⟨some ⟨g,o,none⟩,cap,rfl,hcap,h0,hs',_,⟨by rw[hlen];exact hxs',.inr ⟨g,if cap=l then o else o+l*s,cap - l,cur,?_,hB,hg,by rw[hlen];omega,by omega,?_,?_⟩⟩,hone,hc'⟩
 .rw[hlen];split
  .rfl
  simp only[Option.map_some,QE]
 .have:(cap - l)*s+l*s=cap*s:=by rw[<-Nat.add_mul];congr 1;omega
  split<;>omega
 rw[hlen];by_cases e':cap=l
 .have:hi - l=0:=by omega
  simp[this]
 rw[N6 e',<-htake];apply D0;intro k;rw[Nw,Nw,Nn,Nn,Nw,Nn];by_cases hk:k<(hi - l)*s
 .rw[N9 hk,N9 hk,N9 (by omega),D9]
 rw[N6 hk,N6 hk]
theorem Qh.cutR {ops:Array Oper} {k:Nat} {o:Oper} {s:HS} {d n l hi sz:Nat} {t e:TypeId} {ti:TI} {x:Operand} {low high:Option Operand} {rows:List (List CD)} (hop:ops[k]? =some o) (hg:o.guard=none) (hd:o.dst=some d) (ho:o.op=.slice t x low high none) (hu:QN d s=true) (hok:XP s (some d)=true)
  (hx:opd s.regs x=.v (.one (.own n))) (hl:lkp s.objs n=some (.row e sz rows)) (he:WP P t=some e) (hti:XY P e=some ti) (hsz:ti.size=sz) (h1:X0o (opd s.regs) 0 low=some l) (h2:X0o (opd s.regs) rows.length high=some hi) (hlh:l<=hi) (hh:hi<=rows.length):
  Qh P ops k 1 s (fun u=>u=({s with objs:=ins d (.row e sz ((rows.take hi).drop l)) (del n s.objs)}:HS).put (some d) (.v (.one (.own d)))):=by
 intro w0 B U F T a w Q Xs hr hK;subst hsz;have hro:Xn F w B e ti.size (T n) rows:=hr.heap.ob n _ hl;have hsl:=hro.sl;have hxv:=hr.opd x;rw[hx]at hxv;have hv:a.eval x=T n:=by rw[hxv.1,ZP hsl]
 obtain⟨ad,cap,hva,hcap,hrow⟩:=hro.cut hlh hh;obtain⟨i,td,z,hi',htd,hz,e1,e2,e3,e4,e5⟩:=Xx hti;have hb:=Wk (P:=P) (w:=w) (b:=true) hr.opd h1 h2 hlh hh hcap;show wpOps P ops Q (k::Xs) a w;rw[wpOps_cons];unfold wpOp;rw[hop];simp only;have hwant:Region.wanted o (yielded ops a.tmps)=true:=by unfold Region.wanted;rw[hg]
 rw[hwant];simp only[Nd];refine .inl ?_;unfold Oper.wp
 have hrun:(execOp a.eval o).run P w=.ok (.value (.slice (if cap=l then ad else ad.map fun a=>a.add (l*ti.size)) (hi - l) (cap - l))) w:=by
  unfold execOp;rw[ho];simp[hv,hva,Instr.sliceAt,Instr.slice,run_underlying (Qf he),hb,Xw hi',e1]
 rw[hrun,Oper.upon_value,hd]
 have hHR:HeapRel w0 B U F (upd T d (.slice (if cap=l then ad else ad.map fun a=>a.add (l*ti.size)) (hi - l) (cap - l))) (ins d (.row e ti.size ((rows.take hi).drop l)) (del n s.objs)) w:=by
  refine hr.heap.moved (ns:=[n]) (by simp[hl]) (fun m o hm=>by obtain⟨h1,h2⟩:=Q6 hm;exact⟨by simpa using h1,h2⟩) (WZ hu) hr.heap.below (NG _) (fun _ _ _=>rfl) (fun b hb=>.inr ⟨n,by simp,(W5 hsl).2 ?_⟩) (X0f hu) hrow;rw[hva];cases ad with
  |none=>simp[Blk,blk]at hb
  | some ad=>
    simp only[Blk]at hb;split at hb
    .exact hb
    simp only[Option.map_some,blk]at hb⊢;rw[<-hb];simp only[Addr.add];split<;>rfl
 refine hK _ F (upd T d (.slice (if cap=l then ad else ad.map fun a=>a.add (l*ti.size)) (hi - l) (cap - l))) (a.put (some d) _) w rfl (fun _ h=>h) (fun _ h=>.inl h) ?_;exact hr.step (dst:=some d) hok hHR ⟨by rw[Xu];rfl,rfl⟩ fun k r v hl2 hr2=>(hr.heap.keepR (fun _ _=>rfl) hr2).upd (WY hu hl2)
theorem RunsN.cutR {ops:Array Oper} {l0:List Oper} {o:Oper} {s:HS} {K:HS->Prop} {d n l hi sz:Nat} {t e:TypeId} {ti:TI} {x:Operand} {low high:Option Operand} {rows:List (List CD)} (hg:o.guard=none) (hd:o.dst=some d) (ho:o.op=.slice t x low high none) (hu:QN d s=true) (hok:XP s (some d)=true)
  (hx:opd s.regs x=.v (.one (.own n))) (hl:lkp s.objs n=some (.row e sz rows)) (he:WP P t=some e) (hti:XY P e=some ti) (hsz:ti.size=sz) (h1:X0o (opd s.regs) 0 low=some l) (h2:X0o (opd s.regs) rows.length high=some hi) (hlh:l<=hi) (hh:hi<=rows.length)
  (hr:RunsN P ops l0 (({s with objs:=ins d (.row e sz ((rows.take hi).drop l)) (del n s.objs)}:HS).put (some d) (.v (.one (.own d)))) K):RunsN P ops (o::l0) s K:=by
 refine .many (M:=fun u=>u=_) 1 (fun k hk=>?_) fun u hu=>by rw[hu];exact hr
 exact Qh.cutR (hk 0 o rfl) hg hd ho hu hok hx hl he hti hsz h1 h2 hlh hh
end
section
variable {P:Program} {ops:Array Oper}
theorem HeapRel.drop {F:Nat->Prop} {T:Nat->Value} {w w' w0:World} {B:Nat->Prop} {U:Nat->Option Value} {objs:List (Nat×Ob)} {n:Nat} {on:Ob} (h:HeapRel w0 B U F T objs w) (hl:lkp objs n=some on) (hb:Kept B w0 w') (hsz:w.heap.size<=w'.heap.size)
  (hkeep:∀k,k<w.heap.size->¬Blk (T n) k->w'.heap[k]? =w.heap[k]?):HeapRel w0 B U F T (del n objs) w':=by
 have hF:∀k,F k->w'.heap[k]? =w.heap[k]? :=fun k hk=>hkeep k (h.fsz k hk) fun e=>h.apart n on hl k e hk
 exact {
  below:=hb
  hB:=fun b hb=>NB (h.hB b hb) hsz
  fsz:=fun k hk=>NB (h.fsz k hk) hsz
  ob:=fun m o ho=>by
   obtain⟨hne,ho'⟩:=Q6 ho;have h1:=h.ob m o ho';exact h1.mono (fun _ h=>h) hF fun k hk=>hkeep k (h1.blk_lt hk).2 fun e=>h.sep m n _ _ ho' hl hne k hk e
  apart:=fun m o ho=>h.apart m o (Q6 ho).2
  sep:=fun m k om ok hm hk=>h.sep m k om ok (Q6 hm).2 (Q6 hk).2
  pin:=h.pin}
section
variable {nx rd:List Nat->HS} {p n i d1 d2 sz:Nat} {e e':TypeId} {x y xm xi:Operand} {te:TI} {rows:List (Option (List (List CD)))} {rs more:List (List CD)} {O:List (Nat×Ob)} {sF:HS} {R:List Nat} {j:Nat}
end
end
section
variable {P:Program}
def ConE (P:Program) (f:FuncId):Prop:=
 XX P f=true/\∀(w:World) (p:Option Addr) (cap:Nat),Calls P f #[.slice p 0 cap] w fun x w'=>x=.returned (.tuple #[])/\w'=w
def subEP (s:HS) (o:Oper):Option (FuncId×Nat):=
 match o.guard,o.op,o.dst with
 | none, .call {callee:=.value x,args:=args, .. },some d=>match X3n (opd s.regs x),args.toList with
   | some (f,[]),[y]=>match opd s.regs y with
     | .v (.one (.sub n i))=>match lkp s.objs n with
       | some (.mat _ _ _ rows)=>match rows[i]? with
         |some (some [])=>if XP s (some d)=true then some (f,d)else none
         |_=>none
       |_=>none
     |_=>none
   |_,_=>none
 |_,_,_=>none
theorem Qh.subE {ops:Array Oper} {k:Nat} {s:HS} {o:Oper} {f:FuncId} {d:Nat} (h1:ops[k]? =some o) (h:subEP s o=some (f,d)) (hcon:ConE P f):Qh P ops k 1 s (fun u=>u=s.put (some d) (.tup [])):=by
 intro w0 B U F T a w Q Xs hr hK;unfold subEP at h;split at h
 .rename_i x as0 ats d1 hg ho hd1;split at h
  .rename_i f1 y hx has;split at h
   .rename_i n1 i1 hy;split at h
    .rename_i e1 e1' sz1 rows1 hl;split at h
     .rename_i hri;split at h
      .rename_i hok;cases h;have eas:as0= #[y]:=by obtain⟨l⟩:=as0;simpa using has
       subst eas;obtain⟨hcall,hcon⟩:=hcon;obtain⟨cvs,hv,hcl,_⟩:=WJ hx (hr.opd x);have hcv:cvs=[]:=Nr (by simpa using hcl);subst hcv;have hv':a.eval x=.func (.func f) #[] #[]:=hv;have hyv:=hr.opd y;rw[hy]at hyv;obtain⟨vs,hvs,hsub,hv1,hvu⟩:=hyv;obtain⟨o',is,hγ,h0,hlen,⟨xs,hown,hxs⟩,hin,hd1',hd2⟩:=hr.heap.ob _ _ hl;rw[hγ]at hvs;cases hvs;have hvi:is[i1]? =some (a.eval y):=by simpa using hsub
       have hro:Xn F w B e1' sz1 (a.eval y) []:=hin i1 _ (some []) hvi hri
       obtain⟨p,cap,hpv⟩:∃p cap,a.eval y=.slice p 0 cap:=by
        obtain⟨_,_,xs,hown,_⟩:=hro;rcases hown.2 with⟨hv,_⟩|⟨b,oo,cap,cur,hv,_⟩
        .exact⟨_,_,hv⟩
        exact⟨_,_,hv⟩
       have hrun:(execOp a.eval o).run P w=.ok (.enter f (#[y].map a.eval)) w:=by
        unfold XX at hcall;split at hcall
        .rename_i fn hfn;simp only[N4,Nm]at hcall;have hnm:¬fn.name= "runtime.NumGoroutine" :=by simpa using hcall.1
         have hnb:¬fn.body=none:=by
          intro hb;rw[hb]at hcall;cases hcall.2
         simp[execOp,ho,resolve,hv',Deferred.ofValue,invoke,callFunc,hfn,hnm,hnb]
        cases hcall
       show wpOps P ops Q (k::Xs) a w;rw[wpOps_cons];unfold wpOp;rw[h1];simp only;have hwant:Region.wanted o (yielded ops a.tmps)=true:=by unfold Region.wanted;rw[hg]
       rw[hwant];simp only[Nd];refine .inl ?_;unfold Oper.wp;rw[hrun,Oper.upon_enter];have hargs:(#[y].map a.eval:Array Value)= #[.slice p 0 cap]:=by simp[hpv]
       rw[hargs];refine(hcon w p cap).mono ?_;rintro z w' ⟨rfl,rfl⟩;refine hK _ F T _ _ rfl (fun _ h=>h) (fun _ h=>.inl h) ?_;rw[hd1];exact hr.step (dst:=some d) hok (F':=F) (T':=T) hr.heap ⟨#[],rfl,rfl,fun j t u h1 h2=>by simp at h1⟩ fun _ _ _ _ hv=>hv
      cases h
     cases h
    cases h
   cases h
  cases h
 cases h
theorem RunsN.subE {ops:Array Oper} {l:List Oper} {s:HS} {K:HS->Prop} {o:Oper} {f:FuncId} {d:Nat} (h:subEP s o=some (f,d)) (hcon:ConE P f) (hr:RunsN P ops l (s.put (some d) (.tup [])) K):RunsN P ops (o::l) s K:=by
 refine .many (M:=fun u=>u=_) 1 (fun k hk=>?_) fun u hu=>by rw[hu];exact hr
 exact Qh.subE (hk 0 o rfl) h hcon
end
abbrev D3:=Int×Int×Int
def d3V (x:D3):Value:=.agg #[.int .i64 x.1,.int .i64 x.2.1,.int .i64 x.2.2]
def d3C (x:D3):List CV:=[.c (.lit (.int .i64 x.1)),.c (.lit (.int .i64 x.2.1)),.c (.lit (.int .i64 x.2.2))]
def d3M (l:List D3):List (Value×CD):=l.map fun x=>(d3V x,.lit (.bool true))
def d3T (P:Program) (t:TypeId):Bool:=match P.underlying t with
 | some (.map k _)=>match X67 P k with
   |some [true,true,true]=>true
   |_=>false
 |_=>false
section
variable {P:Program} {F:Nat->Prop} {T T':Nat->Value} {w w' w0:World} {B:Nat->Prop} {U:Nat->Option Value}
theorem d3T_some {t:TypeId} (h:d3T P t=true):∃k e fs,P.underlying t=some (.map k e)/\P.underlying k=some (.struct fs)/\P.stoodInHeld k=false/\WS P fs.toList 0=some [true,true,true]:=by
 unfold d3T at h;split at h
 .rename_i k e hu;split at h
  .rename_i hf;unfold X67 at hf;split at hf
   .rename_i fs hk;split at hf
    .rename_i hc;exact⟨k,e,fs,hu,hk,hc.1,hf⟩
    cases hf
   cases hf
  cases h
 cases h
theorem d3_eqFs (a b:D3):eqFs [true,true,true] (d3C a) (d3C b)=some (decide (a=b)):=by
 obtain⟨a1,a2,a3⟩:=a;obtain⟨b1,b2,b3⟩:=b;simp only[d3C,eqFs,Nd,Option.map_some,Option.some.injEq];rw[D6];simp
theorem d3_rel (a:D3):Xk F T w (d3C a) #[.int .i64 a.1,.int .i64 a.2.1,.int .i64 a.2.2]:=by
 refine⟨rfl,fun j x u hx hu=>?_⟩
 match j with
 |0=>cases hx;cases hu;exact CRel.lit _
 |1=>cases hx;cases hu;exact CRel.lit _
 |2=>cases hx;cases hu;exact CRel.lit _
 |j+3=>simp[d3C]at hx
theorem d3_equal {k:TypeId} {fs:Array Field} (hk:P.underlying k=some (.struct fs)) (hs:P.stoodInHeld k=false) (hf:WS P fs.toList 0=some [true,true,true]) (a b:D3):(Op.equal k (d3V a) (d3V b)).run P w=.ok (decide (a=b)) w:=by
 have hfo:P.fieldsOf k=fs:=by unfold Program.fieldsOf;rw[hk]
 have ha:=d3_rel (F:=fun _=>False) (T:=fun _=>undef) (w:=w) a;have hb:=d3_rel (F:=fun _=>False) (T:=fun _=>undef) (w:=w) b;show(Op.equalIn 10000 k (.agg _) (.agg _)).run P w=_;rw[show(10000:Nat)=(9998+1)+1 from rfl,run_equalIn_agg w (9998+1) k _ _ (by rw[hfo];exact hk) hs,hfo];exact X1B [true,true,true] (d3C a) (d3C b) _ fs.toList 0 _ _ hf (d3_eqFs a b) rfl rfl (fun j x u h1 h2=>ha.2 j x u h1 (by simpa using h2)) (fun j x u h1 h2=>hb.2 j x u h1 (by simpa using h2))
theorem X7c {k:TypeId} {fs:Array Field} (hk:P.underlying k=some (.struct fs)) (hf:WS P fs.toList 0=some [true,true,true]) (em:Bool) (a:D3):(Instr.checkKey em 10000 k (d3V a)).run P w=.ok () w:=by
 show(Instr.checkKey em (9998+1+1) k (d3V a)).run P w=_;generalize 9998=n;unfold Instr.checkKey;simp only[d3V,Sem.run_bind,run_underlying hk,Result.andThen_ok];rw[<-Array.forIn_toList]
 have key:∀(l:List Field) (ks:List Bool) (i:Nat),WS P l i=some ks->(∀j,j<l.length->∃m,(#[Value.int .i64 a.1,.int .i64 a.2.1,.int .i64 a.2.2]:Array Value)[i+j]? =some (.int .i64 m))->
   (forIn l PUnit.unit fun f _=>(if f.name≠ "_" then(do
     let v<-part f.type #[Value.int .i64 a.1,.int .i64 a.2.1,.int .i64 a.2.2] f.offset
     Instr.checkKey em (n+1) f.type v
     pure (ForInStep.yield PUnit.unit))else pure (ForInStep.yield PUnit.unit):Sem (ForInStep PUnit))).run P w=.ok PUnit.unit w:=by
  intro l
  induction l with
  |nil=>intro ks i _ _;simp
  | cons f l ih=>
    intro ks i hks hj;unfold WS at hks;split at hks
    .rename_i a' b' h1 h2
     have hih:=ih _ _ h2 fun j hj'=>by
      obtain⟨m,hm⟩:=hj (j+1) (by simp only[List.length_cons];omega);exact⟨m,by rw[<-hm];congr 1;omega⟩
     obtain⟨m,hm⟩:=hj 0 (by simp);rw[Nat.add_zero]at hm;unfold fkind at h1;split at h1
     .rename_i hn
      have hty:(∃q,P.underlying f.type=some (.int q))\/P.underlying f.type=some .string:=by
       split at h1
       .exact .inl ⟨_,by assumption⟩
       .exact .inr (by assumption)
       cases h1
      have hp:=X09 (P:=P) (w:=w) hty hm
      have hck:(Instr.checkKey em (n+1) f.type (.int .i64 m)).run P w=.ok () w:=by
       unfold Instr.checkKey;rcases hty with⟨q,hq⟩|hq<;>simp[run_underlying hq]
      simp only[List.forIn_cons,Sem.run_bind,ne_eq,hn.1,not_false_eq_true,Nd,hn.2,hp,Result.andThen_ok,hck,Sem.run_pure];exact hih
     cases h1
    cases hks
 have hlen:fs.toList.length=3:=by
  have:∀(l:List Field) (ks:List Bool) (i:Nat),WS P l i=some ks->l.length=ks.length:=by
   intro l
   induction l with
   |nil=>intro ks i h;cases h;rfl
   | cons f l ih=>
     intro ks i h;unfold WS at h;split at h
     .rename_i a' b' h1 h2;cases h;simp[ih _ _ h2]
     cases h
  exact this _ _ _ hf
 have hcell:∀j,j<fs.toList.length->∃m,(#[Value.int .i64 a.1,.int .i64 a.2.1,.int .i64 a.2.2]:Array Value)[0+j]? =some (.int .i64 m):=by
  intro j hj;rw[hlen]at hj
  match j,hj with
  |0,_=>exact⟨_,rfl⟩
  |1,_=>exact⟨_,rfl⟩
  |2,_=>exact⟨_,rfl⟩
 rw[key fs.toList _ 0 hf hcell];rfl
theorem X8g {k:TypeId} {fs:Array Field} (hk:P.underlying k=some (.struct fs)) (hs:P.stoodInHeld k=false) (hf:WS P fs.toList 0=some [true,true,true]) (x:D3):∀(es:List MapEntry) (l:List D3) (i:Nat),es.map (·.key)=l.map d3V->
  (x∉l/\(Instr.findAsking k (d3V x) es i).run P w=.ok none w)\/(x∈l/\∃(j:Nat) (v:Value) (e:MapEntry),(Instr.findAsking k (d3V x) es i).run P w=.ok (some (i+j,v)) w/\es[j]? =some e/\e.key=d3V x)
 |[],[],i,_=>.inl ⟨by simp,by simp[Instr.findAsking]⟩
 | e::es,y::l,i,h=>by
   simp only[Na,List.cons.injEq]at h;have heq:=d3_equal (w:=w) hk hs hf x y;by_cases hxy:x=y
   .subst hxy;refine .inr ⟨by simp,0,e.val,e,?_,rfl,h.1⟩;unfold Instr.findAsking;simp[h.1,heq]
   rcases X8g hk hs hf x es l (i+1) h.2 with⟨h1,h2⟩|⟨h1,j,v,e',h2,h3,h4⟩
   .refine .inl ⟨by simp[hxy,h1],?_⟩;unfold Instr.findAsking;simp[h.1,heq,hxy,h2]
   refine .inr ⟨by simp[h1],j+1,v,e',?_,by simpa using h3,h4⟩;unfold Instr.findAsking;simp only[h.1,Sem.run_bind,heq,Result.andThen_ok,hxy,decide_false,NA,Nb,h2];congr 3;omega
 |[],_::_,_,h=>by simp at h
 |_::_,[],_,h=>by simp at h
theorem X7O {k:TypeId} {fs:Array Field} (hk:P.underlying k=some (.struct fs)) (hs:P.stoodInHeld k=false) (hf:WS P fs.toList 0=some [true,true,true]) (x:D3) (es:List MapEntry) (l:List D3) (h:es.map (·.key)=l.map d3V):
  (x∉l/\(Instr.findKey k (d3V x) es).run P w=.ok none w)\/(x∈l/\∃(j:Nat) (v:Value) (e:MapEntry),(Instr.findKey k (d3V x) es).run P w=.ok (some (j,v)) w/\es[j]? =some e/\e.key=d3V x):=by
 unfold Instr.findKey;simp only[Sem.run_bind,run_underlying hk,Result.andThen_ok];cases es with
 | nil=>
   cases l with
   |nil=>exact .inl ⟨by simp,by simp[Instr.findNow]⟩
   |cons _ _=>simp at h
 | cons e es=>
   have hn:Instr.findNow (.struct fs) (d3V x) (e::es) 0=none:=by simp[Instr.findNow,Instr.sameNow,d3V]
   rw[hn];rcases X8g (w:=w) hk hs hf x (e::es) l 0 h with h1|⟨h1,j,v,e',h2,h3⟩
   .exact .inl h1
   rw[Nat.zero_add]at h2;exact .inr ⟨h1,j,v,e',h2,h3⟩
def ins3 (l:List D3) (x:D3):List D3:=if x∈l then l else l++[x]
theorem Qh.upd3 {ops:Array Oper} {q:Nat} {o:Oper} {s:HS} {n:Nat} {t:TypeId} {m k v:Operand} {l:List D3} {x:D3} (hop:ops[q]? =some o) (hg:o.guard=none) (ho:o.op=.mapUpdate t m k v) (hok:XP s o.dst=true) (ht:d3T P t=true)
  (hm:opd s.regs m=.v (.one (.own n))) (hl:lkp s.objs n=some (.mp (d3M l))) (hk:opd s.regs k=.v (.agg (d3C x))) (hv:opd s.regs v=lit (.bool true)):
  Qh P ops q 1 s (fun u=>u=({s with objs:=ins n (.mp (d3M (ins3 l x))) s.objs}:HS).put o.dst (.v (.one .any))):=by
 intro w0 B U F T a w Q Xs hr hK;obtain⟨kt,e,fs,hu,hku,hst,hfk⟩:=d3T_some ht;obtain⟨b,es,clock,hγ,hB,hb,hkeys,hborn,hrel⟩:=hr.heap.ob n _ hl;have hmv:=hr.opd m;rw[hm]at hmv;have hvm:a.eval m=.map (some b):=by rw[hmv.1,hγ];rfl
 have hkv:=hr.opd k;rw[hk]at hkv
 have ek:a.eval k=d3V x:=by
  obtain⟨vs,h1,h2⟩:=hkv;rw[h1];unfold d3V;congr 1;have lit0:∀{v u:Value},Xo F T w (.c (.lit v)) u->u=v:=fun {v u} h=>Xa.lit_eq (T:=T) (w:=w) (F:=F) (r:=lit v) rfl h;have hsz:vs.size=3:=h2.1;apply Array.ext (by rw[hsz];rfl);intro j h3 h4
  match j,h3 with
  |0,h3=>exact lit0 (h2.2 0 _ vs[0] rfl (by simp[h3]))
  |1,h3=>exact lit0 (h2.2 1 _ vs[1] rfl (by simp[h3]))
  |2,h3=>exact lit0 (h2.2 2 _ vs[2] rfl (by simp[h3]))
  |j+3,h3=>omega
 have ev:a.eval v=.bool true:=Xa.lit_eq rfl (by have:=hr.opd v;rw[hv]at this;exact this);have hkeys':es.toList.map (·.key)=l.map d3V:=by rw[hkeys];simp[d3M]
 have hlen:es.size=l.length:=by have:=congrArg List.length hkeys';simpa using this
 have hlt:=Wi hb;have hBn:Blk (T n) b:=by rw[hγ];rfl
 have hck:=X7c (w:=w) hku hfk false x;show wpOps P ops Q (q::Xs) a w;rw[wpOps_cons];unfold wpOp;rw[hop];simp only;have hwant:Region.wanted o (yielded ops a.tmps)=true:=by unfold Region.wanted;rw[hg]
 rw[hwant];simp only[Nd];refine .inl ?_;unfold Oper.wp
 have fin:∀(es':Array MapEntry) (clock':Nat),(execOp a.eval o).run P w=.ok .skip {w with heap:=w.heap.setIfInBounds b (.map es' clock')}->
   XR F T {w with heap:=w.heap.setIfInBounds b (.map es' clock')} B (.map (some b)) (.mp (d3M (ins3 l x)))->(execOp a.eval o).run P w=.ok .skip {w with heap:=w.heap.setIfInBounds b (.map es' clock')}/\o.upon P a (fun a w=>wpOps P ops Q Xs a w) Q (.ok .skip {w with heap:=w.heap.setIfInBounds b (.map es' clock')}):=by
  intro es' clock' hrun hob;refine⟨hrun,?_⟩;rw[Oper.upon_skip];have hkeep:∀c,c≠b->(w.heap.setIfInBounds b (.map es' clock'))[c]? =w.heap[c]? :=fun c hc=>by rw[Nx (Ne.symm hc)]
  have hFk:∀c,F c->(w.heap.setIfInBounds b (.map es' clock'))[c]? =w.heap[c]? :=fun c hc=>hkeep c fun e'=>hr.heap.apart n _ hl b hBn (e'▸hc);refine hK _ F T _ _ rfl (fun _ h=>h) (fun _ h=>.inl h) ?_;refine hr.step (dst:=o.dst) (r:=.v (.one .any)) hok (F':=F) (T':=T) (hr.heap.wrote hl (b:=b) hBn ⟨hr.heap.below.os,hr.heap.below.tape,hr.heap.below.output,by simpa using hr.heap.below.size,fun c hc=>(hkeep c fun e'=>hB (e'▸hc)).trans (hr.heap.below.block c hc)⟩ (by simp) (fun c _ hne=>hkeep c hne) (by rw[hγ];exact hob)) trivial fun _ _ _ _ hv=>hv.mono (fun _ h=>h) hFk
 rcases X7O (w:=w) hku hst hfk x es.toList l hkeys' with⟨hx,hfind⟩|⟨hx,j0,v0,e0,hfind,he0,hk0⟩
 .have hi3:ins3 l x=l++[x]:=by unfold ins3;rw[N6 hx]
  obtain⟨h1,h2⟩:=fin (es.push {key:=d3V x,val:=.bool true,born:=clock}) (clock+1) (by
   unfold execOp;rw[ho];simp only[hvm,ek,ev];simp[Instr.mapUpdate,run_underlying hu,MapKept.run_getObj_map hb,hck,hfind,MapKept.run_setObj_map _ hb]) (by
   refine⟨b,es.push {key:=d3V x,val:=.bool true,born:=clock},clock+1,rfl,hB,by simp[hlt],by simp[hkeys',hi3,d3M],hborn.push _ _,fun j k d e h1 h2=>?_⟩
   have hd:d=.lit (.bool true):=by
    simp only[d3M,Nj,N7]at h1;obtain⟨_,_,h1⟩:=h1;cases h1;rfl
   subst hd;rw[Array.getElem?_push]at h2;split at h2
   .cases h2;exact CRel.lit _
   rename_i hj;have hjl:j<l.length:=by rw[<-hlen];exact(NE.1 h2).1
   have h3:=hrel j (d3V l[j]) (.lit (.bool true)) e (by simp[d3M,hjl]) h2;rw[show e.val=.bool true from Xa.lit_eq (T:=T) (w:=w) (F:=F) (r:=lit (.bool true)) rfl h3]
   exact CRel.lit _)
  rw[h1];exact h2
 have hi3:ins3 l x=l:=by unfold ins3;rw[N9 hx]
 have he0':es[j0]? =some e0:=by simpa using he0
 have hstay:(Instr.keyThatStays (((es[j0]?).map (·.key)).getD (d3V x)) (d3V x)).run P w=.ok (d3V x) w:=by
  rw[he0',Option.map_some,Option.getD_some,hk0]
  have:Instr.sameBits 10000 (d3V x) (d3V x)=true:=by
   show Instr.sameBits (9999+1) (d3V x) (d3V x)=true;simp[d3V,Instr.sameBits]
  simp[Instr.keyThatStays,this]
 obtain⟨h1,h2⟩:=fin (es.modify j0 fun e=>{e with key:=d3V x,val:=.bool true}) clock (by
  unfold execOp;rw[ho];simp only[hvm,ek,ev];simp[Instr.mapUpdate,run_underlying hu,MapKept.run_getObj_map hb,hck,hfind,hstay,MapKept.run_setObj_map _ hb]) (by
  refine⟨b,es.modify j0 fun e=>{e with key:=d3V x,val:=.bool true},clock,rfl,hB,by simp[hlt],?_,hborn.modify _ _ fun _=>rfl,fun j k d e h1 h2=>?_⟩
  .rw[hi3,show(d3M l).map (·.1)=l.map d3V by simp[d3M],<-hkeys'];apply D0;intro j;simp only[Nj,D7,Dk];by_cases hj:j0=j
   .subst hj;rw[N9 rfl,he0'];simp[hk0]
   rw[N6 hj]
  rw[hi3]at h1
  have hd:d=.lit (.bool true):=by
   simp only[d3M,Nj,N7]at h1;obtain⟨_,_,h1⟩:=h1;cases h1;rfl
  subst hd;rw[Dk]at h2;by_cases hj:j0=j
  .subst hj;rw[N9 rfl,he0']at h2;cases h2;exact CRel.lit _
  rw[N6 hj]at h2;have hjl:j<l.length:=by rw[<-hlen];exact(NE.1 h2).1
  have h3:=hrel j (d3V l[j]) (.lit (.bool true)) e (by simp[d3M,hjl]) h2;rw[show e.val=.bool true from Xa.lit_eq (T:=T) (w:=w) (F:=F) (r:=lit (.bool true)) rfl h3]
  exact CRel.lit _)
 rw[h1];exact h2
theorem RunsN.upd3 {ops:Array Oper} {l0:List Oper} {o:Oper} {s:HS} {K:HS->Prop} {n:Nat} {t:TypeId} {m k v:Operand} {l:List D3} {x:D3} (hg:o.guard=none) (ho:o.op=.mapUpdate t m k v) (hok:XP s o.dst=true) (ht:d3T P t=true)
  (hm:opd s.regs m=.v (.one (.own n))) (hl:lkp s.objs n=some (.mp (d3M l))) (hk:opd s.regs k=.v (.agg (d3C x))) (hv:opd s.regs v=lit (.bool true))
  (hr:RunsN P ops l0 (({s with objs:=ins n (.mp (d3M (ins3 l x))) s.objs}:HS).put o.dst (.v (.one .any))) K):RunsN P ops (o::l0) s K:=by
 refine .many (M:=fun u=>u=_) 1 (fun q hq=>?_) fun u hu=>by rw[hu];exact hr
 exact Qh.upd3 (hq 0 o rfl) hg ho hok ht hm hl hk hv
end
section
variable {P:Program} {ops:Array Oper}
theorem any_ind {TR:List Nat->Act->World->Prop} {Q:Exit->Act->World->Prop} (hfw:fwdB ops=true)
  (hstep:∀(R:List Nat) (i:Nat) (o:Oper),ops[i]? =some o->i∈R->(∀e∈o.after.toList,Region.binds .any e=true->e.on∉R)->∀a w,TR R a w->∀Kc,(∀a' w',TR (X0T R i) a' w'->Kc a' w')->wpOp P ops Q i Kc a w):
  ∀(fuel:Nat) (listed:Array Bool) (a:Act) (w:World),listed.size=ops.size->(Xs ops listed).length<=fuel->TR (Xs ops listed) a w->
  (∀a' w',TR [] a' w'->Q .normal a' w')->wpAny P .any ops Q fuel listed a w:=by
 have hnr:∀listed:Array Bool,Xs ops listed=[]->Region.ready .any ops listed=[]:=by
  intro listed h0;refine List.eq_nil_iff_forall_not_mem.2 fun i hi=>?_;obtain⟨h1,h2,_⟩:=Zo.1 hi;have:=QK.2 ⟨h1,h2⟩;rw[h0]at this;cases this
 have hrn:∀listed:Array Bool,listed.size=ops.size->Region.ready .any ops listed=[]->Xs ops listed=[]:=by
  intro listed hsz h0;cases hres:Xs ops listed with
  |nil=>rfl
  | cons i l=>
    have hi:i∈Xs ops listed:=by rw[hres];simp
    obtain⟨hlt,hun⟩:=QK.1 hi
    have:i∈Region.ready .any ops listed:=by
     refine Zo.2 ⟨hlt,hun,ops[i],by simp[hlt],fun e he hb=>?_⟩
     have hon:e.on<i:=by
      unfold fwdB at hfw;rw[Nl]at hfw;have h1:=hfw i (by simpa using hlt);rw[NV hlt]at h1;simp only[Nl]at h1;have h2:=h1 e (by simpa using he);simp only[hb,Bool.not_true,Bool.false_or,N5]at h2;exact h2
     have hnot:e.on∉Xs ops listed:=by
      intro hm;have hs:=Wo (ops:=ops) listed;rw[hres]at hs hm;rcases Np.1 hm with e'|hm
      .omega
      have:=(NZ.1 hs).1 _ hm;omega
     rw[QK]at hnot;have hel:e.on<listed.size:=by omega
     rw[Ns,NV hel]at hnot⊢;simp only[Option.getD_some,not_and,Bool.not_eq_false]at hnot⊢;exact hnot (by omega)
    rw[h0]at this;cases this
 intro fuel
 induction fuel with
 | zero=>
   intro listed a w hsz hlen ht hK;have h0:Xs ops listed=[]:=Nr (by omega);rw[h0]at ht;exact⟨hnr listed h0,hK a w ht⟩
 | succ fuel ih=>
   intro listed a w hsz hlen ht hK;refine⟨fun h0=>?_,fun i hi=>?_⟩
   .rw[hrn listed hsz h0]at ht;exact hK a w ht
   obtain⟨hlt,hun,oi,hoi,hpre⟩:=Zo.1 hi;have hir:i∈Xs ops listed:=QK.2 ⟨hlt,hun⟩;have hset:=rest_set hsz hir;refine hstep _ i oi hoi hir (fun e he hb hm=>?_) a w ht _ fun a' w' hw=>?_
   .have h1:=hpre e (by simpa using he) hb;have h2:=QK.1 hm;have hel:e.on<listed.size:=by omega
    rw[Ns,NV hel]at h1;have h3:=h2.2;rw[Ns,NV hel]at h3;simp only[Option.getD_some]at h1 h3;rw[h1]at h3;cases h3
   refine ih (listed.setIfInBounds i true) a' w' (by simpa using hsz) ?_ (by rw[hset];exact hw) hK;obtain⟨x2,y2,g1,g2,_,_⟩:=split_at (Wo (ops:=ops) listed) hir;rw[hset,g2];rw[g1]at hlen;simp only[Nz,List.length_cons]at hlen⊢;omega
theorem wp_ind {id:Nat} {TR:List Nat->Act->World->Prop} {Q:Exit->Act->World->Prop} {a:Act} {w:World} (hm:P.follows .mixedOrders=true) (hfw:fwdB ops=true) (h0:TR (List.range ops.size) a {w with drawn:=w.drawn+1})
  (hstep:∀(R:List Nat) (i:Nat) (o:Oper),ops[i]? =some o->i∈R->(∀e∈o.after.toList,Region.binds .any e=true->e.on∉R)->∀a w,TR R a w->∀Kc,(∀a' w',TR (X0T R i) a' w'->Kc a' w')->wpOp P ops Q i Kc a w)
  (hq:∀a' w',TR [] a' w'->Q .normal a' w'):(Code.region id ops true).wp P Q a w:=by
 have hrest:Xs ops (Array.replicate ops.size false)=List.range ops.size:=by
  unfold Xs;refine Dg.2 fun i hi=>?_;have:i<ops.size:=by simpa using hi
  simp[this]
 refine wp_region_any hm (any_ind (P:=P) (ops:=ops) (TR:=TR) hfw hstep ops.size (Array.replicate ops.size false) a {w with drawn:=w.drawn+1} (by simp) (by rw[hrest];simp) (by rw[hrest];exact h0) hq)
end
end Go.Hl
namespace Go.Hl
open Go
def ConG2 (P:Program) (f g:FuncId) (e:TypeId) (sz:Nat) (rs rs':List (List CD)):Prop:=
 XX P f=true/\∀(F:Nat->Prop) (B:Nat->Prop) (w:World) (v:Value),Xn F w B e sz v rs->(∀b,F b->b<w.heap.size)->(∀b,blk v=some b->¬F b)->
  Calls P f #[v,.func (.func g) #[] #[]] w fun x w'=>x=.returned (.tuple #[])/\w'.os=w.os/\w'.tape=w.tape/\w'.output=w.output/\w.heap.size<=w'.heap.size/\(∀k,k<w.heap.size->blk v≠some k->w'.heap[k]? =w.heap[k]?)/\Xn F w' B e sz v rs'
def rowGP (s:HS) (o:Oper):Option (FuncId×FuncId×Nat×TypeId×Nat×List (List CD)×Nat):=
 match o.guard,o.op,o.dst with
 | none, .call {callee:=.value x,args:=args, .. },some d=>match X3n (opd s.regs x),args.toList with
   | some (f,[]),[y,z]=>match X3n (opd s.regs z)with
     | some (g,[])=>match opd s.regs y with
       | .v (.one (.own n))=>match lkp s.objs n with
         |some (.row e sz rs)=>if XP s (some d)=true/\0<rs.length then some (f,g,n,e,sz,rs,d)else none
         |_=>none
       |_=>none
     |_=>none
   |_,_=>none
 |_,_,_=>none
theorem Qh.rowG {P:Program} {ops:Array Oper} {k:Nat} {s:HS} {o:Oper} {f g:FuncId} {n d sz:Nat} {e:TypeId} {rs rs':List (List CD)} (h1:ops[k]? =some o) (h:rowGP s o=some (f,g,n,e,sz,rs,d))
  (hcon:ConG2 P f g e sz rs rs'):Qh P ops k 1 s (fun u=>u=({s with objs:=ins n (.row e sz rs') s.objs}:HS).put (some d) (.tup [])):=by
 intro w0 B U F T a w Q Xs hr hK;unfold rowGP at h;split at h
 .rename_i x as0 ats d1 hg ho hd1;split at h
  .rename_i f1 y z hx has;split at h
   .rename_i g1 hz;split at h
    .rename_i n1 hy;split at h
     .rename_i e1 sz1 rs1 hl;split at h
      .rename_i hc;obtain⟨hok,hlen0⟩:=hc;cases h;have eas:as0= #[y,z]:=by obtain⟨l⟩:=as0;simpa using has
       subst eas;obtain⟨hcall,hcon⟩:=hcon;obtain⟨cvs,hv,hcl,_⟩:=WJ hx (hr.opd x);have hcv:cvs=[]:=Nr (by simpa using hcl);subst hcv;have hv':a.eval x=.func (.func f) #[] #[]:=hv;obtain⟨cvz,hvz,hclz,_⟩:=WJ hz (hr.opd z);have hcz:cvz=[]:=Nr (by simpa using hclz);subst hcz;have hvz':a.eval z=.func (.func g) #[] #[]:=hvz;have hyv:=hr.opd y;rw[hy]at hyv;have hro:Xn F w B e sz (T n) rs:=hr.heap.ob n _ hl
       obtain⟨b,hb,hBn,hhd⟩:∃b,blk (T n)=some b/\Blk (T n) b/\hd (T n)=T n:=by
        obtain⟨_,_,xs,hown,_⟩:=hro;rcases hown.2 with⟨_,hn⟩|⟨b,oo,cap,cur,hv,_⟩
        .omega
        rw[hv];exact⟨b,rfl,rfl,rfl⟩
       have hγ:a.eval y=T n:=by rw[<-hhd];exact hyv.1
       have hrun:(execOp a.eval o).run P w=.ok (.enter f (#[y,z].map a.eval)) w:=by
        unfold XX at hcall;split at hcall
        .rename_i fn hfn;simp only[N4,Nm]at hcall;have hnm:¬fn.name= "runtime.NumGoroutine" :=by simpa using hcall.1
         have hnb:¬fn.body=none:=by
          intro hb;rw[hb]at hcall;cases hcall.2
         simp[execOp,ho,resolve,hv',Deferred.ofValue,invoke,callFunc,hfn,hnm,hnb]
        cases hcall
       show wpOps P ops Q (k::Xs) a w;rw[wpOps_cons];unfold wpOp;rw[h1];simp only;have hwant:Region.wanted o (yielded ops a.tmps)=true:=by unfold Region.wanted;rw[hg]
       rw[hwant];simp only[Nd];refine .inl ?_;unfold Oper.wp;rw[hrun,Oper.upon_enter];have hargs:(#[y,z].map a.eval:Array Value)= #[T n,.func (.func g) #[] #[]]:=by simp[hγ,hvz']
       rw[hargs];refine(hcon F B w (T n) hro hr.heap.fsz (fun c hc=>hr.heap.apart n _ hl c (by rw[hb]at hc;cases hc;exact hBn))).mono ?_;rintro zz w' ⟨rfl,q1,q2,q3,q4,q5,hro'⟩;have hkeep:∀c,c<w.heap.size->c≠b->w'.heap[c]? =w.heap[c]? :=fun c hc hne=>q5 c hc fun e=>hne (by rw[hb]at e;cases e;rfl);have hFk:∀c,F c->w'.heap[c]? =w.heap[c]? :=fun c hc=>hkeep c (hr.heap.fsz c hc) fun e'=>hr.heap.apart n _ hl b hBn (e'▸hc);have hkp:Kept B w0 w':=hr.heap.below.trans ⟨q1,q2,q3,q4,fun c hc=>hkeep c (hr.heap.hB c hc) fun e'=>((hr.heap.ob n _ hl).blk_lt hBn).1 (e'▸hc)⟩;have hob:XR F T w' B (T n) (.row e sz rs'):=hro';refine hK _ F T _ _ rfl (fun _ h=>h) (fun _ h=>.inl h) ?_;rw[hd1];exact hr.step (dst:=some d) hok (F':=F) (T':=T) (hr.heap.wrote hl (b:=b) hBn hkp q4 (fun c hc hne=>hkeep c hc hne) hob) ⟨#[],rfl,rfl,fun j t u h1 h2=>by simp at h1⟩ fun _ _ _ _ hv=>hv.mono (fun _ h=>h) hFk
      cases h
     cases h
    cases h
   cases h
  cases h
 cases h
theorem RunsN.rowG {P:Program} {ops:Array Oper} {l:List Oper} {s:HS} {K:HS->Prop} {o:Oper} {f g:FuncId} {n d sz:Nat} {e:TypeId} {rs rs':List (List CD)} (h:rowGP s o=some (f,g,n,e,sz,rs,d)) (hcon:ConG2 P f g e sz rs rs')
  (hr:RunsN P ops l (({s with objs:=ins n (.row e sz rs') s.objs}:HS).put (some d) (.tup [])) K):RunsN P ops (o::l) s K:=by
 refine .many (M:=fun u=>u=_) 1 (fun k hk=>?_) fun u hu=>by rw[hu];exact hr
 exact Qh.rowG (hk 0 o rfl) h hcon
end Go.Hl
namespace Go.Hl
open Go Go.RowKit
def oL {T:Type} (c:Bool) (p:Nat×T) (l:List (Nat×T)):List (Nat×T):=if c=true then p::l else l
section
variable {T Y:Type} {c:Bool} {k n m:Nat} {x y:T} {l:List (Nat×T)} {p:Nat×T}
@[simp] theorem oL_t:oL true p l=p::l:=rfl
@[simp] theorem oL_f:oL false p l=l:=rfl
@[simp] theorem lkp_oL:lkp (oL c (k,x) l) m=if k=m then(if c=true then some x else lkp l m)else lkp l m:=by
  cases c
  .simp
  simp[lkp]
def gtL (n:Nat) (l:List (Nat×T)):Bool:=l.all fun p=>decide (n<p.1)
@[simp] theorem gt_nil:gtL n ([]:List (Nat×T))=true:=rfl
@[simp] theorem gt_cons:gtL n ((k,x)::l)=(decide (n<k)&&gtL n l):=rfl
@[simp] theorem gt_oL:gtL n (oL c (k,x) l)=((!c||decide (n<k))&&gtL n l):=by cases c<;>simp
theorem gtL_mem (h:gtL n l=true):∀q∈l,n<q.1:=by
 unfold gtL at h;simpa using h
theorem X9m (h:gtL n l=true):ins n x l=(n,x)::l:=by
 cases l with
 |nil=>rfl
 | cons q l=>
   obtain⟨k,y⟩:=q;have:=gtL_mem h (k,y) (by simp);simp only[ins];rw[N9 this]
@[simp] theorem X9d (h:n<k) (hl:gtL n l=true):ins n x (oL c (k,y) l)=(n,x)::oL c (k,y) l:=X9m (by simp[h,hl])
@[simp] theorem ins_oL_gt0 (h:n<k):ins n x (oL c (k,y) [])=(n,x)::oL c (k,y) []:=X9d h rfl
@[simp] theorem ins_oL_lt (h:k<n):ins n x (oL c (k,y) l)=oL c (k,y) (ins n x l):=by
  cases c
  .rfl
  simp only[oL_t,ins];rw[N6 (by omega),N6 (by omega)]
@[simp] theorem del_oL:del n (oL c (k,y) l)=if k=n then del n l else oL c (k,y) (del n l):=by
  cases c
  .simp
  simp[del]
@[simp] theorem mapL_oL {f:T->Y}:Zy f (oL c (k,y) l)=oL c (k,f y) (Zy f l):=by cases c<;>rfl
@[simp] theorem all_oL {f:Nat×T->Bool}:(oL c p l).all f=((!c||f p)&&l.all f):=by cases c<;>simp
theorem gt_trans (h:k<m) (hl:gtL m l=true):gtL k l=true:=by
 unfold gtL at hl⊢;rw[Nl]at hl⊢;intro q hq;have:=hl q hq;simp only[N5]at this⊢;omega
theorem X5X:∀{l:List (Nat×T)} {k:Nat} {x:T},Q7 ((k,x)::l)=(gtL k l&&Q7 l)
 |[],_,_=>rfl
 | (m,y)::l,k,x=>by
   have ih:=X5X (l:=l) (k:=m) (x:=y);show(decide (k<m)&&Q7 ((m,y)::l))=_;rw[gt_cons,ih];by_cases hk:k<m
   .cases hg:gtL m l
    .simp
    simp[gt_trans hk hg]
   simp[hk]
@[simp ↓] theorem sort_upS:Q7 ((k,x)::l)=(gtL k l&&Q7 l):=X5X
@[simp] theorem mt_oL:Q7.match_1 (fun _=>Bool) (oL c (k,x) l) (fun _=>true) (fun m _ _=>decide (n<m))=if c=true then decide (n<k)else Q7.match_1 (fun _=>Bool) l (fun _=>true) (fun m _ _=>decide (n<m)):=by cases c<;>rfl
@[simp] theorem sort_oL:Q7 (oL c (k,x) l)=((!c||gtL k l)&&Q7 l):=by
  cases c
  .simp
  exact X5X
end
theorem WD {s t:HS} (h:s=t):le s t:=h▸le_refl s
section
variable {P:Program} {ops:Array Oper}
theorem Qa.evZ {i:Nat} {o:Oper} {s t u:HS} {p:Prop} (cs:List CR) (ho:ops[i]? =some o) (h:evc P ops [o] s cs=some (t,p)) (hp:p) (hl:Hl.le t u):Qa P ops i s (fun v=>Hl.le v u):=.ev cs ho h hp hl
def psB (ops:Array Oper) (ps:List (Nat×List Nat×List Nat)):Bool:=(List.range ops.size).all fun i=>match ps[i]? with
 |some (j,l,m)=>j==i&&(l.all fun p=>decide (p<ops.size)&&X0z ops ops.size i p)&&m.all fun q=>decide (q<ops.size)&&X0z ops ops.size q i
 |_=>false
theorem X2F {ops:Array Oper} {R:List Nat} (hcl:∀j∉R,∀o,ops[j]? =some o->∀e∈o.after.toList,Region.binds .any e=true->e.on∉R):∀(n i p:Nat),(∀o,ops[i]? =some o->∀e∈o.after.toList,Region.binds .any e=true->e.on∉R)->X0z ops n i p=true->p∉R
 |0,_,_,_,h=>by cases h
 | n +1,i,p,hi,h=>by
   unfold X0z at h;split at h
   .rename_i o ho;simp only[List.any_eq_true,N4,Ni,beq_iff_eq]at h;obtain⟨e,he,hb,h|h⟩:=h
    .rw[<-h];exact hi o ho e he hb
    exact X2F hcl n e.on p (hcl _ (hi o ho e he hb)) h
   cases h
def X7r (P:Program) (ops:Array Oper) (nx:(Nat->Bool)->HS) (D:Nat->Bool):List (Nat×List Nat×List Nat)->Prop
 |[]=>True
 |(i,ps,qs)::l=>(D i=false->allM (fun p=>D p=true) ps->allM (fun p=>D p=false) qs->Qa P ops i (nx D) (fun u=>le u (nx fun j=>decide (j=i)||D j)))/\X7r P ops nx D l
theorem X5g {Y:Type} {p:Y->Prop}:∀{l:List Y},(∀x∈l,p x)->allM p l
 |[],_=>trivial
 |[x],h=>h x (by simp)
 |x::y::l,h=>⟨h x (by simp),X5g fun z hz=>h z (Nu _ hz)⟩
theorem X4k {nx:(Nat->Bool)->HS} {D:Nat->Bool}:∀{l:List (Nat×List Nat×List Nat)},X7r P ops nx D l->∀i ps qs,(i,ps,qs)∈l->D i=false->(∀p∈ps,D p=true)->(∀p∈qs,D p=false)->Qa P ops i (nx D) (fun u=>le u (nx fun j=>decide (j=i)||D j))
 | (j,ps',qs')::l,h,i,ps,qs,hi,h1,h2,h3=>by
   rcases Np.1 hi with e|hi
   .cases e;exact h.1 h1 (X5g h2) (X5g h3)
   exact X4k h.2 i ps qs hi h1 h2 h3
def dnD (n:Nat) (R:List Nat):Nat->Bool:=fun j=>decide (j<n)&& !R.contains j
theorem X23 {id:Nat} (nx:(Nat->Bool)->HS) (ps:List (Nat×List Nat×List Nat)) {s:HS} {Q:Exit->HS->Prop} (hm:P.follows .mixedOrders=true) (hfw:fwdB ops=true) (hps:psB ops ps=true)
  (h0:le s (nx fun _=>false)) (hstep:∀D:Nat->Bool,X7r P ops nx D ps) (hq:Q .normal (nx fun j=>decide (j<ops.size))):HT P (.region id ops true) s Q:=by
 intro w0 B U F T a w hr;have hr':Rel w0 B U F T s a {w with drawn:=w.drawn+1}:=⟨hr.heap.drew,hr.defers,hr.nt,fun k r hk=>(hr.regs k r hk).mono (w:=w) (w':={w with drawn:=w.drawn+1}) (fun _ h=>h) fun _ _=>rfl⟩
 have hget:∀i,i<ops.size->∃l m,ps[i]? =some (i,l,m)/\(∀p∈l,p<ops.size/\X0z ops ops.size i p=true)/\∀q∈m,q<ops.size/\X0z ops ops.size q i=true:=by
  intro i hlt;unfold psB at hps;rw[Nl]at hps;have:=hps i (by simpa using hlt);split at this
  .rename_i e2;simp only[N4,beq_iff_eq,Nl,N5]at this;obtain⟨⟨rfl,h⟩,h'⟩:=this;exact⟨_,_,e2,h,h'⟩
  cases this
 let TR:List Nat->Act->World->Prop:=fun R a' w'=>(∀j∉R,∀o,ops[j]? =some o->∀e∈o.after.toList,Region.binds .any e=true->e.on∉R)/\∃F' T',(∀b,F b->F' b)/\(∀b,F' b->F b\/¬B b)/\Rel w0 B U F' T' (nx (dnD ops.size R)) a' w'
 refine wp_ind (TR:=TR) hm hfw ?_ ?_ ?_
 .refine⟨fun j hj o ho=>absurd (by simpa using(NE.1 ho).1) hj,?_⟩;obtain⟨F1,γ1,h1,h2,h3⟩:=h0 w0 B U F T a _ hr';refine⟨F1,γ1,h1,h2,?_⟩
  have e:dnD ops.size (List.range ops.size)=fun _=>false:=by
   funext j
   simp[dnD]
  rw[e];exact h3
 .rintro R i o ho hi hpre a1 w1 ⟨hcl,F1,γ1,h1,h2,h3⟩ Kc hK;have hlt:i<ops.size:=(NE.1 ho).1;obtain⟨l,m,hps0,hps2,hps3⟩:=hget i hlt;have hpre':∀o,ops[i]? =some o->∀e∈o.after.toList,Region.binds .any e=true->e.on∉R:=fun o' ho'=>by rw[ho]at ho';cases ho';exact hpre
  refine X4k (hstep (dnD ops.size R)) i l m (N3 hps0) (by simp[dnD,hi]) (fun p hp=>?_) (fun q hq=>?_) w0 B U F1 γ1 a1 w1 Kc _ h3 fun s' F' T' a' w' hw g1 g2 g3=>?_
  .obtain⟨hpl,hpp⟩:=hps2 p hp;have:=X2F hcl _ _ _ hpre' hpp;simp[dnD,hpl,this]
  .obtain⟨hql,hqq⟩:=hps3 q hq;have:q∈R:=Classical.byContradiction fun hn=>X2F hcl _ _ _ (hcl q hn) hqq hi;simp[dnD,this]
  obtain⟨F2,γ2,g4,g5,g6⟩:=hw w0 B U F' T' a' w' g3;refine hK a' w' ⟨fun j hj o' ho' e he hb=>?_,F2,γ2,fun b hb=>g4 b (g1 b (h1 b hb)),fun b hb=>(g5 b hb).elim (fun hb=>(g2 b hb).elim (h2 b) .inr) .inr,?_⟩
  .rw[X9k]at hj⊢;rintro⟨hpR,hpi⟩;by_cases hji:j=i
   .subst hji;exact hpre' o' ho' e he hb hpR
   exact hcl j (fun hjR=>hj ⟨hjR,hji⟩) o' ho' e he hb hpR
  have e:dnD ops.size (X0T R i)=fun j=>decide (j=i)||dnD ops.size R j:=by
   funext j
   by_cases hj:j=i
   .subst hj;simp[dnD,X0T,hlt]
   simp[dnD,X0T,hj]
  rw[e];exact g6
 rintro a1 w1 ⟨_,F1,γ1,h1,h2,h3⟩
 have e:dnD ops.size []=fun j=>decide (j<ops.size):=by
  funext j
  simp[dnD]
 rw[e]at h3;exact⟨_,F1,γ1,hq,h1,h2,h3⟩
end
def nlC (x y:CD):Prop:=x=y\/(x=.lit XZ/\∃s,y=.sl s [])
def nlL:List CD->List CD->Prop
 |[],[]=>True
 |x::l,y::m=>nlC x y/\nlL l m
 |_,_=>False
def nlR:List (List CD)->List (List CD)->Prop
 |[],[]=>True
 |x::l,y::m=>nlL x y/\nlR l m
 |_,_=>False
@[simp] theorem nlC_refl (x:CD):nlC x x:=.inl rfl
@[simp] theorem nlC_nil (s:Nat):nlC (.lit (.slice none 0 0)) (.sl s []):=.inr ⟨rfl,s,rfl⟩
@[simp] theorem X4b:∀l:List CD,nlL l l
  |[]=>trivial
  |x::l=>⟨nlC_refl x,X4b l⟩
@[simp] theorem nlR_refl:∀l:List (List CD),nlR l l
  |[]=>trivial
  |x::l=>⟨X4b x,nlR_refl l⟩
theorem X1T {a b:List (List CD)}:∀l:List (List CD),nlR a b->nlR (l++a) (l++b)
 |[],h=>h
 |x::l,h=>⟨X4b x,X1T l h⟩
theorem X8j {F:Nat->Prop} {w:World} {x y:CD} {v:Value} (h:nlC x y) (hr:CRel F w x v):CRel F w y v:=by
 rcases h with rfl|⟨rfl,s,rfl⟩
 .exact hr
 cases hr;exact .nil s
theorem X5Z:∀{l m:List CD},nlL l m->l.length=m.length/\∀(j:Nat) y,m[j]? =some y->∃x,l[j]? =some x/\nlC x y
 |[],[],_=>⟨rfl,fun j y h=>by simp at h⟩
 | x::l,y::m,h=>by
   obtain⟨h1,h2⟩:=X5Z h.2;refine⟨by simp[h1],fun j z hz=>?_⟩;cases j with
   |zero=>simp only[List.getElem?_cons_zero,Option.some.injEq]at hz;subst hz;exact⟨x,rfl,h.1⟩
   |succ j=>simpa using h2 j z (by simpa using hz)
 |[],_::_,h=>h.elim
 |_::_,[],h=>h.elim
theorem X8S:∀{l m:List (List CD)},nlR l m->l.length=m.length/\∀(j:Nat) y,m[j]? =some y->∃x,l[j]? =some x/\nlL x y
 |[],[],_=>⟨rfl,fun j y h=>by simp at h⟩
 | x::l,y::m,h=>by
   obtain⟨h1,h2⟩:=X8S h.2;refine⟨by simp[h1],fun j z hz=>?_⟩;cases j with
   |zero=>simp only[List.getElem?_cons_zero,Option.some.injEq]at hz;subst hz;exact⟨x,rfl,h.1⟩
   |succ j=>simpa using h2 j z (by simpa using hz)
 |[],_::_,h=>h.elim
 |_::_,[],h=>h.elim
theorem le_rwO {x:HS} (n:Nat) {o o':Ob} (h:lkp x.objs n=some o) (hr0:∀(F:Nat->Prop) (T:Nat->Value) (w:World) (B:Nat->Prop) (v:Value),XR F T w B v o->XR F T w B v o'):le x {x with objs:=rwO n o' x.objs}:=by
 intro w0 B U F T a w hr
 have hk:∀m o2,lkp (rwO n o' x.objs) m=some o2->∃o0,lkp x.objs m=some o0/\(XR F T w B (T m) o0->XR F T w B (T m) o2):=by
  intro m o2 hm;rcases X5R hm with⟨rfl,rfl⟩|h1
  .exact⟨_,h,hr0 F T w B _⟩
  exact⟨o2,h1,id⟩
 refine⟨F,T,fun _ h=>h,fun _ h=>.inl h,⟨?_,hr.defers,hr.nt,hr.regs⟩⟩
 exact {
  below:=hr.heap.below
  hB:=hr.heap.hB
  fsz:=hr.heap.fsz
  ob:=fun m o hm=>by obtain⟨o0,h1,h2⟩:=hk m o hm;exact h2 (hr.heap.ob m o0 h1)
  apart:=fun m o hm=>by obtain⟨o0,h1,_⟩:=hk m o hm;exact hr.heap.apart m o0 h1
  sep:=fun m1 m2 o1 o2 hm1 hm2=>by obtain⟨a1,h1,_⟩:=hk m1 o1 hm1;obtain⟨a2,h2,_⟩:=hk m2 o2 hm2;exact hr.heap.sep m1 m2 a1 a2 h1 h2
  pin:=hr.heap.pin}
theorem X3U {x:HS} (n:Nat) {e:TypeId} {s:Nat} {rows rows':List (List CD)} (h:lkp x.objs n=some (.row e s rows)) (hnl:nlR rows rows'):le x {x with objs:=rwO n (.row e s rows') x.objs}:=by
 obtain⟨hl,hg⟩:=X8S hnl;refine le_rwO n h fun F T w B v h0=>?_;obtain⟨h1,h2,xs,h3,h4,h5⟩:=h0;refine⟨h1,fun r hr=>?_,xs,by rw[<-hl];exact h3,h4,fun i j d hd=>?_⟩
 .obtain⟨i,hi⟩:=NH.1 hr;obtain⟨r0,h6,h7⟩:=hg i r hi;rw[<-(X5Z h7).1];exact h2 r0 (N3 h6)
 unfold XM at hd;cases hi:rows'[i]? with
 |none=>rw[hi]at hd;cases hd
 | some r=>
   rw[hi]at hd;obtain⟨r0,h6,h7⟩:=hg i r hi;obtain⟨d0,h8,h9⟩:=(X5Z h7).2 j d hd;obtain⟨u,hu,hc⟩:=h5 i j d0 (by unfold XM;rw[h6];exact h8);exact⟨u,hu,X8j h9 hc⟩
def nlV:List CV->List CV->Prop
 |[],[]=>True
 |x::l,y::m=>(x=y\/(∃a b,x=.c a/\y=.c b/\nlC a b)\/∃f,x=.fn f []/\y=.c (.fn f []))/\nlV l m
 |_,_=>False
theorem X8J:∀{l m:List CV},nlV l m->l.length=m.length/\∀(j:Nat) y,m[j]? =some y->∃x,l[j]? =some x/\(x=y\/(∃a b,x=.c a/\y=.c b/\nlC a b)\/∃f,x=.fn f []/\y=.c (.fn f []))
 |[],[],_=>⟨rfl,fun j y h=>by simp at h⟩
 | x::l,y::m,h=>by
   obtain⟨h1,h2⟩:=X8J h.2;refine⟨by simp[h1],fun j z hz=>?_⟩;cases j with
   |zero=>simp only[List.getElem?_cons_zero,Option.some.injEq]at hz;subst hz;exact⟨x,rfl,h.1⟩
   |succ j=>simpa using h2 j z (by simpa using hz)
 |[],_::_,h=>h.elim
 |_::_,[],h=>h.elim
theorem X8r {F:Nat->Prop} {T:Nat->Value} {w:World} {xs ys:List CV} {vs:Array Value} (h:nlV xs ys) (hr:Xk F T w xs vs):Xk F T w ys vs:=by
 obtain⟨hl,hg⟩:=X8J h;refine⟨by rw[<-hl];exact hr.1,fun j y u hy hu=>?_⟩;obtain⟨x,hx,hxy⟩:=hg j y hy;have:=hr.2 j x u hx hu;rcases hxy with rfl|⟨a,b,rfl,rfl,hab⟩|⟨f,rfl,rfl⟩
 .exact this
 .exact X8j hab this
 obtain⟨us,hv,hl,_⟩:=this;have e:us=[]:=Nr (by simpa using hl);subst e;subst hv;exact CRel.fn f [] [] rfl fun j d u hd hu=>by simp at hd
theorem X60 {x:HS} (n:Nat) {xs ys:List CV} (h:lkp x.objs n=some (.box xs)) (hnl:nlV xs ys):le x {x with objs:=rwO n (.box ys) x.objs}:=
 le_rwO n h fun F T w B v h0=>by
  obtain⟨b,e,vs,h1,h2,h3,h4⟩:=h0;exact⟨b,e,vs,h1,h2,h3,X8r hnl h4⟩
theorem le_nlK {s:HS} {xs ys:List CV} (k:Nat) (hk:lkp s.regs k=some (.v (.agg xs))) (h:nlV xs ys):le s {s with regs:=ins k (.v (.agg ys)) s.regs}:=by
 intro w0 B U F T a w hr;refine⟨F,T,fun _ h=>h,fun _ h=>.inl h,hr.heap,hr.defers,hr.nt,fun j r hj=>?_⟩;by_cases e1:j=k
 .subst e1;rw[XS]at hj;simp only[Nd,Option.some.injEq]at hj;subst hj;obtain⟨vs,h1,h2⟩:=hr.regs j _ hk;exact⟨vs,h1,X8r h h2⟩
 rw[Xq e1]at hj;exact hr.regs j r hj
end Go.Hl
