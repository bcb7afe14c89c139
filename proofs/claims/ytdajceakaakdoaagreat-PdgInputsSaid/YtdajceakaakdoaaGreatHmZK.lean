/- HmZK: part of an evaluator of Go code over abstract states, proved sound over the model; used by the proof of the claimed statement. Conditions: none. -/
import Derived.Test.YtdajceakaakdoaaGreatHmZJ
set_option maxRecDepth 100000
set_option linter.unusedSimpArgs false
set_option linter.unusedVariables false
set_option linter.unusedSimpArgs false
set_option linter.unusedVariables false
namespace Go.Hl
open Go Go.RowKit
def CV.mv (n d:Nat):CV→CV
 | .own m=>if m=n then .own d else .own m
 |x=>x
def TV.mv (n d:Nat):TV→TV
 | .one x=>.one (x.mv n d)
 | .agg xs=>.agg (xs.map (CV.mv n d))
def RV.mv (n d:Nat):RV→RV
 | .v t=>.v (t.mv n d)
 | .tup ts=>.tup (ts.map (TV.mv n d))
def Ob.mv (n d:Nat):Ob→Ob
 | .box cs=>.box (cs.map (CV.mv n d))
 |o=>o
section
variable {P:Program} {F:Nat→Prop} {γ γ':Nat→Value} {w w' w0:World} {B:Nat→Prop} {π:Nat→Option Value}
theorem Xn.mv {n d:Nat} (hh:hd (γ d)=hd (γ n)) {x:CV} {v:Value} (h:Xn F γ w x v):Xn F γ w (x.mv n d) v:=by
 cases x with
 | own m=>
   simp only[CV.mv];split
   · rename_i e;subst e;exact⟨by rw[hh];exact h.1,h.2⟩
   exact h
 |_=>exact h
theorem Xk.mv {n d:Nat} (hh:hd (γ d)=hd (γ n)) {xs:List CV} {vs:Array Value} (h:Xk F γ w xs vs):Xk F γ w (xs.map (CV.mv n d)) vs:=by
 refine⟨by simpa using h.1,fun j x u hx hu=>?_⟩;rw[List.getElem?_map]at hx;simp only[Option.map_eq_some_iff]at hx;obtain⟨y,hy,rfl⟩:=hx;exact(h.2 j y u hy hu).mv hh
theorem XD.mv {n d:Nat} (hh:hd (γ d)=hd (γ n)) {x:TV} {v:Value} (h:XD F γ w x v):XD F γ w (x.mv n d) v:=by
 cases x with
 |one x=>exact Xn.mv hh h
 |agg xs=>obtain⟨vs,rfl,hc⟩:=h;exact⟨vs,rfl,hc.mv hh⟩
theorem X9.mv {n d:Nat} (hh:hd (γ d)=hd (γ n)) {x:RV} {v:Value} (h:X9 F γ w x v):X9 F γ w (x.mv n d) v:=by
 cases x with
 |v t=>exact XD.mv hh h
 | tup ts=>
   obtain⟨vs,rfl,hs,hc⟩:=h;refine⟨vs,rfl,by simpa using hs,fun j x u hx hu=>?_⟩;rw[List.getElem?_map]at hx;simp only[Option.map_eq_some_iff]at hx;obtain⟨y,hy,rfl⟩:=hx;exact(hc j y u hy hu).mv hh
theorem XT.mv {n d:Nat} (hh:hd (γ d)=hd (γ n)) {x:Value} {o:Ob} (h:XT F γ w B x o):XT F γ w B x (o.mv n d):=by
 cases o with
 |box cs=>obtain⟨b,e,vs,h1,h2,h3,h4⟩:=h;exact⟨b,e,vs,h1,h2,h3,h4.mv hh⟩
 |_=>exact h
theorem HeapRel.mv {n d:Nat} {objs:List (Nat×Ob)} (hh:hd (γ d)=hd (γ n)) (h:HeapRel w0 B π F γ objs w):HeapRel w0 B π F γ (Ws (Ob.mv n d) objs) w:=by
 have hl:∀m o,lkp (Ws (Ob.mv n d) objs) m=some o→∃o0,lkp objs m=some o0∧o=o0.mv n d:=by
  intro m o ho;rw[Zs]at ho;simp only[Option.map_eq_some_iff]at ho;obtain⟨o0,h1,rfl⟩:=ho;exact⟨o0,h1,rfl⟩
 exact {
  below:=h.below
  hB:=h.hB
  fsz:=h.fsz
  ob:=fun m o ho=>by
   obtain⟨o0,h1,rfl⟩:=hl m o ho;exact(h.ob m o0 h1).mv hh
  apart:=fun m o ho=>by
   obtain⟨o0,h1,_⟩:=hl m o ho;exact h.apart m o0 h1
  sep:=fun m k om ok hm hk=>by
   obtain⟨o1,h1,_⟩:=hl m om hm;obtain⟨o2,h2,_⟩:=hl k ok hk;exact h.sep m k o1 o2 h1 h2
  pin:=h.pin}
theorem Qh {ops:Array Oper} {i:Nat} {o:Oper} {a:Act} {Q:Exit→Act→World→Prop} {Kc:Act→World→Prop} {nx:Next} {v:Value} (hi:ops[i]? =some o) (hgd:o.guard=none) (hrun:(execOp a.eval o).run P w=.ok nx w')
  (hnx:nx=.value v∨nx=.skip∧v=undef) (hk:Kc (a.put o.dst v) w'):wpOp P ops Q i Kc a w:=by
 unfold wpOp;rw[hi];simp only;have hwant:Region.wanted o (yielded ops a.tmps)=true:=by unfold Region.wanted;rw[hgd]
 rw[hwant];simp only[if_true];refine .inl ?_;unfold Oper.wp;rw[hrun];rcases hnx with rfl|⟨rfl,rfl⟩
 · exact hk
 exact hk
theorem X9j {objs:List (Nat×Ob)} {t tE e e' ty:TypeId} {te tte:TI} {s n i d:Nat} {rows:List (Option (List (List CD)))} {rs more:List (List CD)} {v src:Value} (hh:HeapRel w0 B π F γ objs w)
  (hl:lkp objs n=some (.mat e e' s rows)) (hri:rows[i]? =some (some rs)) (hv:Xn F γ w (.sub n i) v) (hdn:∀m o,lkp objs m=some o→m≠d∧¬o.men d) (hd6:d<1000000)
  (hu:P.underlying t=some (.slice e')) (hti:XF P e'=some te) (hts:te.size=s) (hzl:te.zero.length=te.size) (htte:XF P tE=some tte) (hs1:tte.size=1)
  (hms:∀r∈more,r.length=te.size)
  (hsrc:(src=.slice none 0 0∧more=[])∨∃a c,∃news:List Value,src=.slice (some a) more.length c∧news.length=more.length*te.size∧
   (∀j u,news[j]? =some u→w.cell? (a.add j)=some u)∧(∀u∈news,u.oneCell'=true)∧
   ∀i j d,XG more i j=some d→∃u,news[i*te.size+j]? =some u∧CRel F w d u)
  (hmax:rs.length+more.length≤maxLen) (hby:(rs.length+more.length)*te.bytes≤140737488355328):
  ∃(b oo len cap:Nat) (v':Value) (w1 W:World) (x:Value),hd (γ n)=.slice (some ⟨b,oo,none⟩) len cap∧i<len∧(Builtin.append_ #[t,t] ty #[v,src]).run P w=.ok v' w1∧
   (storeVar tE ⟨b,oo+i,none⟩ v').run P w1=.ok () W∧hd x=hd (γ n)∧HeapRel w0 B π F (upd γ d x) (ins d (.mat e e' s (rows.set i (some (rs++more)))) (del n objs)) W∧(∀c,F c→W.heap[c]? =w.heap[c]?):=by
 obtain⟨o',is,hγ,h0,hlen,⟨xs,hown,hxs⟩,hin,hd1,hd2⟩:=hh.ob n _ hl;obtain⟨vs,hγ',hvi,hv1,hvu⟩:=hv;rw[hγ]at hγ';cases hγ';have hvi':is[i]? =some v:=by simpa using hvi
 have hlt:i<rows.length:=(List.getElem?_eq_some_iff.1 hri).1;have hil:i<is.length:=by rw[hlen];exact hlt
 have hro:Xr F w B e' s v rs:=hin i v (some rs) hvi' hri;obtain⟨_,hss,xv,hownv,hx1,hxc⟩:=hro;have hvsl:=hownv.sl;have hbv:∀b,v.ownBlock=some b→Blk (γ n) b:=fun b hb=>by rw[hγ];exact⟨v,by simp[List.mem_of_getElem? hvi'],by rw[X0i hvsl];exact hb⟩
 obtain⟨v',w1,hrun,hgr,hblk,hform,hF1,hrow⟩:=X14 (P:=P) (w:=w) (B:=B) (F:=F) (ty:=ty) (src:=src) (more:=more) (rows:=rs) (v:=v) (xs:=xv) hu hti (by omega) hzl (by rw[hts];exact hownv) hh.hB
  (by rw[hts];exact hss) hx1 (by rw[hts];exact hxc) hms hsrc hmax hby hh.fsz (fun b hb=>hh.apart n _ hl b (hbv b hb))
 have hrow:Xr F w1 B e' s v' (rs++more):=by rw[←hts];exact hrow γ
 obtain⟨ti',td,z,hi,htd,hz,g1,g2,g3,g4,g5⟩:=XC htte;rcases hown.2 with⟨hn,hz0⟩|⟨b,oo,cap,cur,hob,hBb,hhb,hrest⟩
 · omega
 subst hob;have hBn:Blk (γ n) b:=by rw[hγ];exact⟨.slice (some ⟨b,oo,none⟩) rows.length cap,by simp,rfl⟩
 have hFb:¬F b:=hh.apart n _ hl b hBn;have hbs:b<w.heap.size:=((hh.ob n _ hl).blk_lt hBn).2;have hb1:w1.heap[b]? =w.heap[b]? :=hgr.block b hbs fun e'=>hd1 i v b hvi' (by rw[X0i hvsl];exact e'.symm) rfl;have hown1:Qy w1 B e 1 (.slice (some ⟨b,oo,none⟩) rows.length cap) rows.length xs:=hown.mono fun c hc=>by cases hc;exact hb1
 have hone:v'.oneCell'=true:=by obtain⟨_,_,_,rfl⟩:=hform;rfl
 have hcy:v'.cells= #[v']:=X0N hone;have hk1:Kept B w0 w1:=hh.below.grown hgr hh.hB fun k hk hx=>((hh.ob n _ hl).blk_lt (hbv k hk)).1 hx;obtain⟨W,hrunW,hWo,hWs,hWB,hownW⟩:=X25 (P:=P) hi (v:=v') (by rw[hcy,g1,hs1];rfl) (by rw[hcy];simpa using hone) hown1 (k:=i) (by rw[hcy];simp;omega) hk1;have hFW:∀c,F c→W.heap[c]? =w.heap[c]? :=fun c hc=>(hWo c fun e'=>hFb (e'▸hc)).trans (hF1 c hc)
 -- what blocks the new header may name
 have hvb:∀c,blk v'=some c→w.heap.size≤c∨blk v=some c:=fun c hc=>(hblk c hc).imp id fun h=>by rw[X0i hvsl];exact h
 have hnb:∀c,blk v'=some c→c≠b∧∀(k:Nat) u,k≠i→is[k]? =some u→blk u≠some c:=by
  intro c hc;refine⟨fun e'=>?_,fun k u hk hu hcu=>?_⟩
  · subst e';rcases hvb c hc with h|h
    · omega
    exact hd1 i v c hvi' h rfl
  rcases hvb c hc with h|h
  · have:=((hh.ob n _ hl).blk_lt (by rw[hγ];exact⟨u,by simp[List.mem_of_getElem? hu],hcu⟩:Blk (γ n) c)).2;omega
  exact hd2 k i u v c hu hvi' hk hcu h
 have hset:∀(k:Nat) u r,(is.set i v')[k]? =some u→(rows.set i (some (rs++more)))[k]? =some r→(k=i∧u=v'∧r=some (rs++more))∨(k≠i∧is[k]? =some u∧rows[k]? =some r):=by
  intro k u r hu hr;by_cases e':k=i
  · subst e';rw[List.getElem?_set_self hil]at hu;rw[List.getElem?_set_self hlt]at hr;cases hu;cases hr;exact .inl ⟨rfl,rfl,rfl⟩
  rw[List.getElem?_set_ne (Ne.symm e')]at hu hr;exact .inr ⟨e',hu,hr⟩
 have hset1:∀(k:Nat) u,(is.set i v')[k]? =some u→(k=i∧u=v')∨(k≠i∧is[k]? =some u):=by
  intro k u hu;by_cases e':k=i
  · subst e';rw[List.getElem?_set_self hil]at hu;cases hu;exact .inl ⟨rfl,rfl⟩
  rw[List.getElem?_set_ne (Ne.symm e')]at hu;exact .inr ⟨e',hu⟩
 refine⟨b,oo,rows.length,cap,v',w1,W,.agg (.slice (some ⟨b,oo,none⟩) rows.length cap::is.set i v').toArray,by rw[hγ];rfl,hlt,hrun,hrunW,by rw[hγ];rfl,?_,hFW⟩;refine hh.moved (ns:=[n]) (by simp[hl]) (fun m o hm=>?_) hdn hWB (by rw[hWs];exact hgr.size) (fun k hk hne=>?_) ?_ hd6 ?_
 · obtain⟨h1,h2⟩:=Q8 hm;exact⟨by simpa using h1,h2⟩
 · rw[hWo k fun e'=>hne n (by simp) (e'▸hBn)];exact hgr.block k hk fun e'=>hne n (by simp) (hbv k e'.symm)
 · rintro c ⟨u,hu,huc⟩;simp only[List.mem_cons]at hu;rcases hu with rfl|hu
   · exact .inr ⟨n,by simp,by cases huc;exact hBn⟩
   rcases List.mem_or_eq_of_mem_set hu with hu|rfl
   · exact .inr ⟨n,by simp,by rw[hγ];exact⟨u,by simp[hu],huc⟩⟩
   rcases hvb c huc with h|h
   · exact .inl h
   exact .inr ⟨n,by simp,hbv c (by rw[←X0i hvsl];exact h)⟩
 refine⟨_,_,rfl,h0,by simp[hlen],⟨_,by rw[List.length_set];exact hownW,fun k u r hu hr=>?_⟩,fun k u r hu hr=>?_,fun k u c hu huc=>?_,fun j k u u2 c hu hu2 hjk huc=>?_⟩
 · rw[hcy];rw[Wt _ _ _ _ (by simp[hown.1];omega)];rcases hset k u r hu hr with⟨rfl,rfl,rfl⟩|⟨hne,hu',hr'⟩
   · simp[ZV]
   rw[if_neg (by simp;omega)];exact hxs k u r hu' hr'
 · rcases hset k u r hu hr with⟨rfl,rfl,rfl⟩|⟨hne,hu',hr'⟩
   · exact Xr.mono (fun _ h=>h) (fun c hc=>hWo c fun e'=>hFb (e'▸hc)) (fun c hc=>hWo c (hnb c hc).1) hrow
   have:=hin k u r hu' hr';cases r with
   |none=>exact this
   | some rr=>
     have hub:∀c,blk u=some c→c<w.heap.size:=fun c hc=>((hh.ob n _ hl).blk_lt (by rw[hγ];exact⟨u,by simp[List.mem_of_getElem? hu'],hc⟩:Blk (γ n) c)).2;exact Xr.mono (fun _ h=>h) hFW (fun c hc=>(hWo c fun e'=>hd1 k u c hu' hc (by rw[e'];rfl)).trans (hgr.block c (hub c hc) fun e'=>hd2 k i u v c hu' hvi' hne hc (by rw[X0i hvsl];exact e'.symm))) this
 · rcases hset1 k u hu with⟨rfl,rfl⟩|⟨hne,hu'⟩
   · intro e';cases e';exact(hnb _ huc).1 rfl
   exact hd1 k u c hu' huc
 rcases hset1 j u hu with⟨rfl,rfl⟩|⟨hne,hu'⟩
 · rcases hset1 k u2 hu2 with⟨rfl,rfl⟩|⟨hne2,hu2'⟩
   · exact absurd rfl hjk
   exact(hnb c huc).2 k u2 hne2 hu2'
 rcases hset1 k u2 hu2 with⟨rfl,rfl⟩|⟨hne2,hu2'⟩
 · intro hvc;exact(hnb c hvc).2 j u hne hu' huc
 exact hd2 j k u u2 c hu' hu2' hjk huc
theorem HeapRel.mapd {n d:Nat} {objs:List (Nat×Ob)} {x:Value} (h:HeapRel w0 B π F (upd γ d x) objs w) (hnd:n≠d) (hx:hd x=hd (γ n)):HeapRel w0 B π F (upd γ d x) (Ws (Ob.mv n d) objs) w:=
 h.mv (by rw[Xo,Xd _ hnd];exact hx)
end
def neT (d:Nat):Operand→Bool
 | .tmp t=>decide (t≠d)
 |_=>true
def matAP (P:Program) (s:HS) (o1 o2 o3:Oper):Option HS:=
 match o1.guard,o1.op,o1.dst,o2.guard,o2.op,o2.dst,o3.guard,o3.op with
 | none, .call {callee:=.builtin .append,args:=as0,argTypes:=ts, .. },some d1,none,.indexAddr tM xm xi,some d2,none,.store tE (.tmp e2) (.tmp e1)=>
   match as0.toList,ts.toList with
   | [x, y],[t,t']=>if t=t'∧e2=d2∧e1=d1∧d1≠d2∧neT d1 xm=true∧neT d1 xi=true∧XJ s (some d1)=true∧XJ s (some d2)=true∧XJ s o3.dst=true then
     match Z2 P t,Z2 P tM,opd s.regs x,opd s.regs xm,Wc (opd s.regs xi)with
     | some e',some eM,.v (.one (.sub n i)),.v (.one (.own n')),some (.int .i64 i')=>if n'=n∧i'=(i:Int)∧QY d1 s=true then
       match XF P e',XF P eM,XF P tE,lkp s.objs n with
       | some te,some tm,some tte,some (.mat e e2' sz rows)=>match rows[i]?,Wh s.objs te.size (opd s.regs y)with
         | some (some rs),some more=>if e2'=e'∧te.size=sz∧te.zero.length=te.size∧tm.size=1∧tte.size=1∧Wa (rs.length+more.length) te.bytes then
           let t:=((({s with objs:=Ws (Ob.mv n d1) (ins d1 (.mat e e' sz (rows.set i (some (rs++more)))) (del n s.objs))}:HS).put (some d1) (.v (.one .any))).put (some d2) (.v (.one .any))).put o3.dst (.v (.one .any))
           some {t with regs:=Ws (RV.mv n d1) t.regs}
           else none
         |_,_=>none
       |_,_,_,_=>none
       else none
     |_,_,_,_,_=>none
     else none
   |_,_=>none
 |_,_,_,_,_,_,_,_=>none
section
variable {P:Program} {F:Nat→Prop} {γ γ':Nat→Value} {w w' w0:World} {B:Nat→Prop} {π:Nat→Option Value}
theorem X09 {a:Act} {d:Nat} {v:Value} {x:Operand} (h:neT d x=true):(a.put (some d) v).eval x=a.eval x:=by
 cases x with
 | tmp t=>
   have ht:t≠d:=by simpa[neT]using h
   show((a.tmps.setIfInBounds d v).getD t undef)=a.tmps.getD t undef;rw[Array.getD_eq_getD_getElem?,Array.getElem?_setIfInBounds_ne (Ne.symm ht),←Array.getD_eq_getD_getElem?]
 |_=>rfl
theorem X0R {a:Act} {d:Nat} {v:Value} (h:d<a.tmps.size):(a.put (some d) v).eval (.tmp d)=v:=by
 show((a.tmps.setIfInBounds d v).getD d undef)=v;rw[Array.getD_eq_getD_getElem?,Array.getElem?_setIfInBounds_self_of_lt h];rfl
theorem Qs.matA {ops:Array Oper} {k:Nat} {s s':HS} {o1 o2 o3:Oper} (h1:ops[k]? =some o1) (h2:ops[k+1]? =some o2) (h3:ops[k+2]? =some o3) (h:matAP P s o1 o2 o3=some s'):Qs P ops k 3 s (fun u=>u=s'):=by
 intro w0 B π F γ a w Q Xj hr hK;unfold matAP at h;split at h
 · rename_i as0 ts d1 tM xm xi d2 tE e2 e1 hg1 ho1 hd1 hg2 ho2 hd2 hg3 ho3;split at h
   · rename_i x y t t' has hts;split at h
     · rename_i hc;obtain⟨rfl,rfl,rfl,hdd,hxm,hxi,hok1,hok2,hok3⟩:=hc;split at h
       · rename_i e' eM n i n' i' he heM hx hm hi;split at h
         · rename_i hc2;obtain⟨rfl,rfl,hun⟩:=hc2;split at h
           · rename_i te tm tte e e2' sz rows hte htm htte hl;split at h
             · rename_i rs more hri hmore;split at h
               · rename_i hc3;obtain⟨rfl,hsz,hzl,hm1,ht1,hroom⟩:=hc3;cases h;have eas:as0= #[x,y]:=by obtain⟨l⟩:=as0;simpa using has
                 have ets:ts= #[t,t]:=by obtain⟨l⟩:=ts;simpa using hts
                 subst eas;subst ets
                 have hpos:0<te.size:=by
                  obtain⟨o',is,hγ,h0,_⟩:=hr.heap.ob _ _ hl;omega
                 have hnd:n'≠e1:=(Ww hun n' _ hl).1;have hxv:=hr.opd x;rw[hx]at hxv;have hmv:=hr.opd xm;rw[hm]at hmv;have hiv:=X9.lit_eq hi (hr.opd xi);obtain⟨hms,hsrc⟩:=X2v hpos hr.heap (hr.opd y) hmore;obtain⟨b,oo,len,cap,v',w1,W,xx,hob,hlt,hrun,hrunW,hhd,hhp,hF⟩:=X9j (P:=P) (tE:=tE) (ty:=o1.type) hr.heap hl hri hxv (fun m o hm=>Ww hun m o hm) (ZW hun) (Q4 he) hte hsz hzl htte ht1 hms hsrc hroom.1 hroom.2;obtain⟨i',td,z,hi',htd,hz,g1,g2,g3,g4,g5⟩:=XC htm;have hs1:e1<a.tmps.size:=by rw[hr.nt.1];simpa[XJ]using hok1
                 have hs2:e2<a.tmps.size:=by rw[hr.nt.1];simpa[XJ]using hok2
                 show wpOps P ops Q (k::(k+1)::(k+2)::Xj) a w;rw[wpOps_cons];refine Qh (nx:=.value v') (v:=v') (w':=w1) h1 hg1 ?_ (.inl rfl) ?_
                 · unfold execOp;rw[ho1];simp[resolve,invoke,builtin,hrun]
                 rw[hd1,wpOps_cons];refine Qh (nx:=.value (.pointer (some ⟨b,oo+i,none⟩))) (v:=.pointer (some ⟨b,oo+i,none⟩)) (w':=w1) h2 hg2 ?_ (.inl rfl) ?_
                 · unfold execOp;rw[ho2];have hvm:a.eval xm=.slice (some ⟨b,oo,none⟩) len cap:=by rw[hmv.1,hob]
                   simp[X09 hxm,X09 hxi,hvm,hiv,Instr.indexAt,asIntOf,run_underlying (Q4 heM),hlt,XA hi',g1,hm1,QW]
                 rw[hd2,wpOps_cons];refine Qh (nx:=.skip) (v:=undef) (w':=W) h3 hg3 ?_ (.inr ⟨rfl,rfl⟩) ?_
                 · unfold execOp;rw[ho3];have q1:((a.put (some e1) v').put (some e2) (.pointer (some ⟨b,oo+i,none⟩))).eval (.tmp e2)=.pointer (some ⟨b,oo+i,none⟩):=X0R (by simpa[Act.put]using hs2);have q2:((a.put (some e1) v').put (some e2) (.pointer (some ⟨b,oo+i,none⟩))).eval (.tmp e1)=v':=by rw[X09 (by simp[neT,hdd])];exact X0R hs1
                   simp[q1,q2,Instr.storeAt,Instr.sureAddr,hrunW]
                 have hkeep:∀(j:Nat) r v,lkp s.regs j=some r→X9 F γ w r v→X9 F (upd γ e1 xx) W r v:=fun j r v hj hv=>(hv.mono (fun _ h=>h) hF).upd (WT hun hj);have r1:=hr.step (dst:=some e1) (r:=.v (.one .any)) (v:=v') hok1 (hhp.mapd hnd hhd) trivial hkeep;have r2:=r1.step (dst:=some e2) (r:=.v (.one .any)) (v:=.pointer (some ⟨b,oo+i,none⟩)) hok2 r1.heap trivial (fun _ _ _ _ h=>h)
                 have r3:=r2.step (dst:=o3.dst) (r:=.v (.one .any)) (v:=undef) (by cases hd3:o3.dst with
                  |none=>rfl
                  |some d3=>rw[hd3]at hok3;exact hok3) r2.heap trivial (fun _ _ _ _ h=>h)
                 have hh2:hd (upd γ e1 xx e1)=hd (upd γ e1 xx n'):=by rw[Xo,Xd _ hnd];exact hhd
                 refine hK _ F (upd γ e1 xx) _ W rfl (fun _ h=>h) (fun _ h=>.inl h) ⟨r3.heap,r3.defers,r3.nt,fun j r hj=>?_⟩;rw[Zs]at hj;simp only[Option.map_eq_some_iff]at hj;obtain⟨r0,h0,rfl⟩:=hj;exact(r3.regs j r0 h0).mv hh2
               cases h
             cases h
           cases h
         cases h
       cases h
     cases h
   cases h
 cases h
theorem RunsN.matA {ops:Array Oper} {l:List Oper} {s s':HS} {K:HS→Prop} {o1 o2 o3:Oper} (h:matAP P s o1 o2 o3=some s') (hr:RunsN P ops l s' K):RunsN P ops (o1::o2::o3::l) s K:=by
 refine .many (M:=fun u=>u=s') 3 (fun k hk=>?_) fun u hu=>by rw[hu];exact hr
 exact Qs.matA (hk 0 o1 rfl) (hk 1 o2 rfl) (hk 2 o3 rfl) h
def ConR (P:Program) (f:FuncId) (e:TypeId) (sz:Nat) (rs rs':List (List CD)):Prop:=
 XU P f=true∧∀(F:Nat→Prop) (B:Nat→Prop) (w:World) (v:Value),Xr F w B e sz v rs→(∀b,F b→b<w.heap.size)→(∀b,blk v=some b→¬F b)→
  Calls P f #[v] w fun x w'=>x=.returned (.tuple #[])∧w'.os=w.os∧w'.tape=w.tape∧w'.output=w.output∧w.heap.size≤w'.heap.size∧(∀k,k<w.heap.size→blk v≠some k→w'.heap[k]? =w.heap[k]?)∧Xr F w' B e sz v rs'
def subAP (s:HS) (o:Oper):Option (FuncId×Nat×Nat×TypeId×TypeId×Nat×List (Option (List (List CD)))×List (List CD)×Nat):=
 match o.guard,o.op,o.dst with
 | none, .call {callee:=.value x,args:=args, .. },some d=>match X2r (opd s.regs x),args.toList with
   | some (f,[]),[y]=>match opd s.regs y with
     | .v (.one (.sub n i))=>match lkp s.objs n with
       | some (.mat e e' sz rows)=>match rows[i]? with
         |some (some rs)=>if XJ s (some d)=true∧0<rs.length then some (f,n,i,e,e',sz,rows,rs,d)else none
         |_=>none
       |_=>none
     |_=>none
   |_,_=>none
 |_,_,_=>none
theorem Qs.subA {ops:Array Oper} {k:Nat} {s:HS} {o:Oper} {f:FuncId} {n i d sz:Nat} {e e':TypeId} {rows:List (Option (List (List CD)))} {rs rs':List (List CD)} (h1:ops[k]? =some o) (h:subAP s o=some (f,n,i,e,e',sz,rows,rs,d))
  (hcon:ConR P f e' sz rs rs'):Qs P ops k 1 s (fun u=>u=({s with objs:=ins n (.mat e e' sz (rows.set i (some rs'))) s.objs}:HS).put (some d) (.tup [])):=by
 intro w0 B π F γ a w Q Xj hr hK;unfold subAP at h;split at h
 · rename_i x as0 ats d1 hg ho hd1;split at h
   · rename_i f1 y hx has;split at h
     · rename_i n1 i1 hy;split at h
       · rename_i e1 e1' sz1 rows1 hl;split at h
         · rename_i rs1 hri;split at h
           · rename_i hc;obtain⟨hok,hlen0⟩:=hc;cases h;have eas:as0= #[y]:=by obtain⟨l⟩:=as0;simpa using has
             subst eas;obtain⟨hcall,hcon⟩:=hcon;obtain⟨cvs,hv,hcl,_⟩:=Zv hx (hr.opd x);have hcv:cvs=[]:=List.eq_nil_of_length_eq_zero (by simpa using hcl);subst hcv;have hv':a.eval x=.func (.func f) #[] #[]:=hv;have hyv:=hr.opd y;rw[hy]at hyv;obtain⟨vs,hvs,hsub,hv1,hvu⟩:=hyv;obtain⟨o',is,hγ,h0,hlen,⟨xs,hown,hxs⟩,hin,hd1',hd2⟩:=hr.heap.ob n _ hl;rw[hγ]at hvs;cases hvs;have hvi:is[i]? =some (a.eval y):=by simpa using hsub
             have hro:Xr F w B e' sz (a.eval y) rs:=hin i _ (some rs) hvi hri
             obtain⟨b,hb⟩:∃b,blk (a.eval y)=some b:=by
              obtain⟨_,_,xs,hown,_⟩:=hro;rcases hown.2 with⟨_,hn⟩|⟨b,oo,cap,cur,hv,_⟩
              · omega
              exact⟨b,by rw[hv];rfl⟩
             have hBn:Blk (γ n) b:=by rw[hγ];exact⟨a.eval y,by simp[List.mem_of_getElem? hvi],hb⟩
             have hlt:i<rows.length:=(List.getElem?_eq_some_iff.1 hri).1
             have hrun:(execOp a.eval o).run P w=.ok (.enter f (#[y].map a.eval)) w:=by
              unfold XU at hcall;split at hcall
              · rename_i fn hfn;simp only[Bool.and_eq_true,Bool.not_eq_true']at hcall;have hnm:¬fn.name= "runtime.NumGoroutine" :=by simpa using hcall.1
                have hnb:¬fn.body=none:=by
                 intro hb;rw[hb]at hcall;cases hcall.2
                simp[execOp,ho,resolve,hv',Deferred.ofValue,invoke,callFunc,hfn,hnm,hnb]
              cases hcall
             show wpOps P ops Q (k::Xj) a w;rw[wpOps_cons];unfold wpOp;rw[h1];simp only;have hwant:Region.wanted o (yielded ops a.tmps)=true:=by unfold Region.wanted;rw[hg]
             rw[hwant];simp only[if_true];refine .inl ?_;unfold Oper.wp;rw[hrun,Oper.upon_enter];have hargs:(#[y].map a.eval:Array Value)= #[a.eval y]:=by simp
             rw[hargs];refine(hcon F B w (a.eval y) hro hr.heap.fsz (fun c hc=>hr.heap.apart n _ hl c (by rw[hγ];exact⟨a.eval y,by simp[List.mem_of_getElem? hvi],hc⟩))).mono ?_;rintro z w' ⟨rfl,q1,q2,q3,q4,q5,hro'⟩;have hkeep:∀c,c<w.heap.size→c≠b→w'.heap[c]? =w.heap[c]? :=fun c hc hne=>q5 c hc fun e=>hne (by rw[hb]at e;cases e;rfl);have hFk:∀c,F c→w'.heap[c]? =w.heap[c]? :=fun c hc=>hkeep c (hr.heap.fsz c hc) fun e'=>hr.heap.apart n _ hl b hBn (e'▸hc);have hkp:Kept B w0 w':=hr.heap.below.trans ⟨q1,q2,q3,q4,fun c hc=>hkeep c (hr.heap.hB c hc) fun e'=>((hr.heap.ob n _ hl).blk_lt hBn).1 (e'▸hc)⟩
             have hob:XT F γ w' B (γ n) (.mat e e' sz (rows.set i (some rs'))):=by
              have hil:∀(k:Nat) v c,is[k]? =some v→blk v=some c→c<w.heap.size:=fun k v c hk hc=>((hr.heap.ob n _ hl).blk_lt (by rw[hγ];exact⟨v,by simp[List.mem_of_getElem? hk],hc⟩:Blk (γ n) c)).2;refine⟨o',is,hγ,h0,by simp[hlen],⟨xs,?_,fun j u r hu hr'=>?_⟩,fun j u r hu hr'=>?_,hd1',hd2⟩
              · rw[List.length_set];refine hown.mono fun c hc=>?_;exact hkeep c ((hr.heap.ob n _ hl).blk_lt (by rw[hγ];exact⟨o',by simp,hc⟩:Blk (γ n) c)).2 fun e'=>by subst e';exact hd1' i _ _ hvi hb hc
              · rw[List.getElem?_set]at hr';split at hr'
                · rename_i e2;subst e2;cases hr';rw[hvi]at hu;cases hu;have:=hxs i _ (some rs) hvi hri;exact this
                exact hxs j u r hu hr'
              rw[List.getElem?_set]at hr';split at hr'
              · rename_i e2;subst e2;cases hr';rw[hvi]at hu;cases hu;exact hro'
              rename_i e2;have:=hin j u r hu hr';cases r with
              |none=>exact this
              |some rr=>exact Xr.mono (fun _ h=>h) hFk (fun c hc=>hkeep c (hil j u c hu hc) fun e'=>by subst e';exact hd2 j i u _ _ hu hvi (Ne.symm e2) hc hb) this
             refine hK _ F γ _ _ rfl (fun _ h=>h) (fun _ h=>.inl h) ?_;rw[hd1];exact hr.step (dst:=some d) hok (F':=F) (γ':=γ) (hr.heap.wrote hl (b:=b) hBn hkp q4 (fun c hc hne=>hkeep c hc hne) hob) ⟨#[],rfl,rfl,fun j t u h1 h2=>by simp at h1⟩ fun _ _ _ _ hv=>hv.mono (fun _ h=>h) hFk
           cases h
         cases h
       cases h
     cases h
   cases h
 cases h
theorem RunsN.subA {ops:Array Oper} {l:List Oper} {s:HS} {K:HS→Prop} {o:Oper} {f:FuncId} {n i d sz:Nat} {e e':TypeId} {rows:List (Option (List (List CD)))} {rs rs':List (List CD)} (h:subAP s o=some (f,n,i,e,e',sz,rows,rs,d)) (hcon:ConR P f e' sz rs rs')
  (hr:RunsN P ops l (({s with objs:=ins n (.mat e e' sz (rows.set i (some rs'))) s.objs}:HS).put (some d) (.tup [])) K):RunsN P ops (o::l) s K:=by
 refine .many (M:=fun u=>u=_) 1 (fun k hk=>?_) fun u hu=>by rw[hu];exact hr
 exact Qs.subA (hk 0 o rfl) h hcon
def no6 (s:HS):Bool:=(s.regs.all fun p=> !p.2.menB 1000000)&&s.objs.all fun p=>p.1!=1000000&& !p.2.menB 1000000
theorem HT_pin {c:Code} {s:HS} {Q:Exit→HS→Prop} (n:Nat) {cs:List CV} (regs:List (Nat×RV)) (objs:List (Nat×Ob)) (hl:lkp s.objs n=some (.box cs)) (hpv:s.nt.pv=none)
  (hr:Zb (fun k r=>r.okNil []=true∧lkp s.regs k=some (r.ren (fun m=>if m=1000000 then n else m) [])) regs)
  (ho:Zb (fun m o=>o.okNil []=true∧lkp s.objs (if m=1000000 then n else m)=some (o.ren (fun m=>if m=1000000 then n else m) [])) objs) (hn:lkp objs n=none)
  (h:∀b,HT P c ⟨⟨s.nt.n,some (.pointer (some ⟨b,0,none⟩))⟩,regs,objs⟩ (fun e s'=>∃s2,le s' s2∧no6 s2=true∧Q e {s2 with nt:=⟨s2.nt.n,none⟩})):HT P c s Q:=by
 intro w0 B π F γ a w hrel;obtain⟨b,ty,vs,hγ,hB,hhp,hcs⟩:=hrel.heap.ob n _ hl
 let ρ:Nat→Nat:=fun m=>if m=1000000 then n else m
 let γ1:Nat→Value:=fun m=>γ (ρ m)
 let π1:Nat→Option Value:=fun m=>if m=1000000 then some (.pointer (some ⟨b,0,none⟩))else π m
 have hg:γ1 1000000=.pointer (some ⟨b,0,none⟩):=by simp only[γ1,ρ,if_true];exact hγ
 have hob:∀m o,lkp objs m=some o→o.okNil []=true∧lkp s.objs (ρ m)=some (o.ren ρ []):=fun m o hm=>WP ho m o (Xy hm)
 have hinj:∀m k om ok,lkp objs m=some om→lkp objs k=some ok→m≠k→ρ m≠ρ k:=by
  intro m k om ok hm hk hne;have h1:m≠n:=fun e=>by rw[e,hn]at hm;cases hm
  have h2:k≠n:=fun e=>by rw[e,hn]at hk;cases hk
  simp only[ρ];split
  · split
    · omega
    exact fun e=>h2 e.symm
  split
  · exact h1
  exact hne
 have hrel1:Rel w0 B π1 F γ1 ⟨⟨s.nt.n,some (.pointer (some ⟨b,0,none⟩))⟩,regs,objs⟩ a w:=by
  refine⟨⟨hrel.heap.below,hrel.heap.hB,hrel.heap.fsz,fun m o hm=>?_,fun m o hm=>?_,fun m k om ok hm hk hne=>?_,fun m v hv=>?_⟩,hrel.defers,⟨hrel.nt.1,fun v hv=>?_⟩,fun k r hk=>?_⟩
  · obtain⟨h1,h2⟩:=hob m o hm;have h3:=hrel.heap.ob _ _ h2;show XT F γ1 w B (γ (ρ m)) o;cases o with
    | box cs=>
      obtain⟨b',e',vs',q1,q2,q3,q4⟩:=h3;refine⟨b',e',vs',q1,q2,q3,?_⟩;exact X6f q4
    |row e s rows=>exact h3
    |mp l=>exact h3
    |mat _ _ _ _=>exact h3
    | refs e ns=>
      obtain⟨b',q1,q2,q3⟩:=h3;refine⟨b',by simpa using q1,q2,?_⟩;rw[q3,List.map_map];rfl
    |mps _ _=>exact h3
    |it _ _=>exact h3
  · obtain⟨h1,h2⟩:=hob m o hm;exact hrel.heap.apart _ _ h2
  · obtain⟨_,h1⟩:=hob m om hm;obtain⟨_,h2⟩:=hob k ok hk;exact hrel.heap.sep _ _ _ _ h1 h2 (hinj m k om ok hm hk hne)
  · simp only[π1]at hv;split at hv
    · rename_i e;subst e;cases hv;exact⟨Nat.le_refl _,hg⟩
    rename_i e;obtain⟨h1,h2⟩:=hrel.heap.pin m v hv;exact⟨h1,by simp only[γ1,ρ,if_neg e];exact h2⟩
  · simp only[π1,if_true];exact hv
  obtain⟨h1,h2⟩:=WP hr k r (Xy hk);exact X9.ren (ρ:=ρ) (nils:=[]) (fun n _=>rfl) (fun n hn=>by cases hn) h1 (hrel.regs k _ h2)
 refine wp_mono (h b w0 B π1 F γ1 a w hrel1) ?_;rintro e a' w' ⟨s',F',γ',⟨s2,hle,hno,hq⟩,h1,h2,hr'⟩;obtain⟨F2,γ2,h3,h4,hr2⟩:=hle w0 B π1 F' γ' a' w' hr';simp only[no6,Bool.and_eq_true,List.all_eq_true]at hno
 have hnr:∀k r,lkp s2.regs k=some r→¬r.men 1000000:=fun k r hk hm=>by
  have:=hno.1 _ (Xy hk);rw[RV.menB_iff.2 hm]at this;cases this
 have hnO:∀m o,lkp s2.objs m=some o→m≠1000000∧¬o.men 1000000:=fun m o hk=>by
  have:=hno.2 _ (Xy hk);simp only[bne_iff_ne,ne_eq]at this;refine⟨this.1,fun hm=>?_⟩;rw[Ob.menB_iff.2 hm]at this;cases this.2
 refine⟨_,F2,upd γ2 1000000 (γ 1000000),hq,fun c hc=>h3 c (h1 c hc),fun c hc=>(h4 c hc).elim (h2 c) .inr,⟨⟨hr2.heap.below,hr2.heap.hB,hr2.heap.fsz,fun m o hm=>?_,fun m o hm=>?_,fun m k om ok hm hk hne=>?_,fun m v hv=>?_⟩,hr2.defers,⟨hr2.nt.1,fun v hv=>by cases hv⟩,fun k r hk=>(hr2.regs k r hk).upd (hnr k r hk)⟩⟩
 · obtain⟨g1,g2⟩:=hnO m o hm;rw[Xd _ g1];exact(hr2.heap.ob m o hm).upd g2
 · rw[Xd _ (hnO m o hm).1];exact hr2.heap.apart m o hm
 · rw[Xd _ (hnO m om hm).1,Xd _ (hnO k ok hk).1];exact hr2.heap.sep m k om ok hm hk hne
 obtain⟨g1,g2⟩:=hrel.heap.pin m v hv;refine⟨g1,?_⟩;by_cases e:m=1000000
 · subst e;rw[Xo];exact g2
 rw[Xd _ e];exact(hr2.heap.pin m v (by simp only[π1,if_neg e];exact hv)).2
end
theorem X5w {P:Program} {id e:Nat} {ops:Array Oper} {cnd:Operand} {body:Code} {s s2:HS} {Q:Exit→HS→Prop} {o0:Oper} {lo:List Oper} {x:Operand} {d n:Nat} {l:List (Value×CD)} {seen:List Nat} {s1:Nat→Value→CD→HS}
  (hm:∀(j:Nat) k v,l[j]? =some (k,v)→j∉seen→HT P body (s1 j k v) Q) (hd:(∀j:Nat,j<l.length→j∈seen)→HT P (.exit e) s2 (X7W P body Q))
  (hops:ops.toList=o0::lo:=by rfl) (hg:o0.guard=none:=by rfl) (ho:o0.op=.next x false:=by rfl) (hdst:o0.dst=some d:=by rfl) (hx:opd s.regs x=.v (.one (.at_ n 0)):=by(simp;rfl)) (hl:lkp s.objs n=some (.it l seen):=by rfl) (hok:XJ s (some d)=true:=by rfl)
  (he1:∀(j:Nat) k v,evc P ops lo (({s with objs:=ins n (.it l (seen++[j])) s.objs}:HS).put (some d) (tupN k v)) []=some (s1 j k v,True):=by(intro _ _ _;simp;rfl)) (hc1:∀(j:Nat) k v,opd (s1 j k v).regs cnd=lit (.bool true):=by(intro _ _ _;rfl))
  (he2:evc P ops lo (s.put (some d) (.tup [.one (.c (.lit (.bool false)))])) []=some (s2,True):=by(simp;rfl)) (hc2:opd s2.regs cnd=lit (.bool false):=by rfl):
  HT P (.seq (.region id ops false) (.seq (.cond cnd .skip (.exit e)) body)) s Q:=by
 refine X0 (XN ?_);rw[hops];refine RunsN.next hg ho hdst hx hl hok (fun j k v hj hn=>RunsN.doneE [] (he1 j k v) trivial ?_) fun hall=>RunsN.doneE [] he2 trivial ?_
 · exact X0 (X7 (hc1 j k v) (fun _=>Xb (hm j k v hj hn)) fun h=>Bool.noConfusion h)
 exact X0 (X7 hc2 (fun h=>Bool.noConfusion h) fun _=>hd hall)
theorem X23 {P:Program} {ops:Array Oper} {id:Nat} {s s':HS} {p:Prop} {Q:Exit→HS→Prop} (cs:List (Option CR)) (hm:P.follows .mixedOrders=true) (hd:drawB ops=true) (hc:X0k ops.toList s=true) (h:evcS P ops ops.toList s cs=some (s',p)) (hp:p) (hq:Q .normal s'):HT P (.region id ops true) s Q:=X7D hm hd hc (X2X _ _ _ _ _ h hp hq)
def gOfF (s:HS) (o:Oper):Option (FuncId×List TV×Nat):=
 match o.guard,o.op,o.dst with
 | none,.call {callee:=.value x,args:=args, .. },some d=>match Wn s.objs (opd s.regs x),X1s s.objs (opd s.regs) args.toList with
   |some (f,_,es),some ts=>if XJ s (some d)=true then some (f,catT ts es,d)else none
   |_,_=>none
 |_,_,_=>none
theorem RunsN.callFA {P:Program} {ops:Array Oper} {l:List Oper} {o:Oper} {s:HS} {K:HS→Prop} {X:Type} {f:FuncId} {d:Nat} {args:List TV} {Φ:X→Prop} {r:X→RV} {ob:X→Option Ob} (hcon:ConF P f true args Φ r ob d)
  (hn:∀y,Φ y→RunsN P ops l ((s.made d (ob y)).put (some d) (r y)) K) (hg:gOfF s o=some (f,args,d):=by(simp[gOfF,catT]<;>rfl))
  (hu:∀y,Φ y→((ob y).isSome=true→QY d s=true)∧(r y).onlyB (ob y).isSome d=true∧(∀o,ob y=some o→o.flat=true):=by(intro y _;refine⟨fun _=>by rfl,by simp[RV.onlyB,TV.onlyB,CV.onlyB],fun o ho=>by cases ho;rfl⟩)):RunsN P ops (o::l) s K:=by
 unfold gOfF at hg;split at hg
 · rename_i x as0 ats d1 hgd ho hd1;split at hg
   · rename_i f1 own es ts hf hts;split at hg
     · rename_i hok;cases hg;rw[XaC]at hcon;refine RunsN.callF (M:=fun u=>∃y,Φ y∧u=(s.made d (ob y)).put (some d) (r y)) hgd ?_ fun u ⟨y,hy,hu⟩=>by rw[hu];exact hn y hy
       unfold Hl.callF;rw[ho,hd1];simp only[hf,hts];exact⟨true,X,Φ,r,ob,hcon,.inl rfl,hu,hok,fun y hy=>⟨y,hy,rfl⟩⟩
     cases hg
   cases hg
 cases hg
theorem CRel.sl_wk {F:Nat→Prop} {w:World} {s:Nat} {rows rows':List (List CD)} {v:Value} (hl:rows'.length=rows.length) (hs:∀r∈rows',r.length=s) (h:∀i j d',XG rows' i j=some d'→∃d,XG rows i j=some d∧∀u,CRel F w d u→CRel F w d' u) (hr:CRel F w (.sl s rows) v):CRel F w (.sl s rows') v:=by
 rcases hr.sl_inv with⟨rfl,hv⟩|⟨b,o,cap,cells,rfl,hF,hcap,hmax,hs',hc,h1,hr⟩
 · have:rows'=[]:=List.eq_nil_of_length_eq_zero hl;subst this;rcases hv with rfl|⟨a,cap,rfl⟩
   · exact .nil s
   exact .emp s a cap
 rw[←hl]at hcap⊢
 exact .sl s rows' b o cap cells hF hcap hmax hs (fun i j d hd=>by obtain⟨d0,h0,_⟩:=h i j d hd;exact hc i j d0 h0) (fun i j d hd=>by obtain⟨d0,h0,_⟩:=h i j d hd;exact h1 i j d0 h0)
  (fun i j d hd=>by obtain⟨d0,h0,h3⟩:=h i j d hd;exact h3 _ (hr i j d0 h0))
theorem le_frzM0 {x:HS} (n:Nat) {e e':TypeId} {s:Nat} {rows:List (Option (List (List CD)))} (h:lkp x.objs n=some (.mat e e' s rows)):le x (x.frz n (.sl 1 (rows.map fun r=>[.sl s (r.getD [])]))):=
 X3d n h fun {_ B _ F γ w} hh=>⟨CRel.sl_wk (rows:=rows.map fun r=>[X4G s r]) (by simp) (by simp) (fun i j d' hd=>by
  unfold XG at hd⊢;simp only[List.getElem?_map]at hd⊢;cases hr:rows[i]? with
  |none=>rw[hr]at hd;cases hd
  | some r=>
    rw[hr]at hd;cases j with
    | zero=>
      cases hd;refine⟨_,rfl,fun u hu=>?_⟩;cases r with
      |none=>cases hu;exact .nil s
      |some rs=>exact hu
    |succ j=>cases hd) (X5F (hh.ob n _ h) (fun _ h=>.inl h) fun b hb=>.inr hb),fun b hb cs e=>by cases e⟩
attribute [simp] X3u
end Go.Hl
