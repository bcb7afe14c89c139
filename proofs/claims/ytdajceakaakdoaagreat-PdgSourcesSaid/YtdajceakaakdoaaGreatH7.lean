/- Part of an evaluator that is sound over the model. Conditions: none. -/
import Derived.Test.YtdajceakaakdoaaGreatH6
set_option linter.unusedSimpArgs false
set_option linter.unusedVariables false
namespace Go.Hl
open Go Go.RowKit
section
variable {P:Program} {ops:Array Oper}
theorem Xaf {B:Nat->Prop} {TR:List Nat->(Nat->Prop)->(Nat->Value)->Act->World->Prop} {cl:List (List Nat)} {Q:Exit->Act->World->Prop} (hfw:X5a ops=true) (hcl:clB ops cl=true)
  (hstep:∀R∈cl,∀i∈Zv ops R,∀F T a w,TR R F T a w->∀Kc,(∀F' T' a' w',TR (Qv R i) F' T' a' w'->(∀b,F b->F' b)->(∀b,F' b->F b\/¬B b)->Kc a' w')->wpOp P ops Q i Kc a w):
  ∀(fuel:Nat) (listed:Array Bool) (F:Nat->Prop) (T:Nat->Value) (a:Act) (w:World),listed.size=ops.size->Xr ops listed∈cl->(Xr ops listed).length<=fuel->TR (Xr ops listed) F T a w->
  (∀F' T' a' w',TR [] F' T' a' w'->(∀b,F b->F' b)->(∀b,F' b->F b\/¬B b)->Q .normal a' w')->wpAny P .any ops Q fuel listed a w:=by
 have hnr:∀listed:Array Bool,Xr ops listed=[]->Region.ready .any ops listed=[]:=by
  intro listed h0;refine List.eq_nil_iff_forall_not_mem.2 fun i hi=>?_;obtain⟨h1,h2,_⟩:=QI.1 hi;have:=XR.2 ⟨h1,h2⟩;rw[h0]at this;cases this
 have hrn:∀listed:Array Bool,listed.size=ops.size->Region.ready .any ops listed=[]->Xr ops listed=[]:=by
  intro listed hsz h0;cases hres:Xr ops listed with
  |nil=>rfl
  | cons i l=>
    have hi:i∈Xr ops listed:=by rw[hres];simp
    obtain⟨hlt,hun⟩:=XR.1 hi
    have:i∈Region.ready .any ops listed:=by
     refine QI.2 ⟨hlt,hun,ops[i],by simp[hlt],fun e he hb=>?_⟩
     have hon:e.on<i:=by
      unfold X5a at hfw;rw[Nm]at hfw;have h1:=hfw i (by simpa using hlt);rw[NC hlt]at h1;simp only[Nm]at h1;have h2:=h1 e (by simpa using he);simp only[hb,Bool.not_true,Bool.false_or,N6]at h2;exact h2
     have hnot:e.on∉Xr ops listed:=by
      intro hm;have hs:=Qo (ops:=ops) listed;rw[hres]at hs hm;rcases Nh.1 hm with e'|hm
      .omega
      have:=(NQ.1 hs).1 _ hm;omega
     rw[XR]at hnot;have hel:e.on<listed.size:=by omega
     rw[Nu,NC hel]at hnot⊢;simp only[Option.getD_some,not_and,Bool.not_eq_false]at hnot⊢;exact hnot (by omega)
    rw[h0]at this;cases this
 intro fuel
 induction fuel with
 | zero=>
   intro listed F T a w hsz hin hlen ht hK;have h0:Xr ops listed=[]:=Nv (by omega);rw[h0]at ht;exact⟨hnr listed h0,hK F T a w ht (fun _ h=>h) (fun _ h=>.inl h)⟩
 | succ fuel ih=>
   intro listed F T a w hsz hin hlen ht hK;refine⟨fun h0=>?_,fun i hi=>?_⟩
   .rw[hrn listed hsz h0]at ht;exact hK F T a w ht (fun _ h=>h) (fun _ h=>.inl h)
   obtain⟨hlt,hun,oi,hoi,hpre⟩:=QI.1 hi;have hir:i∈Xr ops listed:=XR.2 ⟨hlt,hun⟩;have hset:=X3w hsz hir
   have hir2:i∈Zv ops (Xr ops listed):=by
    refine NR.2 ⟨hir,?_⟩;rw[hoi];simp only[Nm,Nl,Nw];intro e he;cases hb:Region.binds .any e with
    |false=>exact .inl rfl
    | true=>
      refine .inr ?_;have h1:=hpre e (by simpa using he) hb;refine Bool.eq_false_iff.2 fun hc=>?_;have h2:=XR.1 (by simpa using hc:e.on∈Xr ops listed);have hel:e.on<listed.size:=by omega
      rw[Nu,NC hel]at h1;have h3:=h2.2;rw[Nu,NC hel]at h3;simp only[Option.getD_some]at h1 h3;rw[h1]at h3;cases h3
   have hm:Qv (Xr ops listed) i∈cl:=by
    unfold clB at hcl;simp only[N4,Nm]at hcl;simpa using hcl.2 _ hin i hir2
   refine hstep _ hin i hir2 F T a w ht _ fun F' T' a' w' hw h1 h2=>?_;refine ih (listed.setIfInBounds i true) F' T' a' w' (by simpa using hsz) (by rw[hset];exact hm) ?_ (by rw[hset];exact hw) fun F3 γ3 a3 w3 hk h5 h6=>hK F3 γ3 a3 w3 hk (fun b hb=>h5 b (h1 b hb)) (fun b hb=>(h6 b hb).elim (h2 b) .inr);obtain⟨x2,y2,g1,g2,_,_⟩:=X1y (Qo (ops:=ops) listed) hir;rw[hset,g2];rw[g1]at hlen;simp only[N9,List.length_cons]at hlen⊢;omega
theorem XcG {id:Nat} (TR:World->(Nat->Prop)->(Nat->Option Value)->List Nat->(Nat->Prop)->(Nat->Value)->Act->World->Prop) (cl:List (List Nat)) {s:HS} {Q:Exit->HS->Prop} (hm:P.follows .mixedOrders=true) (hfw:X5a ops=true) (hcl:clB ops cl=true)
  (hs:∀w0 B U F T a w,Rel w0 B U F T s a w->TR w0 B U (List.range ops.size) F T a w)
  (hstep:∀w0 B U,∀R∈cl,∀i∈Zv ops R,∀F T a w,TR w0 B U R F T a w->∀Q' Kc,(∀F' T' a' w',TR w0 B U (Qv R i) F' T' a' w'->(∀b,F b->F' b)->(∀b,F' b->F b\/¬B b)->Kc a' w')->wpOp P ops Q' i Kc a w)
  (hq:∀w0 B U F T a w,TR w0 B U [] F T a w->∃s',Q .normal s'/\Rel w0 B U F T s' a w):HT P (.region id ops true) s Q:=by
 intro w0 B U F T a w hr
 have hrest:Xr ops (Array.replicate ops.size false)=List.range ops.size:=by
  unfold Xr;refine DB.2 fun i hi=>?_;have:i<ops.size:=by simpa using hi
  simp[this]
 have hin:List.range ops.size∈cl:=by
  unfold clB at hcl;simp only[N4]at hcl;simpa using hcl.1
 refine wp_region_any hm (Xaf (P:=P) (ops:=ops) (B:=B) (TR:=TR w0 B U) (cl:=cl) hfw hcl (fun R hR i hi F T a w ht Kc hK=>hstep w0 B U R hR i hi F T a w ht _ Kc hK) ops.size (Array.replicate ops.size false) F T a {w with drawn:=w.drawn+1} (by simp) (by rw[hrest];exact hin) (by rw[hrest];simp) (by
  rw[hrest]
  refine hs _ _ _ _ _ _ _ ⟨hr.heap.drew,hr.defers,hr.nt,fun k r hk=>(hr.regs k r hk).mono (w:=w) (w':={w with drawn:=w.drawn+1}) (fun _ h=>h) fun _ _=>rfl⟩) ?_)
 intro F' T' a' w' hk h1 h2;obtain⟨s',h3,h4⟩:=hq _ _ _ _ _ _ _ hk;exact⟨s',F',T',h3,h1,h2,h4⟩
theorem HeapRel.drop {F:Nat->Prop} {T:Nat->Value} {w w' w0:World} {B:Nat->Prop} {U:Nat->Option Value} {objs:List (Nat×Ob)} {n:Nat} {on:Ob} (h:HeapRel w0 B U F T objs w) (hl:lkp objs n=some on) (hb:Kept B w0 w') (hsz:w.heap.size<=w'.heap.size)
  (hkeep:∀k,k<w.heap.size->¬Blk (T n) k->w'.heap[k]? =w.heap[k]?):HeapRel w0 B U F T (del n objs) w':=by
 have hF:∀k,F k->w'.heap[k]? =w.heap[k]? :=fun k hk=>hkeep k (h.fsz k hk) fun e=>h.apart n on hl k e hk
 exact {
  below:=hb
  hB:=fun b hb=>NJ (h.hB b hb) hsz
  fsz:=fun k hk=>NJ (h.fsz k hk) hsz
  ob:=fun m o ho=>by
   obtain⟨hne,ho'⟩:=Ql ho;have h1:=h.ob m o ho';exact h1.mono (fun _ h=>h) hF fun k hk=>hkeep k (h1.blk_lt hk).2 fun e=>h.sep m n _ _ ho' hl hne k hk e
  apart:=fun m o ho=>h.apart m o (Ql ho).2
  sep:=fun m k om ok hm hk=>h.sep m k om ok (Ql hm).2 (Ql hk).2
  pin:=h.pin}
def Zp (P:Program) (w0:World) (B:Nat->Prop) (U:Nat->Option Value) (F:Nat->Prop) (T:Nat->Value) (n i d:Nat) (tE:TypeId) (O:List (Nat×Ob)) (w:World) (v:Value) (b oo:Nat):Prop:=
 ∃(len cap:Nat) (W:World) (xx:Value),hd (T n)=.slice (some ⟨b,oo,none⟩) len cap/\i<len/\(storeVar tE ⟨b,oo+i,none⟩ v).run P w=.ok () W/\hd xx=hd (T n)/\HeapRel w0 B U F (upd T d xx) O W/\∀c,F c->W.heap[c]? =w.heap[c]?
def X1p (P:Program) (ops:Array Oper) (nx rd:List Nat->HS) (p n i d1 d2 sz:Nat) (e e':TypeId) (x y xm xi:Operand) (te:TI) (rows:List (Option (List (List CD)))) (rs more:List (List CD)) (O:List (Nat×Ob)) (sF:HS) (R:List Nat) (j:Nat):Prop:=
 if R.contains p=true then
  if j=p then R.contains (p+1)=true/\(nx R).objs=O/\opd (nx R).regs x=.v (.one (.sub n i))/\Wq O te.size (opd (nx R).regs y)=some more/\Wb d1 (nx R)=true/\XP (nx R) (some d1)=true/\rd (Qv R p)=(({nx R with objs:=del n O}:HS).put (some d1) (.v (.one .any)))
  else Q4 P ops j (nx R) (fun u=>u=nx (Qv R j))
 else if R.contains (p+1)=true then
  if j=p+1 then(Qv R j).contains (p+2)=true/\opd (rd R).regs xm=.v (.one (.own n))/\Wo (opd (rd R).regs xi)=some (.int .i64 (i:Int))/\XP (rd R) (some d2)=true/\rd (Qv R j)=(rd R).put (some d2) (.v (.one .any))
  else ∃o dst r,ops[j]? =some o/\o.guard=none/\o.dst=some dst/\dst≠d1/\XP (rd R) (some dst)=true/\(evN P (opd (rd R).regs) o.op=some (r,none)\/evR P (rd R).objs (opd (rd R).regs) o.op=some r)/\rd (Qv R j)=(rd R).put (some dst) r
 else j=p+2/\Wb d1 (rd R)=true/\Qv R j=[]/\sF=⟨(rd R).nt,W9 (RV.mv n d1) (rd R).regs,W9 (Ob.mv n d1) (ins d1 (.mat e e' sz (rows.set i (some (rs++more)))) (del n O))⟩
section
variable {nx rd:List Nat->HS} {p n i d1 d2 sz:Nat} {e e':TypeId} {x y xm xi:Operand} {te:TI} {rows:List (Option (List (List CD)))} {rs more:List (List CD)} {O:List (Nat×Ob)} {sF:HS} {R:List Nat} {j:Nat}
theorem stD_w (hp:R.contains p=true) (hj:j≠p) (h:Q4 P ops j (nx R) (fun u=>u=nx (Qv R j))):X1p P ops nx rd p n i d1 d2 sz e e' x y xm xi te rows rs more O sF R j:=by
 unfold X1p;rw[Na hp,N7 hj];exact h
theorem stD_p (hp:R.contains p=true) (hj:j=p) (hq:R.contains (p+1)=true) (h1:(nx R).objs=O) (h2:opd (nx R).regs x=.v (.one (.sub n i))) (h3:Wq O te.size (opd (nx R).regs y)=some more) (h4:Wb d1 (nx R)=true) (h5:XP (nx R) (some d1)=true) (h6:rd (Qv R p)=(({nx R with objs:=del n O}:HS).put (some d1) (.v (.one .any)))):X1p P ops nx rd p n i d1 d2 sz e e' x y xm xi te rows rs more O sF R j:=by
 unfold X1p;rw[Na hp,Na hj];exact⟨hq,h1,h2,h3,h4,h5,h6⟩
theorem stD_q (hp:¬R.contains p=true) (hq:R.contains (p+1)=true) (hj:j=p+1) (h0:(Qv R j).contains (p+2)=true) (h1:opd (rd R).regs xm=.v (.one (.own n))) (h2:Wo (opd (rd R).regs xi)=some (.int .i64 (i:Int))) (h3:XP (rd R) (some d2)=true) (h4:rd (Qv R j)=(rd R).put (some d2) (.v (.one .any))):X1p P ops nx rd p n i d1 d2 sz e e' x y xm xi te rows rs more O sF R j:=by
 unfold X1p;rw[N7 hp,Na hq,Na hj];exact⟨h0,h1,h2,h3,h4⟩
theorem X7e {o:Oper} {dst:Nat} {r:RV} (hp:¬R.contains p=true) (hq:R.contains (p+1)=true) (hj:¬j=p+1) (h1:ops[j]? =some o) (h2:o.guard=none) (h3:o.dst=some dst) (h4:dst≠d1) (h5:XP (rd R) (some dst)=true) (h6:evN P (opd (rd R).regs) o.op=some (r,none)\/evR P (rd R).objs (opd (rd R).regs) o.op=some r) (h7:rd (Qv R j)=(rd R).put (some dst) r):X1p P ops nx rd p n i d1 d2 sz e e' x y xm xi te rows rs more O sF R j:=by
 unfold X1p;rw[N7 hp,Na hq,N7 hj];exact⟨o,dst,r,h1,h2,h3,h4,h5,h6,h7⟩
theorem stD_z (hp:¬R.contains p=true) (hq:¬R.contains (p+1)=true) (hj:j=p+2) (h1:Wb d1 (rd R)=true) (h2:Qv R j=[]) (h3:sF=⟨(rd R).nt,W9 (RV.mv n d1) (rd R).regs,W9 (Ob.mv n d1) (ins d1 (.mat e e' sz (rows.set i (some (rs++more)))) (del n O))⟩):X1p P ops nx rd p n i d1 d2 sz e e' x y xm xi te rows rs more O sF R j:=by
 unfold X1p;rw[N7 hp,N7 hq];exact⟨hj,h1,h2,h3⟩
end
theorem Xbl {id:Nat} {s sF:HS} {Q:Exit->HS->Prop} (nx rd:List Nat->HS) (nn M:Nat) (ms:List (Nat×List Nat)) (p:Nat) {o1 o2 o3:Oper} {x y xm xi:Operand} {t tM tE e e' eM:TypeId} {te tm tte:TI} {d1 d2 n i sz:Nat} {rows:List (Option (List (List CD)))} {rs more:List (List CD)} {O:List (Nat×Ob)}
  (hm:P.follows .mixedOrders=true) (hfw:X5a ops=true) (hn:Zd nn M=List.range ops.size) (hcl:clB ops ([]::ms.map fun m=>Zd nn m.1)=true) (hst:msB ops nn ms=true) (hpM:(Zd nn M).contains p=true)
  (h1:ops[p]? =some o1) (h2:ops[p+1]? =some o2) (h3:ops[p+2]? =some o3) (hg1:o1.guard=none) (hg2:o2.guard=none) (hg3:o3.guard=none)
  (ho1:o1.op=.call {callee:=.builtin .append,args:= #[x,y],argTypes:= #[t,t]}) (ho2:o2.op=.indexAddr tM xm xi) (ho3:o3.op=.store tE (.tmp d2) (.tmp d1)) (hd1:o1.dst=some d1) (hd2:o2.dst=some d2) (hd3:o3.dst=none) (hdd:d1≠d2) (hnd:n≠d1)
  (he:Z5 P t=some e') (heM:Z5 P tM=some eM) (hte:XK P e'=some te) (htm:XK P eM=some tm) (htte:XK P tE=some tte) (hsz:te.size=sz) (hzl:te.zero.length=te.size) (hm1:tm.size=1) (ht1:tte.size=1)
  (hl:lkp O n=some (.mat e e' sz rows)) (hri:rows[i]? =some (some rs)) (hroom:W4 (rs.length+more.length) te.bytes)
  (h0:s=nx (Zd nn M)) (hstep:X1C (fun m=>X1C (fun j=>X1p P ops nx rd p n i d1 d2 sz e e' x y xm xi te rows rs more O sF (Zd nn m.1) j) m.2) ms) (hq:Q .normal sF):HT P (.region id ops true) s Q:=by
 refine XcG (fun w0 B U R F T a w=>if R.contains p=true then Rel w0 B U F T (nx R) a w
  else if R.contains (p+1)=true then Rel w0 B U F T (rd R) a w/\∃b oo,Zp P w0 B U F T n i d1 tE (ins d1 (.mat e e' sz (rows.set i (some (rs++more)))) (del n O)) w (a.eval (.tmp d1)) b oo
  else if R=[] then Rel w0 B U F T sF a w
  else Rel w0 B U F T (rd R) a w/\∃b oo,a.eval (.tmp d2)=.pointer (some ⟨b,oo+i,none⟩)/\Zp P w0 B U F T n i d1 tE (ins d1 (.mat e e' sz (rows.set i (some (rs++more)))) (del n O)) w (a.eval (.tmp d1)) b oo)
  ([]::ms.map fun m=>Zd nn m.1) hm hfw hcl ?_ ?_ ?_
 .intro w0 B U F T a w hr;rw[<-hn,Na hpM,<-h0];exact hr
 .intro w0 B U R hR j hj F T a w hT Q' Kc hK;rcases Nh.1 hR with rfl|hR
  .simp[Zv]at hj
  obtain⟨m,hm1',rfl⟩:=NF.1 hR;unfold msB at hst;simp only[Nm]at hst;have hS:=X1N (X1N hstep m hm1') j (by simpa using hst m hm1' j hj);obtain⟨R,hRR⟩:∃R,Zd nn m.1=R:=⟨_,rfl⟩;rw[hRR]at hS hT hK hj;unfold X1p at hS;split at hS
  .rename_i hpR;rw[Na hpR]at hT;split at hS
   .rename_i hjp;subst hjp;obtain⟨hqR,hO,hx,hmore,hun,hok,hrd⟩:=hS
    have hpos:0<te.size:=by
     obtain⟨o',is,hγ,h0',_⟩:=hT.heap.ob n _ (by rw[hO];exact hl);omega
    have hxv:=hT.opd x;rw[hx]at hxv;have hh:HeapRel w0 B U F T O w:=by rw[<-hO];exact hT.heap
    obtain⟨hms,hsrc⟩:=X2R hpos hh (hT.opd y) hmore;have hdn:∀m o,lkp O m=some o->m≠d1/\¬o.men d1:=fun m o hm=>WG hun m o (by rw[hO];exact hm);obtain⟨b,oo,len,cap,v',w1,W,xx,hob,hlt,hrun,hrunW,hhd,hhp,hFW⟩:=X9K (P:=P) (tE:=tE) (ty:=o1.type) hh hl hri hxv hdn (X0a hun) (Qk he) hte hsz hzl htte ht1 hms hsrc hroom.1 hroom.2
    -- the world behind the append
    obtain⟨o',is,hγ,h0',hlen,⟨xs,hown,hxs⟩,hin,hq1,hq2⟩:=hh.ob n _ hl;obtain⟨vs,hγ',hvi,hv1,hvu⟩:=hxv;rw[hγ]at hγ';cases hγ';have hvi':is[i]? =some (a.eval x):=by simpa using hvi
    have hro:Xv F w B e' sz (a.eval x) rs:=hin i _ (some rs) hvi' hri;obtain⟨_,hss,xv,hownv,hx1,hxc⟩:=hro;have hvsl:=hownv.sl;have hbv:∀b,(a.eval x).ownBlock=some b->Blk (T n) b:=fun b hb=>by rw[hγ];exact⟨a.eval x,by simp[N3 hvi'],by rw[X0s hvsl];exact hb⟩
    obtain⟨v2,w2,hrun2,hgr,_,_,hF2,_⟩:=X18 (P:=P) (w:=w) (B:=B) (F:=F) (ty:=o1.type) (src:=a.eval y) (more:=more) (rows:=rs) (v:=a.eval x) (xs:=xv) (Qk he) hte (by omega) hzl (by rw[hsz];exact hownv) hh.hB
     (by rw[hsz];exact hss) hx1 (by rw[hsz];exact hxc) hms hsrc hroom.1 hroom.2 hh.fsz (fun b hb=>hh.apart n _ hl b (hbv b hb))
    rw[hrun]at hrun2;cases hrun2;have hk1:Kept B w0 w1:=hh.below.grown hgr hh.hB fun k hk hx=>((hh.ob n _ hl).blk_lt (hbv k hk)).1 hx;have hdrop:HeapRel w0 B U F T (del n O) w1:=hh.drop hl hk1 hgr.size fun k hk hne=>hgr.block k hk fun e'=>hne (hbv k e'.symm);have hs1:d1<a.tmps.size:=by rw[hT.nt.1];simpa[XP]using hok
    refine Qq (nx:=.value v') (v:=v') (w':=w1) h1 hg1 ?_ (.inl rfl) ?_
    .unfold execOp;rw[ho1];simp[resolve,invoke,builtin,hrun]
    rw[hd1]
    have hrel:Rel w0 B U F T (rd (Qv R j)) (a.put (some d1) v') w1:=by
     rw[hrd];exact hT.step (dst:=some d1) (r:=.v (.one .any)) (v:=v') hok hdrop trivial fun _ _ _ _ hv=>hv.mono (fun _ h=>h) hF2
    have hno:¬(Qv R j).contains j=true:=by simp
    have hFb:∀c,F c->W.heap[c]? =w1.heap[c]? :=fun c hc=>(hFW c hc).trans (hF2 c hc).symm
    have hz:Zp P w0 B U F T n i d1 tE (ins d1 (.mat e e' sz (rows.set i (some (rs++more)))) (del n O)) w1 ((a.put (some d1) v').eval (.tmp d1)) b oo:=by
     rw[X0I hs1];exact⟨len,cap,W,xx,hob,hlt,hrunW,hhd,hhp,hFb⟩
    refine hK F T _ w1 ?_ (fun _ h=>h) (fun _ h=>.inl h);rw[N7 hno,Na (by simpa using hqR)];exact⟨hrel,b,oo,hz⟩
   rename_i hjp;refine hS w0 B U F T a w Kc Q' hT fun s' F' T' a' w' hs' g1 g2 hr2=>hK F' T' a' w' ?_ g1 g2;rw[Na (by simpa[Ne.symm hjp]using hpR),<-hs'];exact hr2
  rename_i hpR;rw[N7 hpR]at hT
  have hpR':¬(Qv R j).contains p=true:=by
   simp only[List.contains_iff_mem,Qh]at hpR⊢;exact fun h=>hpR h.1
  split at hS
  .rename_i hqR;rw[Na hqR]at hT;obtain⟨hr,b,oo,hz⟩:=hT;split at hS
   .rename_i hjq;subst hjq;obtain⟨hp2,hxm,hxi,hok,hrd⟩:=hS;obtain⟨len,cap,W,xx,hob,hlt,hrunW,hhd,hhp,hFW⟩:=hz;have hmv:=hr.opd xm;rw[hxm]at hmv;have hiv:=Xa.lit_eq hxi (hr.opd xi);obtain⟨i',td,z,hi',htd,hz',g1,g2,g3,g4,g5⟩:=XH htm;have hs2:d2<a.tmps.size:=by rw[hr.nt.1];simpa[XP]using hok
    refine Qq (nx:=.value (.pointer (some ⟨b,oo+i,none⟩))) (v:=.pointer (some ⟨b,oo+i,none⟩)) (w':=w) h2 hg2 ?_ (.inl rfl) ?_
    .unfold execOp;rw[ho2];have hvm:a.eval xm=.slice (some ⟨b,oo,none⟩) len cap:=by rw[hmv.1,hob]
     simp[hvm,hiv,Instr.indexAt,asIntOf,run_underlying (Qk heM),hlt,XF hi',g1,hm1,Wa]
    rw[hd2]
    have hrel:Rel w0 B U F T (rd (Qv R (p+1))) (a.put (some d2) (.pointer (some ⟨b,oo+i,none⟩))) w:=by
     rw[hrd];exact hr.step (dst:=some d2) (r:=.v (.one .any)) hok hr.heap trivial fun _ _ _ _ hv=>hv
    refine hK F T _ w ?_ (fun _ h=>h) (fun _ h=>.inl h);rw[N7 hpR',N7 (by simp),N7 (by rintro h;rw[h]at hp2;simp at hp2)];refine⟨hrel,b,oo,X0I hs2,len,cap,W,xx,hob,hlt,?_,hhd,hhp,hFW⟩
    rwa [X0c (by simp[neT,hdd])]
   rename_i hjq;obtain⟨o,dst,r,hoj,hgj,hdj,hne,hok,hev,hrd⟩:=hS
   obtain⟨v,hrun,hrv⟩:∃v,(execOp a.eval o).run P w=.ok (.value v) w/\Xa F T w r v:=by
    rcases hev with hev|hev
    .exact(X2m hr.opd hev).2
    exact X0U hr.heap hr.opd hev
   refine Qq (nx:=.value v) (v:=v) (w':=w) hoj hgj hrun (.inl rfl) ?_;rw[hdj];refine hK F T _ w ?_ (fun _ h=>h) (fun _ h=>.inl h);rw[N7 hpR',Na (by simpa[Ne.symm hjq]using hqR),hrd];refine⟨hr.step (dst:=some dst) hok hr.heap hrv fun _ _ _ _ hv=>hv,b,oo,?_⟩
   rwa [X0c (by simp[neT,Ne.symm hne])]
  rename_i hqR;rw[N7 hqR]at hT;obtain⟨rfl,hun,hmin,hsF⟩:=hS
  have hRne:R≠[]:=by
   rintro rfl;simp[Zv]at hj
  rw[N7 hRne]at hT;obtain⟨hr,b,oo,hptr,len,cap,W,xx,hob,hlt,hrunW,hhd,hhp,hFW⟩:=hT;refine Qq (nx:=.skip) (v:=undef) (w':=W) h3 hg3 ?_ (.inr ⟨rfl,rfl⟩) ?_
  .unfold execOp;rw[ho3];simp[hptr,Instr.storeAt,Instr.sureAddr,hrunW]
  have hkeep:∀(j:Nat) r v,lkp (rd R).regs j=some r->Xa F T w r v->Xa F (upd T d1 xx) W r v:=fun j r v hj hv=>(hv.mono (fun _ h=>h) hFW).upd (Z2 hun hj);have r3:=hr.step (dst:=none) (r:=.v (.one .any)) (v:=undef) rfl (hhp.mapd hnd hhd) trivial hkeep;have hh2:hd (upd T d1 xx d1)=hd (upd T d1 xx n):=by rw[Xt,Xe _ hnd];exact hhd
  refine hK F (upd T d1 xx) _ W ?_ (fun _ h=>h) (fun _ h=>.inl h);rw[hmin,hd3];simp only[List.contains_nil,Nz,Nc,Nf];rw[hsF];refine⟨r3.heap,r3.defers,r3.nt,fun j r hj=>?_⟩;rw[ZC]at hj;simp only[N8]at hj;obtain⟨r0,h0,rfl⟩:=hj;exact(r3.regs j r0 h0).mv hh2
 intro w0 B U F T a w hT;simp only[List.contains_nil,Nz,Nc,Nf]at hT;exact⟨sF,hq,hT⟩
end
section
variable {P:Program}
theorem le_matE {x:HS} (n d:Nat) {e e':TypeId} {s:Nat} {rows:List (Option (List (List CD)))} (h:lkp x.objs n=some (.mat e e' s rows)) (hu:Wb d x=true):
  le x ⟨x.nt,W9 (RV.mv n d) x.regs,W9 (Ob.mv n d) (ins d (.mat e e' s (rows.map fun r=>some (r.getD []))) (del n x.objs))⟩:=by
 intro w0 B U F T a w hr;obtain⟨o,is,hγ,h0,hlen,⟨xs,hown,hxs⟩,hin,hd1,hd2⟩:=hr.heap.ob n _ h
 let fx:Nat->Value->Value:=fun i v=>X0k v (rows[i]?.getD none)
 have hnd:n≠d:=(WG hu n _ h).1
 have hgi:∀(i:Nat) v,(is.mapIdx fx)[i]? =some v->∃v0 r,is[i]? =some v0/\rows[i]? =some r/\v=X0k v0 r:=by
  intro i v hv;rw[List.getElem?_mapIdx]at hv;simp only[N8]at hv;obtain⟨v0,h1,rfl⟩:=hv;have hlt:i<rows.length:=by rw[<-hlen];exact(N5.1 h1).1
  exact⟨v0,rows[i],h1,NA hlt,by simp[fx,NA hlt]⟩
 have hbk:∀(v:Value) r b,blk (X0k v r)=some b->blk v=some b:=by
  intro v r b hb;cases r with
  |none=>cases hb
  |some r=>exact hb
 have hob:Q0 F (upd T d (.agg (o::is.mapIdx fx).toArray)) w B (.agg (o::is.mapIdx fx).toArray) (.mat e e' s (rows.map fun r=>some (r.getD []))):=by
  refine⟨o,is.mapIdx fx,rfl,h0,by simp[hlen],⟨xs,by simpa using hown,fun i v r hv hr'=>?_⟩,fun i v r hv hr'=>?_,fun i v b hv hb=>?_,fun i j u v b hi hj hne hb=>?_⟩
  .obtain⟨v0,r0,h1,h2,rfl⟩:=hgi i v hv;rw[Np,h2]at hr';cases hr';exact hxs i v0 r0 h1 h2
  .obtain⟨v0,r0,h1,h2,rfl⟩:=hgi i v hv;rw[Np,h2]at hr';cases hr';cases r0 with
   |none=>exact⟨h0,by simp,[],QN.nil w B e' s,by simp,fun i j d hd=>by simp[XN]at hd⟩
   |some r0=>exact hin i v0 (some r0) h1 h2
  .obtain⟨v0,r0,h1,h2,rfl⟩:=hgi i v hv;exact hd1 i v0 b h1 (hbk _ _ _ hb)
  obtain⟨v0,r0,h1,h2,rfl⟩:=hgi i u hi;obtain⟨v1,r1,h3,h4,rfl⟩:=hgi j v hj;exact fun h5=>hd2 i j v0 v1 b h1 h3 hne (hbk _ _ _ hb) (hbk _ _ _ h5)
 have hHR:HeapRel w0 B U F (upd T d (.agg (o::is.mapIdx fx).toArray)) (ins d (.mat e e' s (rows.map fun r=>some (r.getD []))) (del n x.objs)) w:=by
  refine hr.heap.moved (ns:=[n]) (by simp[h]) (fun m o hm=>by obtain⟨h1,h2⟩:=Ql hm;exact⟨by simpa using h1,h2⟩) (WG hu) hr.heap.below (NK _) (fun _ _ _=>rfl) (fun b hb=>.inr ⟨n,by simp,?_⟩) (X0a hu) hob;rw[hγ];obtain⟨u,hu1,hu2⟩:=hb;simp only[List.mem_toArray,Nh]at hu1;rcases hu1 with rfl|hu1
  .exact⟨u,by simp,hu2⟩
  obtain⟨i,hi⟩:=NL.1 hu1;obtain⟨v0,r0,h1,h2,rfl⟩:=hgi i u hi;exact⟨v0,by simp[N3 h1],hbk _ _ _ hu2⟩
 have hhd:hd (Value.agg (o::is.mapIdx fx).toArray)=hd (T n):=by rw[hγ];rfl
 have hh2:hd (upd T d (.agg (o::is.mapIdx fx).toArray) d)=hd (upd T d (.agg (o::is.mapIdx fx).toArray) n):=by rw[Xt,Xe _ hnd];exact hhd
 refine⟨F,upd T d (.agg (o::is.mapIdx fx).toArray),fun _ h=>h,fun _ h=>.inl h,⟨hHR.mapd hnd hhd,hr.defers,hr.nt,fun k r hk=>?_⟩⟩;rw[ZC]at hk;simp only[N8]at hk;obtain⟨r0,h1,rfl⟩:=hk;exact((hr.regs k r0 h1).upd (Z2 hu h1)).mv hh2
def ConE (P:Program) (f:FuncId):Prop:=
 Q5 P f=true/\∀(w:World) (p:Option Addr) (cap:Nat),Calls P f #[.slice p 0 cap] w fun x w'=>x=.returned (.tuple #[])/\w'=w
def subEP (s:HS) (o:Oper):Option (FuncId×Nat):=
 match o.guard,o.op,o.dst with
 | none, .call {callee:=.value x,args:=args, .. },some d=>match X23 (opd s.regs x),args.toList with
   | some (f,[]),[y]=>match opd s.regs y with
     | .v (.one (.sub n i))=>match lkp s.objs n with
       | some (.mat _ _ _ rows)=>match rows[i]? with
         |some (some [])=>if XP s (some d)=true then some (f,d)else none
         |_=>none
       |_=>none
     |_=>none
   |_,_=>none
 |_,_,_=>none
theorem QF.subE {ops:Array Oper} {k:Nat} {s:HS} {o:Oper} {f:FuncId} {d:Nat} (h1:ops[k]? =some o) (h:subEP s o=some (f,d)) (hcon:ConE P f):QF P ops k 1 s (fun u=>u=s.put (some d) (.tup [])):=by
 intro w0 B U F T a w Q Xr hr hK;unfold subEP at h;split at h
 .rename_i x as0 ats d1 hg ho hd1;split at h
  .rename_i f1 y hx has;split at h
   .rename_i n1 i1 hy;split at h
    .rename_i e1 e1' sz1 rows1 hl;split at h
     .rename_i hri;split at h
      .rename_i hok;cases h;have eas:as0= #[y]:=by obtain⟨l⟩:=as0;simpa using has
       subst eas;obtain⟨hcall,hcon⟩:=hcon;obtain⟨cvs,hv,hcl,_⟩:=Zx hx (hr.opd x);have hcv:cvs=[]:=Nv (by simpa using hcl);subst hcv;have hv':a.eval x=.func (.func f) #[] #[]:=hv;have hyv:=hr.opd y;rw[hy]at hyv;obtain⟨vs,hvs,hsub,hv1,hvu⟩:=hyv;obtain⟨o',is,hγ,h0,hlen,⟨xs,hown,hxs⟩,hin,hd1',hd2⟩:=hr.heap.ob _ _ hl;rw[hγ]at hvs;cases hvs;have hvi:is[i1]? =some (a.eval y):=by simpa using hsub
       have hro:Xv F w B e1' sz1 (a.eval y) []:=hin i1 _ (some []) hvi hri
       obtain⟨p,cap,hpv⟩:∃p cap,a.eval y=.slice p 0 cap:=by
        obtain⟨_,_,xs,hown,_⟩:=hro;rcases hown.2 with⟨hv,_⟩|⟨b,oo,cap,cur,hv,_⟩
        .exact⟨_,_,hv⟩
        exact⟨_,_,hv⟩
       have hrun:(execOp a.eval o).run P w=.ok (.enter f (#[y].map a.eval)) w:=by
        unfold Q5 at hcall;split at hcall
        .rename_i fn hfn;simp only[N4,Nw]at hcall;have hnm:¬fn.name= "runtime.NumGoroutine" :=by simpa using hcall.1
         have hnb:¬fn.body=none:=by
          intro hb;rw[hb]at hcall;cases hcall.2
         simp[execOp,ho,resolve,hv',Deferred.ofValue,invoke,callFunc,hfn,hnm,hnb]
        cases hcall
       show wpOps P ops Q (k::Xr) a w;rw[wpOps_cons];unfold wpOp;rw[h1];simp only;have hwant:Region.wanted o (yielded ops a.tmps)=true:=by unfold Region.wanted;rw[hg]
       rw[hwant];simp only[Nf];refine .inl ?_;unfold Oper.wp;rw[hrun,Oper.upon_enter];have hargs:(#[y].map a.eval:Array Value)= #[.slice p 0 cap]:=by simp[hpv]
       rw[hargs];refine(hcon w p cap).mono ?_;rintro z w' ⟨rfl,rfl⟩;refine hK _ F T _ _ rfl (fun _ h=>h) (fun _ h=>.inl h) ?_;rw[hd1];exact hr.step (dst:=some d) hok (F':=F) (T':=T) hr.heap ⟨#[],rfl,rfl,fun j t u h1 h2=>by simp at h1⟩ fun _ _ _ _ hv=>hv
      cases h
     cases h
    cases h
   cases h
  cases h
 cases h
theorem RunsN.subE {ops:Array Oper} {l:List Oper} {s:HS} {K:HS->Prop} {o:Oper} {f:FuncId} {d:Nat} (h:subEP s o=some (f,d)) (hcon:ConE P f) (hr:RunsN P ops l (s.put (some d) (.tup [])) K):RunsN P ops (o::l) s K:=by
 refine .many (M:=fun u=>u=_) 1 (fun k hk=>?_) fun u hu=>by rw[hu];exact hr
 exact QF.subE (hk 0 o rfl) h hcon
end
abbrev D3:=Int×Int×Int
def d3V (x:D3):Value:=.agg #[.int .i64 x.1,.int .i64 x.2.1,.int .i64 x.2.2]
def d3C (x:D3):List CV:=[.c (.lit (.int .i64 x.1)),.c (.lit (.int .i64 x.2.1)),.c (.lit (.int .i64 x.2.2))]
def d3M (l:List D3):List (Value×CD):=l.map fun x=>(d3V x,.lit (.bool true))
def d3T (P:Program) (t:TypeId):Bool:=match P.underlying t with
 | some (.map k _)=>match X4X P k with
   |some [true,true,true]=>true
   |_=>false
 |_=>false
section
variable {P:Program} {F:Nat->Prop} {T T':Nat->Value} {w w' w0:World} {B:Nat->Prop} {U:Nat->Option Value}
theorem d3T_some {t:TypeId} (h:d3T P t=true):∃k e fs,P.underlying t=some (.map k e)/\P.underlying k=some (.struct fs)/\P.stoodInHeld k=false/\ZG P fs.toList 0=some [true,true,true]:=by
 unfold d3T at h;split at h
 .rename_i k e hu;split at h
  .rename_i hf;unfold X4X at hf;split at hf
   .rename_i fs hk;split at hf
    .rename_i hc;exact⟨k,e,fs,hu,hk,hc.1,hf⟩
    cases hf
   cases hf
  cases h
 cases h
theorem d3_eqFs (a b:D3):eqFs [true,true,true] (d3C a) (d3C b)=some (decide (a=b)):=by
 obtain⟨a1,a2,a3⟩:=a;obtain⟨b1,b2,b3⟩:=b;simp only[d3C,eqFs,Nf,Option.map_some,Option.some.injEq];rw[Dk];simp
theorem Xan (a:D3):Xq F T w (d3C a) #[.int .i64 a.1,.int .i64 a.2.1,.int .i64 a.2.2]:=by
 refine⟨rfl,fun j x u hx hu=>?_⟩
 match j with
 |0=>cases hx;cases hu;exact CRel.lit _
 |1=>cases hx;cases hu;exact CRel.lit _
 |2=>cases hx;cases hu;exact CRel.lit _
 |j+3=>simp[d3C]at hx
theorem d3_equal {k:TypeId} {fs:Array Field} (hk:P.underlying k=some (.struct fs)) (hs:P.stoodInHeld k=false) (hf:ZG P fs.toList 0=some [true,true,true]) (a b:D3):(Op.equal k (d3V a) (d3V b)).run P w=.ok (decide (a=b)) w:=by
 have hfo:P.fieldsOf k=fs:=by unfold Program.fieldsOf;rw[hk]
 have ha:=Xan (F:=fun _=>False) (T:=fun _=>undef) (w:=w) a;have hb:=Xan (F:=fun _=>False) (T:=fun _=>undef) (w:=w) b;show(Op.equalIn 10000 k (.agg _) (.agg _)).run P w=_;rw[show(10000:Nat)=(9998+1)+1 from rfl,run_equalIn_agg w (9998+1) k _ _ (by rw[hfo];exact hk) hs,hfo];exact X2W [true,true,true] (d3C a) (d3C b) _ fs.toList 0 _ _ hf (d3_eqFs a b) rfl rfl (fun j x u h1 h2=>ha.2 j x u h1 (by simpa using h2)) (fun j x u h1 h2=>hb.2 j x u h1 (by simpa using h2))
theorem X8q {k:TypeId} {fs:Array Field} (hk:P.underlying k=some (.struct fs)) (hf:ZG P fs.toList 0=some [true,true,true]) (em:Bool) (a:D3):(Instr.checkKey em 10000 k (d3V a)).run P w=.ok () w:=by
 show(Instr.checkKey em (9998+1+1) k (d3V a)).run P w=_;generalize 9998=n;unfold Instr.checkKey;simp only[d3V,Sem.run_bind,run_underlying hk,Result.andThen_ok];rw[<-Array.forIn_toList]
 have key:∀(l:List Field) (ks:List Bool) (i:Nat),ZG P l i=some ks->(∀j,j<l.length->∃m,(#[Value.int .i64 a.1,.int .i64 a.2.1,.int .i64 a.2.2]:Array Value)[i+j]? =some (.int .i64 m))->
   (forIn l PUnit.unit fun f _=>(if f.name≠ "_" then(do
     let v<-part f.type #[Value.int .i64 a.1,.int .i64 a.2.1,.int .i64 a.2.2] f.offset
     Instr.checkKey em (n+1) f.type v
     pure (ForInStep.yield PUnit.unit))else pure (ForInStep.yield PUnit.unit):Sem (ForInStep PUnit))).run P w=.ok PUnit.unit w:=by
  intro l
  induction l with
  |nil=>intro ks i _ _;simp
  | cons f l ih=>
    intro ks i hks hj;unfold ZG at hks;split at hks
    .rename_i a' b' h1 h2
     have hih:=ih _ _ h2 fun j hj'=>by
      obtain⟨m,hm⟩:=hj (j+1) (by simp only[List.length_cons];omega);exact⟨m,by rw[<-hm];congr 1;omega⟩
     obtain⟨m,hm⟩:=hj 0 (by simp);rw[Nat.add_zero]at hm;unfold fkind at h1;split at h1
     .rename_i hn
      have hty:(∃q,P.underlying f.type=some (.int q))\/P.underlying f.type=some .string:=by
       split at h1
       .exact .inl ⟨_,by assumption⟩
       .exact .inr (by assumption)
       cases h1
      have hp:=X13 (P:=P) (w:=w) hty hm
      have hck:(Instr.checkKey em (n+1) f.type (.int .i64 m)).run P w=.ok () w:=by
       unfold Instr.checkKey;rcases hty with⟨q,hq⟩|hq<;>simp[run_underlying hq]
      simp only[List.forIn_cons,Sem.run_bind,ne_eq,hn.1,not_false_eq_true,Nf,hn.2,hp,Result.andThen_ok,hck,Sem.run_pure];exact hih
     cases h1
    cases hks
 have hlen:fs.toList.length=3:=by
  have:∀(l:List Field) (ks:List Bool) (i:Nat),ZG P l i=some ks->l.length=ks.length:=by
   intro l
   induction l with
   |nil=>intro ks i h;cases h;rfl
   | cons f l ih=>
     intro ks i h;unfold ZG at h;split at h
     .rename_i a' b' h1 h2;cases h;simp[ih _ _ h2]
     cases h
  exact this _ _ _ hf
 have hcell:∀j,j<fs.toList.length->∃m,(#[Value.int .i64 a.1,.int .i64 a.2.1,.int .i64 a.2.2]:Array Value)[0+j]? =some (.int .i64 m):=by
  intro j hj;rw[hlen]at hj
  match j,hj with
  |0,_=>exact⟨_,rfl⟩
  |1,_=>exact⟨_,rfl⟩
  |2,_=>exact⟨_,rfl⟩
 rw[key fs.toList _ 0 hf hcell];rfl
theorem Xb5 {k:TypeId} {fs:Array Field} (hk:P.underlying k=some (.struct fs)) (hs:P.stoodInHeld k=false) (hf:ZG P fs.toList 0=some [true,true,true]) (x:D3):∀(es:List MapEntry) (l:List D3) (i:Nat),es.map (·.key)=l.map d3V->
  (x∉l/\(Instr.findAsking k (d3V x) es i).run P w=.ok none w)\/(x∈l/\∃(j:Nat) (v:Value) (e:MapEntry),(Instr.findAsking k (d3V x) es i).run P w=.ok (some (i+j,v)) w/\es[j]? =some e/\e.key=d3V x)
 |[],[],i,_=>.inl ⟨by simp,by simp[Instr.findAsking]⟩
 | e::es,y::l,i,h=>by
   simp only[Ni,List.cons.injEq]at h;have heq:=d3_equal (w:=w) hk hs hf x y;by_cases hxy:x=y
   .subst hxy;refine .inr ⟨by simp,0,e.val,e,?_,rfl,h.1⟩;unfold Instr.findAsking;simp[h.1,heq]
   rcases Xb5 hk hs hf x es l (i+1) h.2 with⟨h1,h2⟩|⟨h1,j,v,e',h2,h3,h4⟩
   .refine .inl ⟨by simp[hxy,h1],?_⟩;unfold Instr.findAsking;simp[h.1,heq,hxy,h2]
   refine .inr ⟨by simp[h1],j+1,v,e',?_,by simpa using h3,h4⟩;unfold Instr.findAsking;simp only[h.1,Sem.run_bind,heq,Result.andThen_ok,hxy,decide_false,Nz,Nc,h2];congr 3;omega
 |[],_::_,_,h=>by simp at h
 |_::_,[],_,h=>by simp at h
theorem Xa8 {k:TypeId} {fs:Array Field} (hk:P.underlying k=some (.struct fs)) (hs:P.stoodInHeld k=false) (hf:ZG P fs.toList 0=some [true,true,true]) (x:D3) (es:List MapEntry) (l:List D3) (h:es.map (·.key)=l.map d3V):
  (x∉l/\(Instr.findKey k (d3V x) es).run P w=.ok none w)\/(x∈l/\∃(j:Nat) (v:Value) (e:MapEntry),(Instr.findKey k (d3V x) es).run P w=.ok (some (j,v)) w/\es[j]? =some e/\e.key=d3V x):=by
 unfold Instr.findKey;simp only[Sem.run_bind,run_underlying hk,Result.andThen_ok];cases es with
 | nil=>
   cases l with
   |nil=>exact .inl ⟨by simp,by simp[Instr.findNow]⟩
   |cons _ _=>simp at h
 | cons e es=>
   have hn:Instr.findNow (.struct fs) (d3V x) (e::es) 0=none:=by simp[Instr.findNow,Instr.sameNow,d3V]
   rw[hn];rcases Xb5 (w:=w) hk hs hf x (e::es) l 0 h with h1|⟨h1,j,v,e',h2,h3⟩
   .exact .inl h1
   rw[Nat.zero_add]at h2;exact .inr ⟨h1,j,v,e',h2,h3⟩
def ins3 (l:List D3) (x:D3):List D3:=if x∈l then l else l++[x]
theorem QF.upd3 {ops:Array Oper} {q:Nat} {o:Oper} {s:HS} {n:Nat} {t:TypeId} {m k v:Operand} {l:List D3} {x:D3} (hop:ops[q]? =some o) (hg:o.guard=none) (ho:o.op=.mapUpdate t m k v) (hok:XP s o.dst=true) (ht:d3T P t=true)
  (hm:opd s.regs m=.v (.one (.own n))) (hl:lkp s.objs n=some (.mp (d3M l))) (hk:opd s.regs k=.v (.agg (d3C x))) (hv:opd s.regs v=lit (.bool true)):
  QF P ops q 1 s (fun u=>u=({s with objs:=ins n (.mp (d3M (ins3 l x))) s.objs}:HS).put o.dst (.v (.one .any))):=by
 intro w0 B U F T a w Q Xr hr hK;obtain⟨kt,e,fs,hu,hku,hst,hfk⟩:=d3T_some ht;obtain⟨b,es,clock,hγ,hB,hb,hkeys,hborn,hrel⟩:=hr.heap.ob n _ hl;have hmv:=hr.opd m;rw[hm]at hmv;have hvm:a.eval m=.map (some b):=by rw[hmv.1,hγ];rfl
 have hkv:=hr.opd k;rw[hk]at hkv
 have ek:a.eval k=d3V x:=by
  obtain⟨vs,h1,h2⟩:=hkv;rw[h1];unfold d3V;congr 1;have lit0:∀{v u:Value},Xs F T w (.c (.lit v)) u->u=v:=fun {v u} h=>Xa.lit_eq (T:=T) (w:=w) (F:=F) (r:=lit v) rfl h;have hsz:vs.size=3:=h2.1;apply Array.ext (by rw[hsz];rfl);intro j h3 h4
  match j,h3 with
  |0,h3=>exact lit0 (h2.2 0 _ vs[0] rfl (by simp[h3]))
  |1,h3=>exact lit0 (h2.2 1 _ vs[1] rfl (by simp[h3]))
  |2,h3=>exact lit0 (h2.2 2 _ vs[2] rfl (by simp[h3]))
  |j+3,h3=>omega
 have ev:a.eval v=.bool true:=Xa.lit_eq rfl (by have:=hr.opd v;rw[hv]at this;exact this);have hkeys':es.toList.map (·.key)=l.map d3V:=by rw[hkeys];simp[d3M]
 have hlen:es.size=l.length:=by have:=congrArg List.length hkeys';simpa using this
 have hlt:=Z4 hb;have hBn:Blk (T n) b:=by rw[hγ];rfl
 have hck:=X8q (w:=w) hku hfk false x;show wpOps P ops Q (q::Xr) a w;rw[wpOps_cons];unfold wpOp;rw[hop];simp only;have hwant:Region.wanted o (yielded ops a.tmps)=true:=by unfold Region.wanted;rw[hg]
 rw[hwant];simp only[Nf];refine .inl ?_;unfold Oper.wp
 have fin:∀(es':Array MapEntry) (clock':Nat),(execOp a.eval o).run P w=.ok .skip {w with heap:=w.heap.setIfInBounds b (.map es' clock')}->
   Q0 F T {w with heap:=w.heap.setIfInBounds b (.map es' clock')} B (.map (some b)) (.mp (d3M (ins3 l x)))->(execOp a.eval o).run P w=.ok .skip {w with heap:=w.heap.setIfInBounds b (.map es' clock')}/\o.upon P a (fun a w=>wpOps P ops Q Xr a w) Q (.ok .skip {w with heap:=w.heap.setIfInBounds b (.map es' clock')}):=by
  intro es' clock' hrun hob;refine⟨hrun,?_⟩;rw[Oper.upon_skip];have hkeep:∀c,c≠b->(w.heap.setIfInBounds b (.map es' clock'))[c]? =w.heap[c]? :=fun c hc=>by rw[NI (Ne.symm hc)]
  have hFk:∀c,F c->(w.heap.setIfInBounds b (.map es' clock'))[c]? =w.heap[c]? :=fun c hc=>hkeep c fun e'=>hr.heap.apart n _ hl b hBn (e'▸hc);refine hK _ F T _ _ rfl (fun _ h=>h) (fun _ h=>.inl h) ?_;refine hr.step (dst:=o.dst) (r:=.v (.one .any)) hok (F':=F) (T':=T) (hr.heap.wrote hl (b:=b) hBn ⟨hr.heap.below.os,hr.heap.below.tape,hr.heap.below.output,by simpa using hr.heap.below.size,fun c hc=>(hkeep c fun e'=>hB (e'▸hc)).trans (hr.heap.below.block c hc)⟩ (by simp) (fun c _ hne=>hkeep c hne) (by rw[hγ];exact hob)) trivial fun _ _ _ _ hv=>hv.mono (fun _ h=>h) hFk
 rcases Xa8 (w:=w) hku hst hfk x es.toList l hkeys' with⟨hx,hfind⟩|⟨hx,j0,v0,e0,hfind,he0,hk0⟩
 .have hi3:ins3 l x=l++[x]:=by unfold ins3;rw[N7 hx]
  obtain⟨h1,h2⟩:=fin (es.push {key:=d3V x,val:=.bool true,born:=clock}) (clock+1) (by
   unfold execOp;rw[ho];simp only[hvm,ek,ev];simp[Instr.mapUpdate,run_underlying hu,MapKept.run_getObj_map hb,hck,hfind,MapKept.run_setObj_map _ hb]) (by
   refine⟨b,es.push {key:=d3V x,val:=.bool true,born:=clock},clock+1,rfl,hB,by simp[hlt],by simp[hkeys',hi3,d3M],hborn.push _ _,fun j k d e h1 h2=>?_⟩
   have hd:d=.lit (.bool true):=by
    simp only[d3M,Np,N8]at h1;obtain⟨_,_,h1⟩:=h1;cases h1;rfl
   subst hd;rw[Array.getElem?_push]at h2;split at h2
   .cases h2;exact CRel.lit _
   rename_i hj;have hjl:j<l.length:=by rw[<-hlen];exact(NM.1 h2).1
   have h3:=hrel j (d3V l[j]) (.lit (.bool true)) e (by simp[d3M,hjl]) h2;rw[show e.val=.bool true from Xa.lit_eq (T:=T) (w:=w) (F:=F) (r:=lit (.bool true)) rfl h3]
   exact CRel.lit _)
  rw[h1];exact h2
 have hi3:ins3 l x=l:=by unfold ins3;rw[Na hx]
 have he0':es[j0]? =some e0:=by simpa using he0
 have hstay:(Instr.keyThatStays (((es[j0]?).map (·.key)).getD (d3V x)) (d3V x)).run P w=.ok (d3V x) w:=by
  rw[he0',Option.map_some,Option.getD_some,hk0]
  have:Instr.sameBits 10000 (d3V x) (d3V x)=true:=by
   show Instr.sameBits (9999+1) (d3V x) (d3V x)=true;simp[d3V,Instr.sameBits]
  simp[Instr.keyThatStays,this]
 obtain⟨h1,h2⟩:=fin (es.modify j0 fun e=>{e with key:=d3V x,val:=.bool true}) clock (by
  unfold execOp;rw[ho];simp only[hvm,ek,ev];simp[Instr.mapUpdate,run_underlying hu,MapKept.run_getObj_map hb,hck,hfind,hstay,MapKept.run_setObj_map _ hb]) (by
  refine⟨b,es.modify j0 fun e=>{e with key:=d3V x,val:=.bool true},clock,rfl,hB,by simp[hlt],?_,hborn.modify _ _ fun _=>rfl,fun j k d e h1 h2=>?_⟩
  .rw[hi3,show(d3M l).map (·.1)=l.map d3V by simp[d3M],<-hkeys'];apply NN;intro j;simp only[Np,D8,Dw];by_cases hj:j0=j
   .subst hj;rw[Na rfl,he0'];simp[hk0]
   rw[N7 hj]
  rw[hi3]at h1
  have hd:d=.lit (.bool true):=by
   simp only[d3M,Np,N8]at h1;obtain⟨_,_,h1⟩:=h1;cases h1;rfl
  subst hd;rw[Dw]at h2;by_cases hj:j0=j
  .subst hj;rw[Na rfl,he0']at h2;cases h2;exact CRel.lit _
  rw[N7 hj]at h2;have hjl:j<l.length:=by rw[<-hlen];exact(NM.1 h2).1
  have h3:=hrel j (d3V l[j]) (.lit (.bool true)) e (by simp[d3M,hjl]) h2;rw[show e.val=.bool true from Xa.lit_eq (T:=T) (w:=w) (F:=F) (r:=lit (.bool true)) rfl h3]
  exact CRel.lit _)
 rw[h1];exact h2
theorem RunsN.upd3 {ops:Array Oper} {l0:List Oper} {o:Oper} {s:HS} {K:HS->Prop} {n:Nat} {t:TypeId} {m k v:Operand} {l:List D3} {x:D3} (hg:o.guard=none) (ho:o.op=.mapUpdate t m k v) (hok:XP s o.dst=true) (ht:d3T P t=true)
  (hm:opd s.regs m=.v (.one (.own n))) (hl:lkp s.objs n=some (.mp (d3M l))) (hk:opd s.regs k=.v (.agg (d3C x))) (hv:opd s.regs v=lit (.bool true))
  (hr:RunsN P ops l0 (({s with objs:=ins n (.mp (d3M (ins3 l x))) s.objs}:HS).put o.dst (.v (.one .any))) K):RunsN P ops (o::l0) s K:=by
 refine .many (M:=fun u=>u=_) 1 (fun q hq=>?_) fun u hu=>by rw[hu];exact hr
 exact QF.upd3 (hq 0 o rfl) hg ho hok ht hm hl hk hv
theorem le_d3 {x:HS} (d:Nat) (y:D3) (h:lkp x.regs d=some (.v (.one (.c (.lit (d3V y)))))):le x {x with regs:=ins d (.v (.agg (d3C y))) x.regs}:=by
 intro w0 B U F T a w hr;refine⟨F,T,fun _ h=>h,fun _ h=>.inl h,⟨hr.heap,hr.defers,hr.nt,fun k r hk=>?_⟩⟩;rw[XQ]at hk;split at hk
 .rename_i e;subst e;cases hk;have h1:=hr.regs _ _ h;have h2:=Xa.lit_eq rfl h1;rw[h2];exact⟨_,rfl,Xan y⟩
 exact hr.regs k r hk
end
section
variable {P:Program} {ops:Array Oper}
theorem any_ind {TR:List Nat->Act->World->Prop} {Q:Exit->Act->World->Prop} (hfw:X5a ops=true)
  (hstep:∀(R:List Nat) (i:Nat) (o:Oper),ops[i]? =some o->i∈R->(∀e∈o.after.toList,Region.binds .any e=true->e.on∉R)->∀a w,TR R a w->∀Kc,(∀a' w',TR (Qv R i) a' w'->Kc a' w')->wpOp P ops Q i Kc a w):
  ∀(fuel:Nat) (listed:Array Bool) (a:Act) (w:World),listed.size=ops.size->(Xr ops listed).length<=fuel->TR (Xr ops listed) a w->
  (∀a' w',TR [] a' w'->Q .normal a' w')->wpAny P .any ops Q fuel listed a w:=by
 have hnr:∀listed:Array Bool,Xr ops listed=[]->Region.ready .any ops listed=[]:=by
  intro listed h0;refine List.eq_nil_iff_forall_not_mem.2 fun i hi=>?_;obtain⟨h1,h2,_⟩:=QI.1 hi;have:=XR.2 ⟨h1,h2⟩;rw[h0]at this;cases this
 have hrn:∀listed:Array Bool,listed.size=ops.size->Region.ready .any ops listed=[]->Xr ops listed=[]:=by
  intro listed hsz h0;cases hres:Xr ops listed with
  |nil=>rfl
  | cons i l=>
    have hi:i∈Xr ops listed:=by rw[hres];simp
    obtain⟨hlt,hun⟩:=XR.1 hi
    have:i∈Region.ready .any ops listed:=by
     refine QI.2 ⟨hlt,hun,ops[i],by simp[hlt],fun e he hb=>?_⟩
     have hon:e.on<i:=by
      unfold X5a at hfw;rw[Nm]at hfw;have h1:=hfw i (by simpa using hlt);rw[NC hlt]at h1;simp only[Nm]at h1;have h2:=h1 e (by simpa using he);simp only[hb,Bool.not_true,Bool.false_or,N6]at h2;exact h2
     have hnot:e.on∉Xr ops listed:=by
      intro hm;have hs:=Qo (ops:=ops) listed;rw[hres]at hs hm;rcases Nh.1 hm with e'|hm
      .omega
      have:=(NQ.1 hs).1 _ hm;omega
     rw[XR]at hnot;have hel:e.on<listed.size:=by omega
     rw[Nu,NC hel]at hnot⊢;simp only[Option.getD_some,not_and,Bool.not_eq_false]at hnot⊢;exact hnot (by omega)
    rw[h0]at this;cases this
 intro fuel
 induction fuel with
 | zero=>
   intro listed a w hsz hlen ht hK;have h0:Xr ops listed=[]:=Nv (by omega);rw[h0]at ht;exact⟨hnr listed h0,hK a w ht⟩
 | succ fuel ih=>
   intro listed a w hsz hlen ht hK;refine⟨fun h0=>?_,fun i hi=>?_⟩
   .rw[hrn listed hsz h0]at ht;exact hK a w ht
   obtain⟨hlt,hun,oi,hoi,hpre⟩:=QI.1 hi;have hir:i∈Xr ops listed:=XR.2 ⟨hlt,hun⟩;have hset:=X3w hsz hir;refine hstep _ i oi hoi hir (fun e he hb hm=>?_) a w ht _ fun a' w' hw=>?_
   .have h1:=hpre e (by simpa using he) hb;have h2:=XR.1 hm;have hel:e.on<listed.size:=by omega
    rw[Nu,NC hel]at h1;have h3:=h2.2;rw[Nu,NC hel]at h3;simp only[Option.getD_some]at h1 h3;rw[h1]at h3;cases h3
   refine ih (listed.setIfInBounds i true) a' w' (by simpa using hsz) ?_ (by rw[hset];exact hw) hK;obtain⟨x2,y2,g1,g2,_,_⟩:=X1y (Qo (ops:=ops) listed) hir;rw[hset,g2];rw[g1]at hlen;simp only[N9,List.length_cons]at hlen⊢;omega
theorem wp_ind {id:Nat} {TR:List Nat->Act->World->Prop} {Q:Exit->Act->World->Prop} {a:Act} {w:World} (hm:P.follows .mixedOrders=true) (hfw:X5a ops=true) (h0:TR (List.range ops.size) a {w with drawn:=w.drawn+1})
  (hstep:∀(R:List Nat) (i:Nat) (o:Oper),ops[i]? =some o->i∈R->(∀e∈o.after.toList,Region.binds .any e=true->e.on∉R)->∀a w,TR R a w->∀Kc,(∀a' w',TR (Qv R i) a' w'->Kc a' w')->wpOp P ops Q i Kc a w)
  (hq:∀a' w',TR [] a' w'->Q .normal a' w'):(Code.region id ops true).wp P Q a w:=by
 have hrest:Xr ops (Array.replicate ops.size false)=List.range ops.size:=by
  unfold Xr;refine DB.2 fun i hi=>?_;have:i<ops.size:=by simpa using hi
  simp[this]
 refine wp_region_any hm (any_ind (P:=P) (ops:=ops) (TR:=TR) hfw hstep ops.size (Array.replicate ops.size false) a {w with drawn:=w.drawn+1} (by simp) (by rw[hrest];simp) (by rw[hrest];exact h0) hq)
end
end Go.Hl
namespace Go.Hl
open Go
def X9T (P:Program) (f g:FuncId) (e:TypeId) (sz:Nat) (rs rs':List (List CD)):Prop:=
 Q5 P f=true/\∀(F:Nat->Prop) (B:Nat->Prop) (w:World) (v:Value),Xv F w B e sz v rs->(∀b,F b->b<w.heap.size)->(∀b,blk v=some b->¬F b)->
  Calls P f #[v,.func (.func g) #[] #[]] w fun x w'=>x=.returned (.tuple #[])/\w'.os=w.os/\w'.tape=w.tape/\w'.output=w.output/\w.heap.size<=w'.heap.size/\(∀k,k<w.heap.size->blk v≠some k->w'.heap[k]? =w.heap[k]?)/\Xv F w' B e sz v rs'
def X8P (s:HS) (o:Oper):Option (FuncId×FuncId×Nat×TypeId×Nat×List (List CD)×Nat):=
 match o.guard,o.op,o.dst with
 | none, .call {callee:=.value x,args:=args, .. },some d=>match X23 (opd s.regs x),args.toList with
   | some (f,[]),[y,z]=>match X23 (opd s.regs z)with
     | some (g,[])=>match opd s.regs y with
       | .v (.one (.own n))=>match lkp s.objs n with
         |some (.row e sz rs)=>if XP s (some d)=true/\0<rs.length then some (f,g,n,e,sz,rs,d)else none
         |_=>none
       |_=>none
     |_=>none
   |_,_=>none
 |_,_,_=>none
theorem QF.rowG {P:Program} {ops:Array Oper} {k:Nat} {s:HS} {o:Oper} {f g:FuncId} {n d sz:Nat} {e:TypeId} {rs rs':List (List CD)} (h1:ops[k]? =some o) (h:X8P s o=some (f,g,n,e,sz,rs,d))
  (hcon:X9T P f g e sz rs rs'):QF P ops k 1 s (fun u=>u=({s with objs:=ins n (.row e sz rs') s.objs}:HS).put (some d) (.tup [])):=by
 intro w0 B U F T a w Q Xr hr hK;unfold X8P at h;split at h
 .rename_i x as0 ats d1 hg ho hd1;split at h
  .rename_i f1 y z hx has;split at h
   .rename_i g1 hz;split at h
    .rename_i n1 hy;split at h
     .rename_i e1 sz1 rs1 hl;split at h
      .rename_i hc;obtain⟨hok,hlen0⟩:=hc;cases h;have eas:as0= #[y,z]:=by obtain⟨l⟩:=as0;simpa using has
       subst eas;obtain⟨hcall,hcon⟩:=hcon;obtain⟨cvs,hv,hcl,_⟩:=Zx hx (hr.opd x);have hcv:cvs=[]:=Nv (by simpa using hcl);subst hcv;have hv':a.eval x=.func (.func f) #[] #[]:=hv;obtain⟨cvz,hvz,hclz,_⟩:=Zx hz (hr.opd z);have hcz:cvz=[]:=Nv (by simpa using hclz);subst hcz;have hvz':a.eval z=.func (.func g) #[] #[]:=hvz;have hyv:=hr.opd y;rw[hy]at hyv;have hro:Xv F w B e sz (T n) rs:=hr.heap.ob n _ hl
       obtain⟨b,hb,hBn,hhd⟩:∃b,blk (T n)=some b/\Blk (T n) b/\hd (T n)=T n:=by
        obtain⟨_,_,xs,hown,_⟩:=hro;rcases hown.2 with⟨_,hn⟩|⟨b,oo,cap,cur,hv,_⟩
        .omega
        rw[hv];exact⟨b,rfl,rfl,rfl⟩
       have hγ:a.eval y=T n:=by rw[<-hhd];exact hyv.1
       have hrun:(execOp a.eval o).run P w=.ok (.enter f (#[y,z].map a.eval)) w:=by
        unfold Q5 at hcall;split at hcall
        .rename_i fn hfn;simp only[N4,Nw]at hcall;have hnm:¬fn.name= "runtime.NumGoroutine" :=by simpa using hcall.1
         have hnb:¬fn.body=none:=by
          intro hb;rw[hb]at hcall;cases hcall.2
         simp[execOp,ho,resolve,hv',Deferred.ofValue,invoke,callFunc,hfn,hnm,hnb]
        cases hcall
       show wpOps P ops Q (k::Xr) a w;rw[wpOps_cons];unfold wpOp;rw[h1];simp only;have hwant:Region.wanted o (yielded ops a.tmps)=true:=by unfold Region.wanted;rw[hg]
       rw[hwant];simp only[Nf];refine .inl ?_;unfold Oper.wp;rw[hrun,Oper.upon_enter];have hargs:(#[y,z].map a.eval:Array Value)= #[T n,.func (.func g) #[] #[]]:=by simp[hγ,hvz']
       rw[hargs];refine(hcon F B w (T n) hro hr.heap.fsz (fun c hc=>hr.heap.apart n _ hl c (by rw[hb]at hc;cases hc;exact hBn))).mono ?_;rintro zz w' ⟨rfl,q1,q2,q3,q4,q5,hro'⟩;have hkeep:∀c,c<w.heap.size->c≠b->w'.heap[c]? =w.heap[c]? :=fun c hc hne=>q5 c hc fun e=>hne (by rw[hb]at e;cases e;rfl);have hFk:∀c,F c->w'.heap[c]? =w.heap[c]? :=fun c hc=>hkeep c (hr.heap.fsz c hc) fun e'=>hr.heap.apart n _ hl b hBn (e'▸hc);have hkp:Kept B w0 w':=hr.heap.below.trans ⟨q1,q2,q3,q4,fun c hc=>hkeep c (hr.heap.hB c hc) fun e'=>((hr.heap.ob n _ hl).blk_lt hBn).1 (e'▸hc)⟩;have hob:Q0 F T w' B (T n) (.row e sz rs'):=hro';refine hK _ F T _ _ rfl (fun _ h=>h) (fun _ h=>.inl h) ?_;rw[hd1];exact hr.step (dst:=some d) hok (F':=F) (T':=T) (hr.heap.wrote hl (b:=b) hBn hkp q4 (fun c hc hne=>hkeep c hc hne) hob) ⟨#[],rfl,rfl,fun j t u h1 h2=>by simp at h1⟩ fun _ _ _ _ hv=>hv.mono (fun _ h=>h) hFk
      cases h
     cases h
    cases h
   cases h
  cases h
 cases h
theorem RunsN.rowG {P:Program} {ops:Array Oper} {l:List Oper} {s:HS} {K:HS->Prop} {o:Oper} {f g:FuncId} {n d sz:Nat} {e:TypeId} {rs rs':List (List CD)} (h:X8P s o=some (f,g,n,e,sz,rs,d)) (hcon:X9T P f g e sz rs rs')
  (hr:RunsN P ops l (({s with objs:=ins n (.row e sz rs') s.objs}:HS).put (some d) (.tup [])) K):RunsN P ops (o::l) s K:=by
 refine .many (M:=fun u=>u=_) 1 (fun k hk=>?_) fun u hu=>by rw[hu];exact hr
 exact QF.rowG (hk 0 o rfl) h hcon
end Go.Hl
