/- HmZO: part of an evaluator of Go code over abstract states, proved sound over the model; used by the proof of the claimed statement. Conditions: none. -/
import Derived.Test.YtdajceakaakdoaaGreatHmZN
set_option linter.unusedSimpArgs false
set_option linter.unusedVariables false
namespace Go.Hl
open Go Go.RowKit
section
variable {P:Program} {ops:Array Oper}
theorem Xan {B:Nat→Prop} {TR:List Nat→(Nat→Prop)→(Nat→Value)→Act→World→Prop} {cl:List (List Nat)} {Q:Exit→Act→World→Prop} (hfw:X4F ops=true) (hcl:clB ops cl=true)
  (hstep:∀R∈cl,∀i∈Zm ops R,∀F γ a w,TR R F γ a w→∀Kc,(∀F' γ' a' w',TR (Qj R i) F' γ' a' w'→(∀b,F b→F' b)→(∀b,F' b→F b∨¬B b)→Kc a' w')→wpOp P ops Q i Kc a w):
  ∀(fuel:Nat) (listed:Array Bool) (F:Nat→Prop) (γ:Nat→Value) (a:Act) (w:World),listed.size=ops.size→Xj ops listed∈cl→(Xj ops listed).length≤fuel→TR (Xj ops listed) F γ a w→
  (∀F' γ' a' w',TR [] F' γ' a' w'→(∀b,F b→F' b)→(∀b,F' b→F b∨¬B b)→Q .normal a' w')→wpAny P .any ops Q fuel listed a w:=by
 have hnr:∀listed:Array Bool,Xj ops listed=[]→Region.ready .any ops listed=[]:=by
  intro listed h0;refine List.eq_nil_iff_forall_not_mem.2 fun i hi=>?_;obtain⟨h1,h2,_⟩:=Qw.1 hi;have:=XM.2 ⟨h1,h2⟩;rw[h0]at this;cases this
 have hrn:∀listed:Array Bool,listed.size=ops.size→Region.ready .any ops listed=[]→Xj ops listed=[]:=by
  intro listed hsz h0;cases hres:Xj ops listed with
  |nil=>rfl
  | cons i l=>
    have hi:i∈Xj ops listed:=by rw[hres];simp
    obtain⟨hlt,hun⟩:=XM.1 hi
    have:i∈Region.ready .any ops listed:=by
     refine Qw.2 ⟨hlt,hun,ops[i],by simp[hlt],fun e he hb=>?_⟩
     have hon:e.on<i:=by
      unfold X4F at hfw;rw[List.all_eq_true]at hfw;have h1:=hfw i (by simpa using hlt);rw[Array.getElem?_eq_getElem hlt]at h1;simp only[List.all_eq_true]at h1;have h2:=h1 e (by simpa using he);simp only[hb,Bool.not_true,Bool.false_or,decide_eq_true_eq]at h2;exact h2
     have hnot:e.on∉Xj ops listed:=by
      intro hm;have hs:=Qd (ops:=ops) listed;rw[hres]at hs hm;rcases List.mem_cons.1 hm with e'|hm
      · omega
      have:=(List.pairwise_cons.1 hs).1 _ hm;omega
     rw[XM]at hnot;have hel:e.on<listed.size:=by omega
     rw[Array.getD_eq_getD_getElem?,Array.getElem?_eq_getElem hel]at hnot⊢;simp only[Option.getD_some,not_and,Bool.not_eq_false]at hnot⊢;exact hnot (by omega)
    rw[h0]at this;cases this
 intro fuel
 induction fuel with
 | zero=>
   intro listed F γ a w hsz hin hlen ht hK;have h0:Xj ops listed=[]:=List.eq_nil_of_length_eq_zero (by omega);rw[h0]at ht;exact⟨hnr listed h0,hK F γ a w ht (fun _ h=>h) (fun _ h=>.inl h)⟩
 | succ fuel ih=>
   intro listed F γ a w hsz hin hlen ht hK;refine⟨fun h0=>?_,fun i hi=>?_⟩
   · rw[hrn listed hsz h0]at ht;exact hK F γ a w ht (fun _ h=>h) (fun _ h=>.inl h)
   obtain⟨hlt,hun,oi,hoi,hpre⟩:=Qw.1 hi;have hir:i∈Xj ops listed:=XM.2 ⟨hlt,hun⟩;have hset:=X33 hsz hir
   have hir2:i∈Zm ops (Xj ops listed):=by
    refine List.mem_filter.2 ⟨hir,?_⟩;rw[hoi];simp only[List.all_eq_true,Bool.or_eq_true,Bool.not_eq_true'];intro e he;cases hb:Region.binds .any e with
    |false=>exact .inl rfl
    | true=>
      refine .inr ?_;have h1:=hpre e (by simpa using he) hb;refine Bool.eq_false_iff.2 fun hc=>?_;have h2:=XM.1 (by simpa using hc:e.on∈Xj ops listed);have hel:e.on<listed.size:=by omega
      rw[Array.getD_eq_getD_getElem?,Array.getElem?_eq_getElem hel]at h1;have h3:=h2.2;rw[Array.getD_eq_getD_getElem?,Array.getElem?_eq_getElem hel]at h3;simp only[Option.getD_some]at h1 h3;rw[h1]at h3;cases h3
   have hm:Qj (Xj ops listed) i∈cl:=by
    unfold clB at hcl;simp only[Bool.and_eq_true,List.all_eq_true]at hcl;simpa using hcl.2 _ hin i hir2
   refine hstep _ hin i hir2 F γ a w ht _ fun F' γ' a' w' hw h1 h2=>?_;refine ih (listed.setIfInBounds i true) F' γ' a' w' (by simpa using hsz) (by rw[hset];exact hm) ?_ (by rw[hset];exact hw) fun F3 γ3 a3 w3 hk h5 h6=>hK F3 γ3 a3 w3 hk (fun b hb=>h5 b (h1 b hb)) (fun b hb=>(h6 b hb).elim (h2 b) .inr);obtain⟨x2,y2,g1,g2,_,_⟩:=X1u (Qd (ops:=ops) listed) hir;rw[hset,g2];rw[g1]at hlen;simp only[List.length_append,List.length_cons]at hlen⊢;omega
theorem Xbg {id:Nat} (TR:World→(Nat→Prop)→(Nat→Option Value)→List Nat→(Nat→Prop)→(Nat→Value)→Act→World→Prop) (cl:List (List Nat)) {s:HS} {Q:Exit→HS→Prop} (hm:P.follows .mixedOrders=true) (hfw:X4F ops=true) (hcl:clB ops cl=true)
  (hs:∀w0 B π F γ a w,Rel w0 B π F γ s a w→TR w0 B π (List.range ops.size) F γ a w)
  (hstep:∀w0 B π,∀R∈cl,∀i∈Zm ops R,∀F γ a w,TR w0 B π R F γ a w→∀Q' Kc,(∀F' γ' a' w',TR w0 B π (Qj R i) F' γ' a' w'→(∀b,F b→F' b)→(∀b,F' b→F b∨¬B b)→Kc a' w')→wpOp P ops Q' i Kc a w)
  (hq:∀w0 B π F γ a w,TR w0 B π [] F γ a w→∃s',Q .normal s'∧Rel w0 B π F γ s' a w):HT P (.region id ops true) s Q:=by
 intro w0 B π F γ a w hr
 have hrest:Xj ops (Array.replicate ops.size false)=List.range ops.size:=by
  unfold Xj;refine List.filter_eq_self.2 fun i hi=>?_;have:i<ops.size:=by simpa using hi
  simp[this]
 have hin:List.range ops.size∈cl:=by
  unfold clB at hcl;simp only[Bool.and_eq_true]at hcl;simpa using hcl.1
 refine wp_region_any hm (Xan (P:=P) (ops:=ops) (B:=B) (TR:=TR w0 B π) (cl:=cl) hfw hcl (fun R hR i hi F γ a w ht Kc hK=>hstep w0 B π R hR i hi F γ a w ht _ Kc hK) ops.size (Array.replicate ops.size false) F γ a {w with drawn:=w.drawn+1} (by simp) (by rw[hrest];exact hin) (by rw[hrest];simp) (by
  rw[hrest]
  refine hs _ _ _ _ _ _ _ ⟨hr.heap.drew,hr.defers,hr.nt,fun k r hk=>(hr.regs k r hk).mono (w:=w) (w':={w with drawn:=w.drawn+1}) (fun _ h=>h) fun _ _=>rfl⟩) ?_)
 intro F' γ' a' w' hk h1 h2;obtain⟨s',h3,h4⟩:=hq _ _ _ _ _ _ _ hk;exact⟨s',F',γ',h3,h1,h2,h4⟩
theorem HeapRel.drop {F:Nat→Prop} {γ:Nat→Value} {w w' w0:World} {B:Nat→Prop} {π:Nat→Option Value} {objs:List (Nat×Ob)} {n:Nat} {on:Ob} (h:HeapRel w0 B π F γ objs w) (hl:lkp objs n=some on) (hb:Kept B w0 w') (hsz:w.heap.size≤w'.heap.size)
  (hkeep:∀k,k<w.heap.size→¬Blk (γ n) k→w'.heap[k]? =w.heap[k]?):HeapRel w0 B π F γ (del n objs) w':=by
 have hF:∀k,F k→w'.heap[k]? =w.heap[k]? :=fun k hk=>hkeep k (h.fsz k hk) fun e=>h.apart n on hl k e hk
 exact {
  below:=hb
  hB:=fun b hb=>Nat.lt_of_lt_of_le (h.hB b hb) hsz
  fsz:=fun k hk=>Nat.lt_of_lt_of_le (h.fsz k hk) hsz
  ob:=fun m o ho=>by
   obtain⟨hne,ho'⟩:=Q8 ho;have h1:=h.ob m o ho';exact h1.mono (fun _ h=>h) hF fun k hk=>hkeep k (h1.blk_lt hk).2 fun e=>h.sep m n _ _ ho' hl hne k hk e
  apart:=fun m o ho=>h.apart m o (Q8 ho).2
  sep:=fun m k om ok hm hk=>h.sep m k om ok (Q8 hm).2 (Q8 hk).2
  pin:=h.pin}
def Zp (P:Program) (w0:World) (B:Nat→Prop) (π:Nat→Option Value) (F:Nat→Prop) (γ:Nat→Value) (n i d:Nat) (tE:TypeId) (O:List (Nat×Ob)) (w:World) (v:Value) (b oo:Nat):Prop:=
 ∃(len cap:Nat) (W:World) (xx:Value),hd (γ n)=.slice (some ⟨b,oo,none⟩) len cap∧i<len∧(storeVar tE ⟨b,oo+i,none⟩ v).run P w=.ok () W∧hd xx=hd (γ n)∧HeapRel w0 B π F (upd γ d xx) O W∧∀c,F c→W.heap[c]? =w.heap[c]?
def X1j (P:Program) (ops:Array Oper) (nx rd:List Nat→HS) (p n i d1 d2 sz:Nat) (e e':TypeId) (x y xm xi:Operand) (te:TI) (rows:List (Option (List (List CD)))) (rs more:List (List CD)) (O:List (Nat×Ob)) (sF:HS) (R:List Nat) (j:Nat):Prop:=
 if R.contains p=true then
  if j=p then R.contains (p+1)=true∧(nx R).objs=O∧opd (nx R).regs x=.v (.one (.sub n i))∧Wh O te.size (opd (nx R).regs y)=some more∧QY d1 (nx R)=true∧XJ (nx R) (some d1)=true∧rd (Qj R p)=(({nx R with objs:=del n O}:HS).put (some d1) (.v (.one .any)))
  else XX P ops j (nx R) (fun u=>u=nx (Qj R j))
 else if R.contains (p+1)=true then
  if j=p+1 then(Qj R j).contains (p+2)=true∧opd (rd R).regs xm=.v (.one (.own n))∧Wc (opd (rd R).regs xi)=some (.int .i64 (i:Int))∧XJ (rd R) (some d2)=true∧rd (Qj R j)=(rd R).put (some d2) (.v (.one .any))
  else ∃o dst r,ops[j]? =some o∧o.guard=none∧o.dst=some dst∧dst≠d1∧XJ (rd R) (some dst)=true∧(evN P (opd (rd R).regs) o.op=some (r,none)∨evR P (rd R).objs (opd (rd R).regs) o.op=some r)∧rd (Qj R j)=(rd R).put (some dst) r
 else j=p+2∧QY d1 (rd R)=true∧Qj R j=[]∧sF=⟨(rd R).nt,Ws (RV.mv n d1) (rd R).regs,Ws (Ob.mv n d1) (ins d1 (.mat e e' sz (rows.set i (some (rs++more)))) (del n O))⟩
section
variable {nx rd:List Nat→HS} {p n i d1 d2 sz:Nat} {e e':TypeId} {x y xm xi:Operand} {te:TI} {rows:List (Option (List (List CD)))} {rs more:List (List CD)} {O:List (Nat×Ob)} {sF:HS} {R:List Nat} {j:Nat}
theorem stD_w (hp:R.contains p=true) (hj:j≠p) (h:XX P ops j (nx R) (fun u=>u=nx (Qj R j))):X1j P ops nx rd p n i d1 d2 sz e e' x y xm xi te rows rs more O sF R j:=by
 unfold X1j;rw[if_pos hp,if_neg hj];exact h
theorem stD_p (hp:R.contains p=true) (hj:j=p) (hq:R.contains (p+1)=true) (h1:(nx R).objs=O) (h2:opd (nx R).regs x=.v (.one (.sub n i))) (h3:Wh O te.size (opd (nx R).regs y)=some more) (h4:QY d1 (nx R)=true) (h5:XJ (nx R) (some d1)=true) (h6:rd (Qj R p)=(({nx R with objs:=del n O}:HS).put (some d1) (.v (.one .any)))):X1j P ops nx rd p n i d1 d2 sz e e' x y xm xi te rows rs more O sF R j:=by
 unfold X1j;rw[if_pos hp,if_pos hj];exact⟨hq,h1,h2,h3,h4,h5,h6⟩
theorem stD_q (hp:¬R.contains p=true) (hq:R.contains (p+1)=true) (hj:j=p+1) (h0:(Qj R j).contains (p+2)=true) (h1:opd (rd R).regs xm=.v (.one (.own n))) (h2:Wc (opd (rd R).regs xi)=some (.int .i64 (i:Int))) (h3:XJ (rd R) (some d2)=true) (h4:rd (Qj R j)=(rd R).put (some d2) (.v (.one .any))):X1j P ops nx rd p n i d1 d2 sz e e' x y xm xi te rows rs more O sF R j:=by
 unfold X1j;rw[if_neg hp,if_pos hq,if_pos hj];exact⟨h0,h1,h2,h3,h4⟩
theorem X6G {o:Oper} {dst:Nat} {r:RV} (hp:¬R.contains p=true) (hq:R.contains (p+1)=true) (hj:¬j=p+1) (h1:ops[j]? =some o) (h2:o.guard=none) (h3:o.dst=some dst) (h4:dst≠d1) (h5:XJ (rd R) (some dst)=true) (h6:evN P (opd (rd R).regs) o.op=some (r,none)∨evR P (rd R).objs (opd (rd R).regs) o.op=some r) (h7:rd (Qj R j)=(rd R).put (some dst) r):X1j P ops nx rd p n i d1 d2 sz e e' x y xm xi te rows rs more O sF R j:=by
 unfold X1j;rw[if_neg hp,if_pos hq,if_neg hj];exact⟨o,dst,r,h1,h2,h3,h4,h5,h6,h7⟩
theorem stD_z (hp:¬R.contains p=true) (hq:¬R.contains (p+1)=true) (hj:j=p+2) (h1:QY d1 (rd R)=true) (h2:Qj R j=[]) (h3:sF=⟨(rd R).nt,Ws (RV.mv n d1) (rd R).regs,Ws (Ob.mv n d1) (ins d1 (.mat e e' sz (rows.set i (some (rs++more)))) (del n O))⟩):X1j P ops nx rd p n i d1 d2 sz e e' x y xm xi te rows rs more O sF R j:=by
 unfold X1j;rw[if_neg hp,if_neg hq];exact⟨hj,h1,h2,h3⟩
end
theorem Xaw {id:Nat} {s sF:HS} {Q:Exit→HS→Prop} (nx rd:List Nat→HS) (nn M:Nat) (ms:List (Nat×List Nat)) (p:Nat) {o1 o2 o3:Oper} {x y xm xi:Operand} {t tM tE e e' eM:TypeId} {te tm tte:TI} {d1 d2 n i sz:Nat} {rows:List (Option (List (List CD)))} {rs more:List (List CD)} {O:List (Nat×Ob)}
  (hm:P.follows .mixedOrders=true) (hfw:X4F ops=true) (hn:Z9 nn M=List.range ops.size) (hcl:clB ops ([]::ms.map fun m=>Z9 nn m.1)=true) (hst:msB ops nn ms=true) (hpM:(Z9 nn M).contains p=true)
  (h1:ops[p]? =some o1) (h2:ops[p+1]? =some o2) (h3:ops[p+2]? =some o3) (hg1:o1.guard=none) (hg2:o2.guard=none) (hg3:o3.guard=none)
  (ho1:o1.op=.call {callee:=.builtin .append,args:= #[x,y],argTypes:= #[t,t]}) (ho2:o2.op=.indexAddr tM xm xi) (ho3:o3.op=.store tE (.tmp d2) (.tmp d1)) (hd1:o1.dst=some d1) (hd2:o2.dst=some d2) (hd3:o3.dst=none) (hdd:d1≠d2) (hnd:n≠d1)
  (he:Z2 P t=some e') (heM:Z2 P tM=some eM) (hte:XF P e'=some te) (htm:XF P eM=some tm) (htte:XF P tE=some tte) (hsz:te.size=sz) (hzl:te.zero.length=te.size) (hm1:tm.size=1) (ht1:tte.size=1)
  (hl:lkp O n=some (.mat e e' sz rows)) (hri:rows[i]? =some (some rs)) (hroom:Wa (rs.length+more.length) te.bytes)
  (h0:s=nx (Z9 nn M)) (hstep:X2i (fun m=>X2i (fun j=>X1j P ops nx rd p n i d1 d2 sz e e' x y xm xi te rows rs more O sF (Z9 nn m.1) j) m.2) ms) (hq:Q .normal sF):HT P (.region id ops true) s Q:=by
 refine Xbg (fun w0 B π R F γ a w=>if R.contains p=true then Rel w0 B π F γ (nx R) a w
  else if R.contains (p+1)=true then Rel w0 B π F γ (rd R) a w∧∃b oo,Zp P w0 B π F γ n i d1 tE (ins d1 (.mat e e' sz (rows.set i (some (rs++more)))) (del n O)) w (a.eval (.tmp d1)) b oo
  else if R=[] then Rel w0 B π F γ sF a w
  else Rel w0 B π F γ (rd R) a w∧∃b oo,a.eval (.tmp d2)=.pointer (some ⟨b,oo+i,none⟩)∧Zp P w0 B π F γ n i d1 tE (ins d1 (.mat e e' sz (rows.set i (some (rs++more)))) (del n O)) w (a.eval (.tmp d1)) b oo)
  ([]::ms.map fun m=>Z9 nn m.1) hm hfw hcl ?_ ?_ ?_
 · intro w0 B π F γ a w hr;rw[←hn,if_pos hpM,←h0];exact hr
 · intro w0 B π R hR j hj F γ a w hT Q' Kc hK;rcases List.mem_cons.1 hR with rfl|hR
   · simp[Zm]at hj
   obtain⟨m,hm1',rfl⟩:=List.mem_map.1 hR;unfold msB at hst;simp only[List.all_eq_true]at hst;have hS:=X1x (X1x hstep m hm1') j (by simpa using hst m hm1' j hj);obtain⟨R,hRR⟩:∃R,Z9 nn m.1=R:=⟨_,rfl⟩;rw[hRR]at hS hT hK hj;unfold X1j at hS;split at hS
   · rename_i hpR;rw[if_pos hpR]at hT;split at hS
     · rename_i hjp;subst hjp;obtain⟨hqR,hO,hx,hmore,hun,hok,hrd⟩:=hS
       have hpos:0<te.size:=by
        obtain⟨o',is,hγ,h0',_⟩:=hT.heap.ob n _ (by rw[hO];exact hl);omega
       have hxv:=hT.opd x;rw[hx]at hxv;have hh:HeapRel w0 B π F γ O w:=by rw[←hO];exact hT.heap
       obtain⟨hms,hsrc⟩:=X2v hpos hh (hT.opd y) hmore;have hdn:∀m o,lkp O m=some o→m≠d1∧¬o.men d1:=fun m o hm=>Ww hun m o (by rw[hO];exact hm);obtain⟨b,oo,len,cap,v',w1,W,xx,hob,hlt,hrun,hrunW,hhd,hhp,hFW⟩:=X9j (P:=P) (tE:=tE) (ty:=o1.type) hh hl hri hxv hdn (ZW hun) (Q4 he) hte hsz hzl htte ht1 hms hsrc hroom.1 hroom.2
       -- the world behind the append
       obtain⟨o',is,hγ,h0',hlen,⟨xs,hown,hxs⟩,hin,hq1,hq2⟩:=hh.ob n _ hl;obtain⟨vs,hγ',hvi,hv1,hvu⟩:=hxv;rw[hγ]at hγ';cases hγ';have hvi':is[i]? =some (a.eval x):=by simpa using hvi
       have hro:Xr F w B e' sz (a.eval x) rs:=hin i _ (some rs) hvi' hri;obtain⟨_,hss,xv,hownv,hx1,hxc⟩:=hro;have hvsl:=hownv.sl;have hbv:∀b,(a.eval x).ownBlock=some b→Blk (γ n) b:=fun b hb=>by rw[hγ];exact⟨a.eval x,by simp[List.mem_of_getElem? hvi'],by rw[X0i hvsl];exact hb⟩
       obtain⟨v2,w2,hrun2,hgr,_,_,hF2,_⟩:=X14 (P:=P) (w:=w) (B:=B) (F:=F) (ty:=o1.type) (src:=a.eval y) (more:=more) (rows:=rs) (v:=a.eval x) (xs:=xv) (Q4 he) hte (by omega) hzl (by rw[hsz];exact hownv) hh.hB
        (by rw[hsz];exact hss) hx1 (by rw[hsz];exact hxc) hms hsrc hroom.1 hroom.2 hh.fsz (fun b hb=>hh.apart n _ hl b (hbv b hb))
       rw[hrun]at hrun2;cases hrun2;have hk1:Kept B w0 w1:=hh.below.grown hgr hh.hB fun k hk hx=>((hh.ob n _ hl).blk_lt (hbv k hk)).1 hx;have hdrop:HeapRel w0 B π F γ (del n O) w1:=hh.drop hl hk1 hgr.size fun k hk hne=>hgr.block k hk fun e'=>hne (hbv k e'.symm);have hs1:d1<a.tmps.size:=by rw[hT.nt.1];simpa[XJ]using hok
       refine Qh (nx:=.value v') (v:=v') (w':=w1) h1 hg1 ?_ (.inl rfl) ?_
       · unfold execOp;rw[ho1];simp[resolve,invoke,builtin,hrun]
       rw[hd1]
       have hrel:Rel w0 B π F γ (rd (Qj R j)) (a.put (some d1) v') w1:=by
        rw[hrd];exact hT.step (dst:=some d1) (r:=.v (.one .any)) (v:=v') hok hdrop trivial fun _ _ _ _ hv=>hv.mono (fun _ h=>h) hF2
       have hno:¬(Qj R j).contains j=true:=by simp
       have hFb:∀c,F c→W.heap[c]? =w1.heap[c]? :=fun c hc=>(hFW c hc).trans (hF2 c hc).symm
       have hz:Zp P w0 B π F γ n i d1 tE (ins d1 (.mat e e' sz (rows.set i (some (rs++more)))) (del n O)) w1 ((a.put (some d1) v').eval (.tmp d1)) b oo:=by
        rw[X0R hs1];exact⟨len,cap,W,xx,hob,hlt,hrunW,hhd,hhp,hFb⟩
       refine hK F γ _ w1 ?_ (fun _ h=>h) (fun _ h=>.inl h);rw[if_neg hno,if_pos (by simpa using hqR)];exact⟨hrel,b,oo,hz⟩
     rename_i hjp;refine hS w0 B π F γ a w Kc Q' hT fun s' F' γ' a' w' hs' g1 g2 hr2=>hK F' γ' a' w' ?_ g1 g2;rw[if_pos (by simpa[Ne.symm hjp]using hpR),←hs'];exact hr2
   rename_i hpR;rw[if_neg hpR]at hT
   have hpR':¬(Qj R j).contains p=true:=by
    simp only[List.contains_iff_mem,Q2]at hpR⊢;exact fun h=>hpR h.1
   split at hS
   · rename_i hqR;rw[if_pos hqR]at hT;obtain⟨hr,b,oo,hz⟩:=hT;split at hS
     · rename_i hjq;subst hjq;obtain⟨hp2,hxm,hxi,hok,hrd⟩:=hS;obtain⟨len,cap,W,xx,hob,hlt,hrunW,hhd,hhp,hFW⟩:=hz;have hmv:=hr.opd xm;rw[hxm]at hmv;have hiv:=X9.lit_eq hxi (hr.opd xi);obtain⟨i',td,z,hi',htd,hz',g1,g2,g3,g4,g5⟩:=XC htm;have hs2:d2<a.tmps.size:=by rw[hr.nt.1];simpa[XJ]using hok
       refine Qh (nx:=.value (.pointer (some ⟨b,oo+i,none⟩))) (v:=.pointer (some ⟨b,oo+i,none⟩)) (w':=w) h2 hg2 ?_ (.inl rfl) ?_
       · unfold execOp;rw[ho2];have hvm:a.eval xm=.slice (some ⟨b,oo,none⟩) len cap:=by rw[hmv.1,hob]
         simp[hvm,hiv,Instr.indexAt,asIntOf,run_underlying (Q4 heM),hlt,XA hi',g1,hm1,QW]
       rw[hd2]
       have hrel:Rel w0 B π F γ (rd (Qj R (p+1))) (a.put (some d2) (.pointer (some ⟨b,oo+i,none⟩))) w:=by
        rw[hrd];exact hr.step (dst:=some d2) (r:=.v (.one .any)) hok hr.heap trivial fun _ _ _ _ hv=>hv
       refine hK F γ _ w ?_ (fun _ h=>h) (fun _ h=>.inl h);rw[if_neg hpR',if_neg (by simp),if_neg (by rintro h;rw[h]at hp2;simp at hp2)];refine⟨hrel,b,oo,X0R hs2,len,cap,W,xx,hob,hlt,?_,hhd,hhp,hFW⟩
       rwa [X09 (by simp[neT,hdd])]
     rename_i hjq;obtain⟨o,dst,r,hoj,hgj,hdj,hne,hok,hev,hrd⟩:=hS
     obtain⟨v,hrun,hrv⟩:∃v,(execOp a.eval o).run P w=.ok (.value v) w∧X9 F γ w r v:=by
      rcases hev with hev|hev
      · exact(X2a hr.opd hev).2
      exact X0T hr.heap hr.opd hev
     refine Qh (nx:=.value v) (v:=v) (w':=w) hoj hgj hrun (.inl rfl) ?_;rw[hdj];refine hK F γ _ w ?_ (fun _ h=>h) (fun _ h=>.inl h);rw[if_neg hpR',if_pos (by simpa[Ne.symm hjq]using hqR),hrd];refine⟨hr.step (dst:=some dst) hok hr.heap hrv fun _ _ _ _ hv=>hv,b,oo,?_⟩
     rwa [X09 (by simp[neT,Ne.symm hne])]
   rename_i hqR;rw[if_neg hqR]at hT;obtain⟨rfl,hun,hmin,hsF⟩:=hS
   have hRne:R≠[]:=by
    rintro rfl;simp[Zm]at hj
   rw[if_neg hRne]at hT;obtain⟨hr,b,oo,hptr,len,cap,W,xx,hob,hlt,hrunW,hhd,hhp,hFW⟩:=hT;refine Qh (nx:=.skip) (v:=undef) (w':=W) h3 hg3 ?_ (.inr ⟨rfl,rfl⟩) ?_
   · unfold execOp;rw[ho3];simp[hptr,Instr.storeAt,Instr.sureAddr,hrunW]
   have hkeep:∀(j:Nat) r v,lkp (rd R).regs j=some r→X9 F γ w r v→X9 F (upd γ d1 xx) W r v:=fun j r v hj hv=>(hv.mono (fun _ h=>h) hFW).upd (WT hun hj);have r3:=hr.step (dst:=none) (r:=.v (.one .any)) (v:=undef) rfl (hhp.mapd hnd hhd) trivial hkeep;have hh2:hd (upd γ d1 xx d1)=hd (upd γ d1 xx n):=by rw[Xo,Xd _ hnd];exact hhd
   refine hK F (upd γ d1 xx) _ W ?_ (fun _ h=>h) (fun _ h=>.inl h);rw[hmin,hd3];simp only[List.contains_nil,Bool.false_eq_true,if_false,if_true];rw[hsF];refine⟨r3.heap,r3.defers,r3.nt,fun j r hj=>?_⟩;rw[Zs]at hj;simp only[Option.map_eq_some_iff]at hj;obtain⟨r0,h0,rfl⟩:=hj;exact(r3.regs j r0 h0).mv hh2
 intro w0 B π F γ a w hT;simp only[List.contains_nil,Bool.false_eq_true,if_false,if_true]at hT;exact⟨sF,hq,hT⟩
end
end Go.Hl
