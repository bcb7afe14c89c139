/- HmZG: part of an evaluator of Go code over abstract states, proved sound over the model; used by the proof of the claimed statement. Conditions: none. -/
import Derived.Test.YtdajceakaakdoaaGreatHmZF
import Derived.Maps.RangeRun
set_option maxRecDepth 100000
set_option maxHeartbeats 2000000
set_option linter.unusedSimpArgs false
set_option linter.unusedVariables false
set_option linter.unusedSimpArgs false
set_option linter.unusedVariables false
namespace Go.Hl
open Go Go.RowKit
open Go.ChangeMaps (setBlock)
def ConF {X:Type} (P:Program) (f:FuncId) (fresh:Bool) (args:List TV) (Φ:X→Prop) (r:X→RV) (ob:X→Option Ob) (d:Nat):Prop:=
 XU P f=true∧∀(F:Nat→Prop) (w:World) (vs:Array Value),(∀b,F b→b<w.heap.size)→vs.size=args.length→
  (∀(j:Nat) t u,args[j]? =some t→vs[j]? =some u→XD F noγ w t u)→
  Calls P f vs w fun e w'=>∃(y:X) (v:Value) (N:Nat→Prop) (γ':Nat→Value),Φ y∧e=.returned v∧Below w.heap.size w w'∧(∀b,N b→w.heap.size≤b∧b<w'.heap.size)∧
   X9 (Res fresh F N) γ' w' (r y) v∧∀o,ob y=some o→XT (Res fresh F N) γ' w' (fun b=>b<w.heap.size) (γ' d) o∧∀b,Blk (γ' d) b→¬N b
def callF (P:Program) (s:HS) (g:Operand→RV) (o:Oper) (K:Nat→RV→Option Ob→Prop):Prop:=
 match o.op,o.dst with
 | .call {callee:=.value x,args:=args, .. },some d=>match Wn s.objs (g x),X1s s.objs g args.toList with
   | some (f,own,es),some ts=>∃(fresh:Bool) (X:Type) (Φ:X→Prop) (r:X→RV) (ob:X→Option Ob),ConF P f fresh (ts++es) Φ r ob d∧(fresh=true∨(own||args.toList.any fun x=>(g x).ownB)=false)∧
     (∀y,Φ y→((ob y).isSome=true→QY d s=true)∧(r y).onlyB (ob y).isSome d=true∧(∀o,ob y=some o→o.flat=true))∧XJ s (some d)=true∧∀y,Φ y→K d (r y) (ob y)
   |_,_=>False
 |_,_=>False
section
variable {P:Program} {F:Nat→Prop} {γ:Nat→Value} {w w' w0:World} {B:Nat→Prop} {π:Nat→Option Value}
theorem X7Q {s:HS} {a:Act} {o:Oper} {g:Operand→RV} {K:Nat→RV→Option Ob→Prop} (h:Rel w0 B π F γ s a w) (hg:∀x,X9 F γ w (g x) (a.eval x)) (hc:callF P s g o K) {Kc:Act→World→Prop} {Q:Exit→Act→World→Prop}
  (hK:∀d r ob F' γ' v w',o.dst=some d→XJ s (some d)=true→K d r ob→(∀b,F b→F' b)→(∀b,F' b→F b∨¬B b)→Rel w0 B π F' γ' (s.made d ob) a w'→X9 F' γ' w' r v→Kc (a.put o.dst v) w')
  :o.wp P a w Kc Q:=by
 unfold callF at hc;split at hc
 · rename_i x args ts d ho hd;split at hc
   · rename_i f own es tvs hf hts;obtain⟨fresh,X,Φ,rF,obF,⟨hcall,hcon⟩,hown,hall,hok,hkF⟩:=hc;obtain⟨us,hv',hul,hes,hesd⟩:=X1y h.heap hf (hg x)
     have hrun:(execOp a.eval o).run P w=.ok (.enter f (args.map a.eval++us.toArray)) w:=by
      unfold XU at hcall;split at hcall
      · rename_i fn hfn;simp only[Bool.and_eq_true,Bool.not_eq_true']at hcall;have hnm:¬fn.name= "runtime.NumGoroutine" :=by simpa using hcall.1
        have hnb:¬fn.body=none:=by
         intro hb;rw[hb]at hcall;cases hcall.2
        simp[execOp,ho,resolve,hv',Deferred.ofValue,invoke,callFunc,hfn,hnm,hnb]
      cases hcall
     unfold Oper.wp;rw[hrun,Oper.upon_enter];obtain⟨hl,hts'⟩:=X0Z hts
     -- the set of blocks that the callee may look at
     have hcase:∃F2:Nat→Prop,(∀b,F2 b→b<w.heap.size)∧(fresh=false→∀b,F2 b→F b)∧
       ∀(j:Nat) t u,(tvs++es)[j]? =some t→(args.map a.eval++us.toArray)[j]? =some u→XD F2 noγ w t u:=by
      have hget:∀(j:Nat) x u,args.toList[j]? =some x→(args.map a.eval)[j]? =some u→u=a.eval x:=by
       intro j x u hx hu;have hx':args[j]? =some x:=by simpa using hx
       rw[Array.getElem?_map,hx']at hu;simpa using hu.symm
      have hsz:(args.map a.eval).size=tvs.length:=by rw[Array.size_map,hl,Array.length_toList]
      have both:∀G:Nat→Prop,(∀(j:Nat) t u,tvs[j]? =some t→(args.map a.eval)[j]? =some u→XD G noγ w t u)→(∀(j:Nat) t u,es[j]? =some t→us[j]? =some u→XD G noγ w t u)→
        ∀(j:Nat) t u,(tvs++es)[j]? =some t→(args.map a.eval++us.toArray)[j]? =some u→XD G noγ w t u:=by
       intro G h1 h2 j t u ht hu;by_cases hj:j<tvs.length
       · rw[List.getElem?_append_left hj]at ht;rw[Array.getElem?_append_left (by omega)]at hu;exact h1 j t u ht hu
       rw[List.getElem?_append_right (Nat.le_of_not_lt hj)]at ht;rw[Array.getElem?_append_right (by omega),hsz]at hu;exact h2 _ t u ht (by simpa using hu)
      rcases hown with rfl|hown
      · refine⟨fun b=>F b∨X1P γ s.objs b,?_,by simp,both _ ?_ hes⟩
        · rintro b (hb|⟨n,o',hl',hb⟩)
          · exact h.heap.fsz b hb
          exact((h.heap.ob n o' hl').blk_lt hb).2
        intro j t u ht hu;obtain⟨y,hy,hbr⟩:=hts' j t ht;rw[hget j y u hy hu];exact X2x h.heap hbr (hg y)
      simp only[Bool.or_eq_false_iff]at hown;refine⟨F,h.heap.fsz,fun _ _ h=>h,both _ ?_ (hesd hown.1)⟩;intro j t u ht hu;obtain⟨y,hy,hbr⟩:=hts' j t ht;rw[hget j y u hy hu];refine X4l h.heap ?_ hbr (hg y);have hown2:=hown.2;rw[List.any_eq_false]at hown2;simpa using hown2 y (List.mem_of_getElem? hy)
     obtain⟨F2,hF2,hF2F,hargs⟩:=hcase;refine(hcon F2 w (args.map a.eval++us.toArray) hF2 (by simp[hl,hul]) hargs).mono ?_;rintro e w' ⟨y,v,N,γ',hΦ,rfl,hb,hN,hr,hobj⟩;obtain⟨hunm,honly,hflat⟩:=hall y hΦ;have hk:=hkF y hΦ;generalize rF y=r at*;generalize obF y=ob at*
     have hres:∀b,Res fresh F2 N b→F b∨N b:=by
      rintro b (hb|⟨hfr,hb⟩)
      · exact .inr hb
      exact .inl (hF2F hfr b hb)
     have hheap:=h.heap.called hb hN;have hFk:∀b,F b→w'.heap[b]? =w.heap[b]? :=fun b hF=>hb.block b (h.heap.fsz b hF)
     have hNB:∀b,(F b∨N b)→F b∨¬B b:=by
      rintro b (hb|hb)
      · exact .inl hb
      exact .inr fun hx=>Nat.lt_irrefl _ (Nat.lt_of_lt_of_le (h.heap.hB b hx) (hN b hb).1)
     cases ob with
     | none=>
       refine hK d r none (fun b=>F b∨N b) γ v w' hd hok hk (fun _ h=>.inl h) hNB ?_ ((hr.mono hres fun _ _=>rfl).only honly (by simp));exact⟨hheap,h.defers,h.nt,fun k r hl=>(h.regs k r hl).mono (fun _ h=>.inl h) hFk⟩
     | some o'=>
       obtain⟨ho1,ho2⟩:=hobj o' rfl;have hun:=hunm rfl;have hnew:∀b,Blk (γ' d) b→w.heap.size≤b:=fun b hb=>Nat.le_of_not_lt (ho1.blk_lt hb).1;have hfl:=hflat o' rfl;have hob':XT (fun b=>F b∨N b) (upd γ d (γ' d)) w' (fun b=>b<w.heap.size) (γ' d) o':=(ho1.mono hres (fun _ _=>rfl) (fun _ _=>rfl)).only hfl
       have hobB:XT (fun b=>F b∨N b) (upd γ d (γ' d)) w' B (γ' d) o':=by
        cases o' with
        |box cs=>obtain⟨b,e,vs,h1,h2,h3⟩:=hob';exact⟨b,e,vs,h1,fun hx=>h2 (h.heap.hB _ hx),h3⟩
        |row e' s' rows=>exact Xr.low (fun b hx=>h.heap.hB b hx) hob'
        |mp l=>obtain⟨b,es,clock,h1,h2,h3⟩:=hob';exact⟨b,es,clock,h1,fun hx=>h2 (h.heap.hB _ hx),h3⟩
        | mat e e' s' rows=>
          obtain⟨o,is,h1,h2,h3,⟨xs,h4,h5⟩,h6,h7⟩:=hob';refine⟨o,is,h1,h2,h3,⟨xs,h4.low (fun b hx=>h.heap.hB b hx),h5⟩,fun i v r hv hr=>?_,h7⟩;have:=h6 i v r hv hr;cases r with
          |none=>exact this
          |some rr=>exact Xr.low (fun b hx=>h.heap.hB b hx) this
        |refs e ns=>cases hfl
        |mps e ms=>cases hfl
        |it l seen=>cases hfl
       have hheap':HeapRel w0 B π (fun b=>F b∨N b) (upd γ d (γ' d)) (ins d o' s.objs) w':={
        below:=hheap.below
        hB:=hheap.hB
        fsz:=hheap.fsz
        ob:=fun n o ho=>by
         rw[XL]at ho;split at ho
         · rename_i e;cases ho;subst e;rw[Xo];exact hobB
         rename_i e;rw[Xd _ e];exact(hheap.ob n o ho).upd (Ww hun n o ho).2
        apart:=fun n o ho b hbk hF=>by
         rw[XL]at ho;split at ho
         · rename_i e;rw[e,Xo]at hbk;rcases hF with hF|hF
           · have:=hnew b hbk;have:=h.heap.fsz b hF;omega
           exact ho2 b hbk hF
         rename_i e;rw[Xd _ e]at hbk;exact hheap.apart n o ho b hbk hF
        sep:=fun n m on om hn hm hne b hbn hbm=>by
         rw[XL]at hn hm;split at hn
         · rename_i e;rw[e,Xo]at hbn;split at hm
           · rename_i e';exact hne (e.trans e'.symm)
           rename_i e';rw[Xd _ e']at hbm;have h1:=hnew b hbn;have h2:=(h.heap.ob m om hm).blk_lt hbm;omega
         rename_i e;rw[Xd _ e]at hbn;split at hm
         · rename_i e';rw[e',Xo]at hbm;have h1:=hnew b hbm;have h2:=(h.heap.ob n on hn).blk_lt hbn;omega
         rename_i e';rw[Xd _ e']at hbm;exact h.heap.sep n m on om hn hm hne b hbn hbm
        pin:=fun n v hv=>by
         obtain⟨h1,h2⟩:=h.heap.pin n v hv;have:=ZW hun
         exact⟨h1,by rw[Xd _ (by omega)];exact h2⟩}
       refine hK d r (some o') (fun b=>F b∨N b) (upd γ d (γ' d)) v w' hd hok hk (fun _ h=>.inl h) hNB ?_ ((hr.mono hres fun _ _=>rfl).only honly (fun _=>by rw[Xo]));exact⟨hheap',h.defers,h.nt,fun k r hl=>((h.regs k r hl).mono (fun _ h=>.inl h) hFk).upd (WT hun hl)⟩
   exact hc.elim
 exact hc.elim
theorem X95 {X:Type} {f:FuncId} {fn:Func} {c:Code} {args:List TV} {fresh:Bool} {Φ:X→Prop} {r:X→RV} {ob:X→Option Ob} {d:Nat} (hf:P.funcs[f]? =some fn) (hb:fn.body=some c) (hcall:XU P f=true) (hnt:args.length≤fn.ntmps)
  (h:HT P c ⟨fn.ntmps,QL 0 args,[]⟩ (fun e s'=>(e=.normal∨e=.ret)∧∃y,Φ y∧∃s2,le s' s2∧RetOK P fn.results.toList s2 fresh (r y) (ob y) d)):ConF P f fresh args Φ r ob d:=by
 refine⟨hcall,fun F w vs hF hsz hargs=>?_⟩
 have hrel:Rel w (fun b=>b<w.heap.size) (fun _=>none) F noγ ⟨fn.ntmps,QL 0 args,[]⟩ {tmps:=vs++Array.replicate (fn.ntmps - vs.size) undef,defers:=[]} w:=by
  refine⟨⟨Kept.refl _ _,fun _ h=>h,hF,by simp[lkp],by simp[lkp],by simp[lkp],by simp⟩,rfl,by simp;omega,fun k r hl=>?_⟩;obtain⟨_,t,ht,rfl⟩:=Z5 args 0 k r hl;simp only[Nat.sub_zero]at ht;have hk:k<vs.size:=by rw[hsz];exact(List.getElem?_eq_some_iff.1 ht).1
  have hv:(vs++Array.replicate (fn.ntmps - vs.size) undef).getD k undef=vs[k]:=by
   rw[Array.getD_eq_getD_getElem?,Array.getElem?_append_left hk];simp[hk]
  rw[hv];exact hargs k t _ ht (by simp[hk])
 refine calls_of_wp hf hb (wp_mono (h w (fun b=>b<w.heap.size) (fun _=>none) F noγ _ w hrel) ?_);rintro e a' w' ⟨s',F1,γ1,⟨he,y,hΦ,s2,hle,hret⟩,h1,h2,hr'⟩;obtain⟨F2,γ2,h3,h4,hr2⟩:=hle w (fun b=>b<w.heap.size) (fun _=>none) F1 γ1 a' w' hr';obtain⟨ts,hts,hry⟩:=hret.res;have hlit:=hret.lit;rw[hry]at hlit;obtain⟨us,hus,hul,huc⟩:=Zu hr2 hts
 have key:a'.defers=[]∧∃v,(results fn a'.tmps).run P w'=.ok v w'∧∃(y:X) (v2:Value) (N:Nat→Prop) (γ':Nat→Value),Φ y∧Ending.returned v=.returned v2∧Below w.heap.size w w'∧(∀b,N b→w.heap.size≤b∧b<w'.heap.size)∧
   X9 (Res fresh F N) γ' w' (r y) v2∧∀o,ob y=some o→XT (Res fresh F N) γ' w' (fun b=>b<w.heap.size) (γ' d) o∧∀b,Blk (γ' d) b→¬N b:=by
  have hFF:∀b,F2 b→Res false F (fun b=>F2 b∧w.heap.size≤b) b:=by
   intro b hb;rcases h4 b hb with h5|h5
   · rcases h2 b h5 with h6|h6
     · exact .inr ⟨rfl,h6⟩
     exact .inl ⟨hb,Nat.le_of_not_lt h6⟩
   exact .inl ⟨hb,Nat.le_of_not_lt h5⟩
  have hres:∃v,(results fn a'.tmps).run P w'=.ok v w'∧X9 F2 γ2 w' (XK ts) v:=by
   rw[ZU,Sem.run_bind,hus,Result.andThen_ok];refine⟨_,rfl,?_⟩
   match ts,us,hul,huc with
   |[],[],_,_=>exact⟨#[],rfl,rfl,by simp⟩
   |[t],[u],_,hc=>exact hc 0 t u rfl rfl
   |t1::t2::ts,u1::u2::us,hl,hc=>exact⟨(u1::u2::us).toArray,by simp,by simpa using hl,fun j t u ht hu=>hc j t u ht (by simpa using hu)⟩
  obtain⟨v,hv,hvr⟩:=hres;refine⟨hr2.defers,v,hv,y,v,fun b=>F2 b∧w.heap.size≤b,γ2,hΦ,rfl,hr2.heap.below.below,fun b hb=>⟨hb.2,hr2.heap.fsz b hb.1⟩,?_,fun o ho=>⟨?_,fun b hb hN=>hr2.heap.apart d o (hret.objs o ho) b hb hN.1⟩⟩
  · rw[hry];cases fresh with
    |false=>exact hvr.mono hFF fun _ _=>rfl
    |true=>exact hvr.lits (hlit rfl).1
  have:=hr2.heap.ob d o (hret.objs o ho);cases fresh with
  |false=>exact this.mono hFF (fun _ _=>rfl) fun _ _=>rfl
  |true=>exact this.lits ((hlit rfl).2 o ho)
 rcases he with rfl|rfl
 · exact key
 exact key
theorem callF_wp {ops:Array Oper} {i:Nat} {o:Oper} {s:HS} {a:Act} {K:HS→Prop} {Kc:Act→World→Prop} {Q:Exit→Act→World→Prop} (hi:ops[i]? =some o) (h:Rel w0 B π F γ s a w) (hgd:o.guard=none)
  (hc:callF P s (opd s.regs) o fun d r ob=>K ((s.made d ob).put (some d) r))
  (hK:∀s' F' γ' a' w',K s'→(∀b,F b→F' b)→(∀b,F' b→F b∨¬B b)→Rel w0 B π F' γ' s' a' w'→Kc a' w'):wpOp P ops Q i Kc a w:=by
 unfold wpOp;rw[hi];simp only;have hwant:Region.wanted o (yielded ops a.tmps)=true:=by unfold Region.wanted;rw[hgd]
 rw[hwant];simp only[if_true];refine .inl ?_;refine X7Q h h.opd hc fun d r ob F' γ' v w' hd hok hk h1 h2 hr hv=>?_;refine hK _ F' γ' _ _ hk h1 h2 ?_;rw[hd];have hok':XJ (s.made d ob) (some d)=true:=by cases ob<;>exact hok
 exact hr.step (objs':=(s.made d ob).objs) hok' hr.heap hv fun _ _ _ _ h=>h
end
def X1g {X:Type} (P:Program) (f:FuncId) (pv:Option Value) (objs:List (Nat×Ob)) (args:List TV) (Φ:X→Prop) (r:X→RV) (objs':X→List (Nat×Ob)):Prop:=
 XU P f=true∧∀(F:Nat→Prop) (γ:Nat→Value) (w:World) (vs:Array Value),HeapRel w (ownB γ objs w) (fun _=>none) F γ objs w→(∀v,pv=some v→γ 1000000=v)→vs.size=args.length→
  (∀(j:Nat) t u,args[j]? =some t→vs[j]? =some u→XD F γ w t u)→
  Calls P f vs w fun x w'=>∃(y:X) (v:Value) (N:Nat→Prop) (γ':Nat→Value),Φ y∧x=.returned v∧Kept (ownB γ objs w) w w'∧(∀c,N c→¬ownB γ objs w c∧c<w'.heap.size)∧X9 (fun c=>F c∨N c) γ' w' (r y) v∧
   HeapRel w (ownB γ objs w) (fun _=>none) (fun c=>F c∨N c) γ' (objs' y) w'∧∀n cs,lkp objs n=some (.box cs)→γ' n=γ n
section
variable {P:Program} {F:Nat→Prop} {γ γ':Nat→Value} {w w' w0:World} {B:Nat→Prop} {π:Nat→Option Value}
theorem X4N.toN {f:FuncId} {objs objs':List (Nat×Ob)} {args:List TV} {r:RV} (h:X4N P f objs args r objs'):X1g (X:=Unit) P f none objs args (fun _=>True) (fun _=>r) (fun _=>objs'):=
 ⟨h.1,fun F γ w vs hh _ hs ha=>(h.2 F γ w vs hh hs ha).mono fun e w' ⟨v,N,γ',h1,h2⟩=>⟨(),v,N,γ',trivial,h1,h2⟩⟩
theorem Qq {X:Type} {f:FuncId} {fn:Func} {c:Code} {pv:Option Value} {objs:List (Nat×Ob)} {args:List TV} {Φ:X→Prop} {r:X→RV} {objs':X→List (Nat×Ob)} (hf:P.funcs[f]? =some fn) (hb:fn.body=some c) (hcall:XU P f=true) (hnt:args.length≤fn.ntmps)
  (hpin:∀n cs,lkp objs n=some (.box cs)→1000000≤n) (hpv:∀v,pv=some v→∃cs,lkp objs 1000000=some (.box cs))
  (h:HT P c ⟨⟨fn.ntmps,pv⟩,QL 0 args,objs⟩ (fun e s'=>(e=.normal∨e=.ret)∧∃y,Φ y∧∃s2,le s' s2∧(∃ts,X3j P s2 fn.results.toList=some ts∧r y=XK ts)∧∀n o,lkp (objs' y) n=some o→lkp s2.objs n=some o)):X1g P f pv objs args Φ r objs':=by
 refine⟨hcall,fun F γ w vs hh hpg hsz hargs=>?_⟩
 let π0:Nat→Option Value:=fun n=>match lkp objs n with
  |some (.box _)=>some (γ n)
  |_=>none
 have hh0:HeapRel w (ownB γ objs w) π0 F γ objs w:=⟨hh.below,hh.hB,hh.fsz,hh.ob,hh.apart,hh.sep,fun n v hv=>by
  simp only[π0]at hv;split at hv
  · rename_i cs hl;cases hv;exact⟨hpin n cs hl,rfl⟩
  cases hv⟩
 have hrel:Rel w (ownB γ objs w) π0 F γ ⟨⟨fn.ntmps,pv⟩,QL 0 args,objs⟩ {tmps:=vs++Array.replicate (fn.ntmps - vs.size) undef,defers:=[]} w:=by
  refine⟨hh0,rfl,⟨by simp;omega,fun v hv=>?_⟩,fun k r hl=>?_⟩
  · obtain⟨cs,hcs⟩:=hpv v hv;simp only[π0,hcs];rw[hpg v hv]
  obtain⟨h1,t,ht,rfl⟩:=Z5 args 0 k r hl;have hk:k<vs.size:=by rw[hsz];exact(List.getElem?_eq_some_iff.1 ht).1
  have hv:(vs++Array.replicate (fn.ntmps - vs.size) undef).getD k undef=vs[k]:=by
   rw[Array.getD_eq_getD_getElem?,Array.getElem?_append_left hk];simp[hk]
  rw[hv];exact hargs (k - 0) t vs[k] ht (by simp[hk])
 refine calls_of_wp hf hb (wp_mono (h w _ _ F γ _ w hrel) ?_);rintro x a' w' ⟨s',F1,γ1,⟨he,y,hΦ,s2,hle,⟨ts,hts,hry⟩,hobjs⟩,h1,h2,hr'⟩;obtain⟨F2,γ2,h3,h4,hr2⟩:=hle w _ _ F1 γ1 a' w' hr';obtain⟨us,hus,hul,huc⟩:=Zu hr2 hts
 have hFF:∀c,F2 c→F c∨(F2 c∧¬ownB γ objs w c):=by
  intro c hc;rcases h4 c hc with h5|h5
  · rcases h2 c h5 with h6|h6
    · exact .inl h6
    exact .inr ⟨hc,h6⟩
  exact .inr ⟨hc,h5⟩
 have hEq:(fun c=>F c∨(F2 c∧¬ownB γ objs w c))=F2:=by
  funext c
  refine propext ⟨fun h=>?_,hFF c⟩;rcases h with h|h
  · exact h3 c (h1 c h)
  exact h.1
 have hres:∃v,(results fn a'.tmps).run P w'=.ok v w'∧X9 F2 γ2 w' (XK ts) v:=by
  rw[ZU,Sem.run_bind,hus,Result.andThen_ok];refine⟨_,rfl,?_⟩
  match ts,us,hul,huc with
  |[],[],_,_=>exact⟨#[],rfl,rfl,by simp⟩
  |[t],[u],_,hc=>exact hc 0 t u rfl rfl
  |t1::t2::ts,u1::u2::us,hl,hc=>exact⟨(u1::u2::us).toArray,by simp,by simpa using hl,fun j t u ht hu=>hc j t u ht (by simpa using hu)⟩
 obtain⟨v,hv,hvr⟩:=hres
 have key:a'.defers=[]∧∃v,(results fn a'.tmps).run P w'=.ok v w'∧∃(y:X) (v2:Value) (N:Nat→Prop) (γ':Nat→Value),Φ y∧Ending.returned v=.returned v2∧Kept (ownB γ objs w) w w'∧
   (∀c,N c→¬ownB γ objs w c∧c<w'.heap.size)∧X9 (fun c=>F c∨N c) γ' w' (r y) v2∧
   HeapRel w (ownB γ objs w) (fun _=>none) (fun c=>F c∨N c) γ' (objs' y) w'∧∀n cs,lkp objs n=some (.box cs)→γ' n=γ n:=by
  refine⟨hr2.defers,v,hv,y,v,fun c=>F2 c∧¬ownB γ objs w c,γ2,hΦ,rfl,hr2.heap.below,fun c hc=>⟨hc.2,hr2.heap.fsz c hc.1⟩,by rw[hry];exact hvr.mono hFF fun _ _=>rfl,?_,fun n cs hl=>?_⟩
  · rw[hEq];exact(hr2.heap.less hobjs).nopin
  exact(hr2.heap.pin n (γ n) (by simp only[π0,hl])).2
 rcases he with rfl|rfl
 · exact key
 exact key
def X2r:RV→Option (FuncId×List TV)
 | .v (.one (.fn f caps))=>some (f,caps.map fun p=>.one (.at_ p.1 p.2))
 | .v (.one (.c (.fn f ds)))=>some (f,ds.map fun d=>.one (.c d))
 |_=>none
theorem Zv {x:RV} {f:FuncId} {es:List TV} {v:Value} (h:X2r x=some (f,es)) (hr:X9 F γ w x v):
  ∃us:List Value,v=.func (.func f) #[] us.toArray∧us.length=es.length∧∀(j:Nat) t u,es[j]? =some t→us[j]? =some u→XD F γ w t u:=by
 unfold X2r at h;split at h
 · cases h;obtain⟨vs,rfl,hl,hc⟩:=hr;refine⟨vs,rfl,by simp[hl],fun j t u ht hu=>?_⟩;rw[List.getElem?_map]at ht;simp only[Option.map_eq_some_iff]at ht;obtain⟨p,hp,rfl⟩:=ht;exact hc j p u hp hu
 · rename_i f ds;cases h;have hr':CRel F w (.fn f ds) v:=hr;cases hr' with
   | fn _ _ vs hl hc=>
     refine⟨vs,rfl,by simp[hl],fun j t u ht hu=>?_⟩;rw[List.getElem?_map]at ht;simp only[Option.map_eq_some_iff]at ht;obtain⟨d,hd,rfl⟩:=ht;exact hc j d u hd hu
 cases h
def catT (ts:List TV):List TV→List TV
 |[]=>ts
 |e::es=>ts++e::es
theorem XaC (ts es:List TV):catT ts es=ts++es:=by
 cases es<;>simp[catT]
def gOfN (s:HS) (o:Oper):Option (FuncId×List TV×Nat):=
 match o.guard,o.op,o.dst with
 | none,.call {callee:=.value x,args:=args, .. },some d=>match X2r (opd s.regs x),X1M (opd s.regs) args.toList with
   |some (f,es),some ts=>if XJ s (some d)=true then some (f,catT ts es,d)else none
   |_,_=>none
 |_,_,_=>none
def pvOK (pv:Option Value) (s:HS) (ρ:Nat→Nat):Prop:=pv=none∨(s.nt.pv=pv∧ρ 1000000=1000000)
theorem Xao {X:Type} {s:HS} {a:Act} {ops:Array Oper} {i:Nat} {o:Oper} {f:FuncId} {d:Nat} {pv:Option Value} {objs:List (Nat×Ob)} {args:List TV} {ρ σ:Nat→Nat} {Φ:X→Prop} {r:X→RV} {objs':X→List (Nat×Ob)} {Kc:Act→World→Prop} {Q:Exit→Act→World→Prop} (hi:ops[i]? =some o) (h:Rel w0 B π F γ s a w)
  (hc:gOfN s o=some (f,args.map (TV.ren ρ []),d)) (hp:pvOK pv s ρ) (hd0:HandS ρ σ objs [] s) (hd:∀y,Φ y→HandS ρ σ objs (objs' y) s) (hcon:X1g P f pv objs args Φ r objs') (hout:∀y,Φ y→X3r ((objs' y).map (·.1)) (r y)=true)
  (hK:∀y,Φ y→∀F' γ2 a' w',(∀b,F b→F' b)→(∀b,F' b→F b∨¬B b)→Rel w0 B π F' γ2 (({s with objs:=Qf σ (objs' y) (QP (objs.map fun p=>ρ p.1) s.objs)}:HS).put (some d) ((r y).ren σ [])) a' w'→Kc a' w'):wpOp P ops Q i Kc a w:=by
 have hpg:∀v,pv=some v→γ (ρ 1000000)=v:=by
  intro v hv;rcases hp with h1|⟨h1,h2⟩
  · rw[h1]at hv;cases hv
  rw[h2];exact(h.heap.pin 1000000 v (h.nt.2 v (h1.trans hv))).2
 unfold gOfN at hc;split at hc
 · rename_i x as0 ts0 d0 hgd ho hdst;split at hc
   · rename_i f0 es0 ts hf hts;split at hc
     · rename_i hokd;simp only[Option.some.injEq,Prod.mk.injEq]at hc;obtain⟨rfl,hca,rfl⟩:=hc;obtain⟨hcall,hcon⟩:=hcon;obtain⟨cvs,hv,hcl,hcc⟩:=Zv hf (h.opd x);have hv':a.eval x=.func (.func f0) #[] cvs.toArray:=hv
       have hrun:(execOp a.eval o).run P w=.ok (.enter f0 (as0.map a.eval++cvs.toArray)) w:=by
        unfold XU at hcall;split at hcall
        · rename_i fn hfn;simp only[Bool.and_eq_true,Bool.not_eq_true']at hcall;have hnm:¬fn.name= "runtime.NumGoroutine" :=by simpa using hcall.1
          have hnb:¬fn.body=none:=by
           intro hb;rw[hb]at hcall;cases hcall.2
          simp[execOp,ho,resolve,hv',Deferred.ofValue,invoke,callFunc,hfn,hnm,hnb]
        cases hcall
       unfold wpOp;rw[hi];simp only;have hwant:Region.wanted o (yielded ops a.tmps)=true:=by unfold Region.wanted;rw[hgd]
       rw[hwant];simp only[if_true];refine .inl ?_;unfold Oper.wp;rw[hrun,Oper.upon_enter];obtain⟨hlen,hget⟩:=X2z hts;rw[XaC]at hca;have hsz:(as0.map a.eval).size=ts.length:=by rw[Array.size_map,hlen,Array.length_toList]
       refine(hcon F (fun n=>γ (ρ n)) w (as0.map a.eval++cvs.toArray) (hd0.heap h.heap) hpg ?_ fun j t u ht hu=>?_).mono ?_
       · have:=congrArg List.length hca;simp only[List.length_append,List.length_map]at this;simp only[Array.size_append,hsz,List.size_toArray];omega
       · have key:XD F γ w (t.ren ρ []) u:=by
          have hm:(ts++es0)[j]? =some (t.ren ρ []):=by rw[hca];simp[ht]
          by_cases hj:j<ts.length
          · rw[List.getElem?_append_left hj]at hm;rw[Array.getElem?_append_left (by omega)]at hu;obtain⟨y,hy,hgy⟩:=hget j _ hm
            have hu':u=a.eval y:=by
             rw[Array.getElem?_map,←Array.getElem?_toList,hy]at hu;exact(Option.some.inj hu).symm
            rw[hu'];have:=h.opd y;rw[hgy]at this;exact this
          rw[List.getElem?_append_right (Nat.le_of_not_lt hj)]at hm;rw[Array.getElem?_append_right (by omega),hsz]at hu;exact hcc _ _ u hm (by simpa using hu)
         refine XD.ren (ρ:=ρ) (nils:=[]) (fun n _=>rfl) (fun n hn=>by cases hn) ?_ key;cases t with
         |one x=>exact X0D x
         |agg xs=>simp only[TV.okNil,List.all_eq_true];exact fun x _=>X0D x
       rintro x w' ⟨y,v,N,γ',hΦ,rfl,hk,hN,hr,hh,hbx⟩;obtain⟨h1,h2,γ2,h3,h5,h4⟩:=(hd y hΦ).after h.heap hk hN hh hbx;refine hK y hΦ (fun c=>F c∨N c) γ2 _ _ (fun _ h=>.inl h) (fun c hc=>hc.imp id fun hc=>h1 c hc) ?_;rw[hdst];exact h.step (objs':=Qf σ (objs' y) (QP (objs.map fun p=>ρ p.1) s.objs)) hokd h3 (rv_out h5 (hout y hΦ) hr) fun k r v hl hr=>X9.agree (h4 r ⟨k,hl⟩) (hr.mono (fun _ h=>.inl h) h2)
     cases hc
   cases hc
 cases hc
abbrev tupN (k:Value) (v:CD):RV:=.tup [.one (.c (.lit (.bool true))),.one (.c (.lit k)),.one (.c v)]
theorem X9x {s:HS} {a:Act} {ops:Array Oper} {i:Nat} {o:Oper} {x:Operand} {d n:Nat} {l:List (Value×CD)} {seen:List Nat} {Kc:Act→World→Prop} {Q:Exit→Act→World→Prop} (hi:ops[i]? =some o) (h:Rel w0 B π F γ s a w)
  (hgd:o.guard=none) (ho:o.op=.next x false) (hdst:o.dst=some d) (hx:opd s.regs x=.v (.one (.at_ n 0))) (hl:lkp s.objs n=some (.it l seen)) (hok:XJ s (some d)=true)
  (hmore:∀(j:Nat) k v,l[j]? =some (k,v)→j∉seen→∀a' w',Rel w0 B π F γ (({s with objs:=ins n (.it l (seen++[j])) s.objs}:HS).put (some d) (tupN k v)) a' w'→Kc a' w')
  (hdone:(∀j:Nat,j<l.length→j∈seen)→∀a' w',Rel w0 B π F γ (s.put (some d) (.tup [.one (.c (.lit (.bool false)))])) a' w'→Kc a' w'):wpOp P ops Q i Kc a w:=by
 have hxv:=h.opd x;rw[hx]at hxv;obtain⟨b,hγ,hv⟩:=hxv;obtain⟨b',hγ',hB,hit⟩:=h.heap.ob n _ hl;rw[hγ]at hγ';cases hγ';have hBn:Blk (γ n) b:=by rw[hγ];rfl
 unfold wpOp;rw[hi];simp only;have hwant:Region.wanted o (yielded ops a.tmps)=true:=by unfold Region.wanted;rw[hgd]
 rw[hwant];simp only[if_true];refine .inl ?_;unfold Oper.wp
 have hfalse:X9 F γ w (.tup [.one (.c (.lit (.bool false)))]) (.tuple #[.bool false]):=
  ⟨#[.bool false],rfl,rfl,fun j t u ht hu=>by
   match j with
   |0=>cases ht;cases hu;exact CRel.lit _
   |j+1=>simp at ht⟩
 have hput:∀v w',(Instr.next (.pointer (some ⟨b,0,none⟩)) false o.type).run P w=.ok v w'→Kc (a.put (some d) v) w'→o.upon P a Kc Q ((execOp a.eval o).run P w):=by
  intro v w' hrun hk;have hv':a.eval x=.pointer (some ⟨b,0,none⟩):=hv;simp[execOp,ho,hv',hrun,Result.andThen];rw[Oper.upon_value,hdst];exact hk
 have hrelF:∀{w2:World},w2=w→Rel w0 B π F γ (s.put (some d) (.tup [.one (.c (.lit (.bool false)))])) (a.put (some d) (.tuple #[.bool false])) w2:=by
  rintro _ rfl;exact h.step (dst:=some d) (objs':=s.objs) hok h.heap hfalse fun _ _ _ _ h=>h
 rcases hit with⟨rfl,hhp⟩|⟨m,es,clock,sn,hhp,hFm,hhm,hk,⟨hp1,hp2⟩,X8u,hsn⟩
 · refine hput (.tuple #[.bool false]) w ?_ (hdone (fun j hj=>absurd hj (Nat.not_lt_zero j)) _ _ (hrelF rfl));simp only[Instr.next,getObj,Sem.run_bind,Sem.run,hhp,Result.andThen];rfl
 have hne:b≠m:=fun e=>h.heap.apart n _ hl b hBn (e▸hFm);have hlen:es.size=l.length:=by have:=congrArg List.length hk;simpa using this
 have hinj:∀(i j:Nat) (x y:MapEntry),es[i]? =some x→es[j]? =some y→x.born=y.born→i=j:=by
  intro i j x y hx hy hxy;rw[List.pairwise_iff_getElem]at hp1;obtain⟨hi,rfl⟩:=Array.getElem?_eq_some_iff.1 hx;obtain⟨hj,rfl⟩:=Array.getElem?_eq_some_iff.1 hy;rcases Nat.lt_trichotomy i j with h|h|h
  · have:=hp1 i j (by simpa using hi) (by simpa using hj) h;simp only[Array.getElem_toList]at this;omega
  · exact h
  have:=hp1 j i (by simpa using hj) (by simpa using hi) h;simp only[Array.getElem_toList]at this;omega
 have hseen:∀(j:Nat) (e:MapEntry),es[j]? =some e→(sn.contains e.born=true↔j∈seen):=by
  intro j e he;have h1:sn.contains e.born=true↔e.born∈sn.toList:=by simp
  rw[h1,hsn,List.mem_filterMap];constructor
  · rintro⟨j',hj',he'⟩;cases hx:es[j']? with
    |none=>rw[hx]at he';cases he'
    | some e2=>
      rw[hx]at he';have:=hinj j' j e2 e hx he (by simpa using he');exact this▸hj'
  intro hj;exact⟨j,hj,by rw[he];rfl⟩
 rcases run_next_at (P:=P) w o.type b m clock clock sn es clock hhp hhm hp2 (Nat.le_refl _)with⟨h0,hrun⟩|⟨e,he,w1,hal,hrun⟩
 · refine hput _ w hrun (hdone (fun j hj=>?_) _ _ (hrelF rfl));obtain⟨e,he⟩:∃e,es[j]? =some e:=⟨es[j]'(by omega),Array.getElem?_eq_getElem (by omega)⟩;refine(hseen j e he).1 ?_;refine Classical.byContradiction fun hc=>?_;have:e∈leftOf es sn:=Array.mem_filter.2 ⟨Array.mem_of_getElem? he,by simpa using hc⟩;have h2:=Array.size_pos_of_mem this;omega
 obtain⟨hem,hes⟩:=mem_left he;obtain⟨j,hj⟩:=Array.mem_iff_getElem?.1 (Array.mem_toList_iff.1 hem);have hjs:j<l.length:=by rw[←hlen];exact(Array.getElem?_eq_some_iff.1 hj).1
 obtain⟨⟨k,v⟩,hkv⟩:∃p,l[j]? =some p:=⟨l[j],List.getElem?_eq_getElem hjs⟩
 have hkk:e.key=k:=by
  have:=congrArg (·[j]?) hk;simp only[List.getElem?_map,Array.getElem?_toList,hj,hkv,Option.map_some,Option.some.injEq]at this;exact this
 have hns:j∉seen:=fun hm=>by have:=(hseen j e hj).2 hm;rw[hes]at this;cases this
 have hr1:w1.heap[b]? =some (.mapIter (some m) clock sn clock):=by rcases hal with rfl|rfl<;>exact hhp
 have hset:=MapKept.heap_set (o':=.mapIter (some m) clock (sn.push e.born) clock) hr1;have hw1:∀c:Nat,w1.heap[c]? =w.heap[c]? :=by rcases hal with rfl|rfl<;>exact fun _=>rfl
 have hkeep:∀c:Nat,c≠b→(setBlock w1 b (.mapIter (some m) clock (sn.push e.born) clock)).heap[c]? =w.heap[c]? :=fun c hc=>(hset.2 c hc).trans (hw1 c);have hFk:∀c:Nat,F c→(setBlock w1 b (.mapIter (some m) clock (sn.push e.born) clock)).heap[c]? =w.heap[c]? :=fun c hc=>hkeep c fun e'=>h.heap.apart n _ hl b hBn (e'▸hc);have hsz:w.heap.size≤(setBlock w1 b (.mapIter (some m) clock (sn.push e.born) clock)).heap.size:=by rcases hal with rfl|rfl<;>simp[setBlock]
 have hkp:Kept B w0 (setBlock w1 b (.mapIter (some m) clock (sn.push e.born) clock)):=by
  refine⟨?_,?_,?_,Nat.le_trans h.heap.below.size hsz,fun c hc=>(hkeep c fun e'=>hB (e'▸hc)).trans (h.heap.below.block c hc)⟩
  · rcases hal with rfl|rfl<;>exact h.heap.below.os
  · rcases hal with rfl|rfl<;>exact h.heap.below.tape
  rcases hal with rfl|rfl<;>exact h.heap.below.output
 refine hput _ _ hrun (hmore j k v hkv hns _ _ ?_);refine h.step (dst:=some d) hok (F':=F) (γ':=γ) (h.heap.wrote hl (b:=b) hBn hkp hsz (fun c _ hne=>hkeep c hne) ?_) ?_ fun k r v hl hr=>hr.mono (fun _ h=>h) hFk
 · rw[hγ];refine⟨b,rfl,hB,.inr ⟨m,es,clock,sn.push e.born,hset.1,hFm,(hFk m hFm).trans hhm,hk,⟨hp1,hp2⟩,fun j k d e h1 h2=>(X8u j k d e h1 h2).mono (fun _ h=>h) hFk,?_⟩⟩;rw[Array.toList_push,hsn,List.filterMap_append];simp[hj]
 refine⟨#[.bool true,e.key,e.val],rfl,rfl,fun q t u ht hu=>?_⟩
 match q with
 |0=>cases ht;cases hu;exact CRel.lit _
 |1=>cases ht;cases hu;rw[hkk];exact CRel.lit _
 |2=>cases ht;cases hu;exact(X8u j k v e hkv hj).mono (fun _ h=>h) hFk
 |q+3=>simp at ht
def Qs (P:Program) (ops:Array Oper) (k m:Nat) (s:HS) (M:HS→Prop):Prop:=
 ∀(w0:World) (B:Nat→Prop) (π:Nat→Option Value) (F:Nat→Prop) (γ:Nat→Value) (a:Act) (w:World) (Q:Exit→Act→World→Prop) (Xj:List Nat),Rel w0 B π F γ s a w→
  (∀s' F' γ' a' w',M s'→(∀b,F b→F' b)→(∀b,F' b→F b∨¬B b)→Rel w0 B π F' γ' s' a' w'→wpOps P ops Q Xj a' w')→wpOps P ops Q (List.range' k m++Xj) a w
inductive RunsN (P:Program) (ops:Array Oper):List Oper→HS→(HS→Prop)→Prop
 |many {l:List Oper} {s:HS} {K:HS→Prop} {M:HS→Prop} (m:Nat):(∀k,(∀(j:Nat) o,(l.take m)[j]? =some o→ops[k+j]? =some o)→Qs P ops k (l.take m).length s M)→(∀s',M s'→RunsN P ops (l.drop m) s' K)→RunsN P ops l s K
 |done {l:List Oper} {s:HS} {K:HS→Prop}:wpR P ops l s K→RunsN P ops l s K
 |cut {l:List Oper} {s s1 s2:HS} {K:HS→Prop} (k:Nat):wpR P ops (l.take k) s (fun t=>t=s1)→le s1 s2→RunsN P ops (l.drop k) s2 K→RunsN P ops l s K
 | call {l:List Oper} {o:Oper} {s:HS} {K:HS→Prop} {X:Type} {f:FuncId} {d:Nat} {pv:Option Value} {objs:List (Nat×Ob)} {args:List TV} (ρ σ:Nat→Nat) {Φ:X→Prop} {r:X→RV} {objs':X→List (Nat×Ob)}:gOfN s o=some (f,args.map (TV.ren ρ []),d)→pvOK pv s ρ→HandS ρ σ objs [] s→
   (∀y,Φ y→HandS ρ σ objs (objs' y) s)→X1g P f pv objs args Φ r objs'→(∀y,Φ y→X3r ((objs' y).map (·.1)) (r y)=true)→
   (∀y,Φ y→RunsN P ops l (({s with objs:=Qf σ (objs' y) (QP (objs.map fun p=>ρ p.1) s.objs)}:HS).put (some d) ((r y).ren σ [])) K)→RunsN P ops (o::l) s K
 |callF {l:List Oper} {o:Oper} {s:HS} {K:HS→Prop} {M:HS→Prop}:o.guard=none→callF P s (opd s.regs) o (fun d r ob=>M ((s.made d ob).put (some d) r))→(∀s',M s'→RunsN P ops l s' K)→RunsN P ops (o::l) s K
 |skip {l:List Oper} {o:Oper} {s:HS} {K:HS→Prop} (y:Value):Za ops o s=some false→XJ s o.dst=true→RunsN P ops l (s.put o.dst (.v (.one (.gd false (.c (.lit y)))))) K→RunsN P ops (o::l) s K
 | next {l:List Oper} {o:Oper} {s:HS} {K:HS→Prop} {x:Operand} {d n:Nat} {li:List (Value×CD)} {seen:List Nat}:o.guard=none→o.op=.next x false→o.dst=some d→opd s.regs x=.v (.one (.at_ n 0))→lkp s.objs n=some (.it li seen)→XJ s (some d)=true→
   (∀(j:Nat) k v,li[j]? =some (k,v)→j∉seen→RunsN P ops l (({s with objs:=ins n (.it li (seen++[j])) s.objs}:HS).put (some d) (tupN k v)) K)→
   ((∀j:Nat,j<li.length→j∈seen)→RunsN P ops l (s.put (some d) (.tup [.one (.c (.lit (.bool false)))])) K)→RunsN P ops (o::l) s K
theorem Xb3 {ops:Array Oper} {K:HS→Prop} {Q:Exit→Act→World→Prop} {l:List Oper} {s:HS} (h:RunsN P ops l s K):∀(Xj:List Nat) (k:Nat) (F:Nat→Prop) (γ:Nat→Value) (a:Act) (w:World),(∀j o,l[j]? =some o→ops[k+j]? =some o)→
  Rel w0 B π F γ s a w→(∀s' F' γ' a' w',K s'→(∀b,F b→F' b)→(∀b,F' b→F b∨¬B b)→Rel w0 B π F' γ' s' a' w'→wpOps P ops Q Xj a' w')→wpOps P ops Q (List.range' k l.length++Xj) a w:=by
 induction h with
 |done hw=>exact fun Xj k F γ a w hd hr hK=>Wz _ k _ F γ a w hd hr hw hK
 | many m hm _ ih=>
   intro Xj k F γ a w hd hr hK;rename_i l s K' M _;have hl:l.length=(l.take m).length+(l.drop m).length:=by rw[←List.length_append,List.take_append_drop]
   rw[hl,X29,List.append_assoc];refine hm k (fun j o hj=>?_) w0 B π F γ a w Q _ hr fun s' F2 γ2 a2 w2 hM h3 h4 hr2=>?_
   · rw[List.getElem?_take]at hj;split at hj
     · exact hd j o hj
     cases hj
   refine ih s' hM Xj (k+(l.take m).length) F2 γ2 a2 w2 (fun j o hj=>?_) hr2 fun s3 F3 γ3 a3 w3 hk3 h5 h6 hr3=>?_
   · rw[List.getElem?_drop]at hj;have hlt:m+j<l.length:=(List.getElem?_eq_some_iff.1 hj).1;have:=hd (m+j) o hj;rw[List.length_take,Nat.min_eq_left (by omega),Nat.add_assoc];exact this
   exact hK s3 F3 γ3 a3 w3 hk3 (fun b hb=>h5 b (h3 b hb)) (fun b hb=>(h6 b hb).elim (h4 b) .inr) hr3
 | cut n hw hle _ ih=>
   intro Xj k F γ a w hd hr hK;rename_i l s s1 s2 K' _;have hl:l.length=(l.take n).length+(l.drop n).length:=by rw[←List.length_append,List.take_append_drop]
   rw[hl,X29,List.append_assoc];refine Wz (l.take n) k s F γ a w (fun j o hj=>?_) hr hw fun s' F1 γ1 a1 w1 hs' h1 h2 hr1=>?_
   · rw[List.getElem?_take]at hj;split at hj
     · exact hd j o hj
     cases hj
   subst hs';obtain⟨F2,γ2,h3,h4,hr2⟩:=hle w0 B π F1 γ1 a1 w1 hr1;refine ih Xj (k+(l.take n).length) F2 γ2 a1 w1 (fun j o hj=>?_) hr2 fun s3 F3 γ3 a3 w3 hk3 h5 h6 hr3=>?_
   · rw[List.getElem?_drop]at hj;have hlt:n+j<l.length:=(List.getElem?_eq_some_iff.1 hj).1;have:=hd (n+j) o hj;rw[List.length_take,Nat.min_eq_left (by omega),Nat.add_assoc];exact this
   exact hK s3 F3 γ3 a3 w3 hk3 (fun b hb=>h5 b (h3 b (h1 b hb))) (fun b hb=>(h6 b hb).elim (fun hb=>(h4 b hb).elim (h2 b) .inr) .inr) hr3
 | call ρ σ hg hp hd0 hd hcon honly _ ih=>
   intro Xj k F γ a w hdd hr hK;rw[List.length_cons,List.range'_succ,List.cons_append,wpOps_cons];have hi:=hdd 0 _ rfl;refine Xao hi hr hg hp hd0 hd hcon honly fun y hy F2 γ2 a2 w2 h3 h4 hr2=>?_;refine ih y hy Xj (k+1) F2 γ2 a2 w2 (fun j o' hj=>by have:=hdd (j+1) o' hj;rwa [show k+1+j=k+(j+1) by omega]) hr2 fun s3 F3 γ3 a3 w3 hk3 h5 h6 hr3=>?_;exact hK s3 F3 γ3 a3 w3 hk3 (fun b hb=>h5 b (h3 b hb)) (fun b hb=>(h6 b hb).elim (h4 b) .inr) hr3
 | callF hgd hc _ ih=>
   intro Xj k F γ a w hdd hr hK;rw[List.length_cons,List.range'_succ,List.cons_append,wpOps_cons];have hi:=hdd 0 _ rfl;refine callF_wp hi hr hgd hc fun s' F2 γ2 a2 w2 hm h3 h4 hr2=>?_;refine ih s' hm Xj (k+1) F2 γ2 a2 w2 (fun j o' hj=>by have:=hdd (j+1) o' hj;rwa [show k+1+j=k+(j+1) by omega]) hr2 fun s3 F3 γ3 a3 w3 hk3 h5 h6 hr3=>?_;exact hK s3 F3 γ3 a3 w3 hk3 (fun b hb=>h5 b (h3 b hb)) (fun b hb=>(h6 b hb).elim (h4 b) .inr) hr3
 | skip y hg hok _ ih=>
   intro Xj k F γ a w hdd hr hK;rw[List.length_cons,List.range'_succ,List.cons_append,wpOps_cons];have hi:=hdd 0 _ rfl;refine skipS y hi hr hg hok fun a2 hr2=>?_;exact ih Xj (k+1) F γ a2 w (fun j o' hj=>by have:=hdd (j+1) o' hj;rwa [show k+1+j=k+(j+1) by omega]) hr2 hK
 | next hgd ho hdst hx hl hok _ _ ih1 ih2=>
   intro Xj k F γ a w hdd hr hK;rw[List.length_cons,List.range'_succ,List.cons_append,wpOps_cons];have hi:=hdd 0 _ rfl;refine X9x hi hr hgd ho hdst hx hl hok (fun j key v hj hn a' w' hr2=>?_) fun hall a' w' hr2=>?_
   · exact ih1 j key v hj hn Xj (k+1) F γ a' w' (fun j o' hj=>by have:=hdd (j+1) o' hj;rwa [show k+1+j=k+(j+1) by omega]) hr2 hK
   exact ih2 hall Xj (k+1) F γ a' w' (fun j o' hj=>by have:=hdd (j+1) o' hj;rwa [show k+1+j=k+(j+1) by omega]) hr2 hK
theorem XN {id:Nat} {ops:Array Oper} {s:HS} {Q:Exit→HS→Prop} (h:RunsN P ops ops.toList s (Q .normal)):HT P (.region id ops false) s Q:=by
 intro w0 B π F γ a w hr;refine wp_region ?_
 have:=Xb3 (w0:=w0) (B:=B) (π:=π) (Q:=fun e a' w'=>∃(s':HS) (F':Nat→Prop) (γ':Nat→Value),Q e s'∧(∀b,F b→F' b)∧(∀b,F' b→F b∨¬B b)∧Rel w0 B π F' γ' s' a' w') h [] 0 F γ a w (by simp) hr
  fun s' F' γ' a' w' hk h1 h2 h3=>⟨s',F',γ',hk,h1,h2,h3⟩
 rw[List.range_eq_range'];simpa using this
theorem RunsN.cutE {ops:Array Oper} {l:List Oper} {s s1 s2:HS} {p:Prop} {K:HS→Prop} (k:Nat) (cs:List CR) (h:evc P ops (l.take k) s cs=some (s1,p)) (hp:p) (hle:le s1 s2) (hr:RunsN P ops (l.drop k) s2 K):RunsN P ops l s K:=
 .cut k (QK _ _ _ _ _ h hp rfl) hle hr
theorem RunsN.doneE {ops:Array Oper} {l:List Oper} {s s1:HS} {p:Prop} {K:HS→Prop} (cs:List CR) (h:evc P ops l s cs=some (s1,p)) (hp:p) (hq:K s1):RunsN P ops l s K:=
 .done (QK _ _ _ _ _ h hp hq)
def pnC (v:Value) (x y:CV):Prop:=x=y∨(x=.at_ 1000000 0∧y=.c (.lit v))∨(x=.c (.lit v)∧y=.at_ 1000000 0)
def pnL (v:Value):List CV→List CV→Prop
 |[],[]=>True
 |x::xs,y::ys=>pnC v x y∧pnL v xs ys
 |_,_=>False
def pnO (v:Value):Ob→Ob→Prop
 | .box xs,o=>∃ys,o=.box ys∧pnL v xs ys
 |o,o'=>o=o'
def pnR (v:Value):RV→RV→Prop
 | .v (.one x),r=>∃y,r=.v (.one y)∧pnC v x y
 |r,r'=>r=r'
theorem X7j {v u:Value} {x y:CV} {b:Nat} (hγ:γ 1000000=v) (hb:v=.pointer (some ⟨b,0,none⟩)) (h:pnC v x y) (hr:Xn F γ w x u):Xn F γ w y u:=by
 rcases h with rfl|⟨rfl,rfl⟩|⟨rfl,rfl⟩
 · exact hr
 · obtain⟨b',h1,h2⟩:=hr;rw[hγ]at h1;have:u=v:=by rw[h2,h1]
   subst this;exact CRel.lit _
 cases hr;exact⟨b,by rw[hγ,hb],hb⟩
theorem X7c {v:Value} {b:Nat} (hγ:γ 1000000=v) (hb:v=.pointer (some ⟨b,0,none⟩)):∀{xs ys:List CV} {us:List Value},pnL v xs ys→(∀(j:Nat) x u,xs[j]? =some x→us[j]? =some u→Xn F γ w x u)→ys.length=xs.length∧∀(j:Nat) y u,ys[j]? =some y→us[j]? =some u→Xn F γ w y u
 |[],[],us,_,_=>⟨rfl,fun j y u h=>by simp at h⟩
 |x::xs,y::ys,[],h,hr=>⟨by have:=(X7c hγ hb (us:=[]) h.2 (fun j x u _ h=>by simp at h)).1;simp[this],fun j y u _ h=>by simp at h⟩
 | x::xs,y::ys,u::us,h,hr=>by
   obtain⟨h1,h2⟩:=X7c hγ hb (us:=us) h.2 fun j x u hx hu=>hr (j+1) x u hx hu;refine⟨by simp[h1],fun j z u' hz hu=>?_⟩
   match j with
   |0=>cases hz;cases hu;exact X7j hγ hb h.1 (hr 0 x u rfl rfl)
   |j+1=>exact h2 j z u' hz hu
 |[],_::_,_,h,_=>h.elim
 |_::_,[],_,h,_=>h.elim
theorem Xa2 {x y:HS} {v:Value} {cs:List CV} (hv:x.nt.pv=some v) (hbx:lkp x.objs 1000000=some (.box cs)) (hn:y.nt=x.nt) (hr:Zb (fun k r=>∃r0,lkp x.regs k=some r0∧pnR v r0 r) y.regs) (ho:Zb (fun n o=>∃o0,lkp x.objs n=some o0∧pnO v o0 o) y.objs):le x y:=by
 intro w0 B π F γ a w h;have hγ:γ 1000000=v:=(h.heap.pin 1000000 v (h.nt.2 v hv)).2;obtain⟨b,e,vs,hb,_⟩:=h.heap.ob 1000000 _ hbx;rw[hγ]at hb
 have hO:∀n o,lkp y.objs n=some o→∃o0,lkp x.objs n=some o0∧(XT F γ w B (γ n) o0→XT F γ w B (γ n) o):=by
  intro n o hl;obtain⟨o0,h1,h2⟩:=WP ho n o (Xy hl);refine⟨o0,h1,fun h3=>?_⟩;cases o0 with
  | box xs=>
    obtain⟨ys,rfl,h4⟩:=h2;obtain⟨b',e',us,h5,h6,h7,h8,h9⟩:=h3;obtain⟨h10,h11⟩:=X7c hγ hb (us:=us.toList) h4 fun j x u hx hu=>h9 j x u hx (by simpa using hu);exact⟨b',e',us,h5,h6,h7,by rw[h8,h10],fun j z u hz hu=>h11 j z u hz (by simpa using hu)⟩
  |row _ _ _=>cases h2;exact h3
  |mp _=>cases h2;exact h3
  |mat _ _ _ _=>cases h2;exact h3
  |refs _ _=>cases h2;exact h3
  |mps _ _=>cases h2;exact h3
  |it _ _=>cases h2;exact h3
 refine⟨F,γ,fun _ h=>h,fun _ h=>.inl h,⟨?_,h.defers,by rw[hn];exact h.nt,fun k r hl=>?_⟩⟩
 · exact {
    below:=h.heap.below
    hB:=h.heap.hB
    fsz:=h.heap.fsz
    ob:=fun n o hl=>by obtain⟨o0,h1,h2⟩:=hO n o hl;exact h2 (h.heap.ob n o0 h1)
    apart:=fun n o hl=>by obtain⟨o0,h1,_⟩:=hO n o hl;exact h.heap.apart n o0 h1
    sep:=fun n m on om hn hm=>by obtain⟨o1,h1,_⟩:=hO n on hn;obtain⟨o2,h2,_⟩:=hO m om hm;exact h.heap.sep n m o1 o2 h1 h2
    pin:=h.heap.pin}
 obtain⟨r0,h1,h2⟩:=WP hr k r (Xy hl);have h3:=h.regs k r0 h1
 match r0,h2,h3 with
 | .v (.one z),h2,h3=>obtain⟨y,rfl,h4⟩:=h2;exact X7j hγ hb h4 h3
 | .v (.agg zs),h2,h3=>cases h2;exact h3
 | .tup ts,h2,h3=>cases h2;exact h3
end
end Go.Hl
