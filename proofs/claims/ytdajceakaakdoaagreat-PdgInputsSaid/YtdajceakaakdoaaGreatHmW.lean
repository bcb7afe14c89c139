/- HmW: part of an evaluator of Go code over abstract states, proved sound over the model; used by the proof of the claimed statement. Conditions: none. -/
import Derived.Test.YtdajceakaakdoaaGreatHmV
import Derived.Scope
set_option linter.unusedSimpArgs false
set_option linter.unusedVariables false
namespace Go.Hl
open Go Go.RowKit
def X80 (P:Program) (f:FuncId) (cs:List CD) (args:List TV) (r:RV) (cs':List CD):Prop:=
 XU P f=true∧∀(F:Nat→Prop) (w:World) (b:Nat) (e:TypeId) (vs0 vs:Array Value),(∀b,F b→b<w.heap.size)→¬F b→w.heap[b]? =some (.cells vs0 e (0,0))→Xk F noγ w (cs.map .c) vs0→
  vs.size=args.length→(∀(γ:Nat→Value) (j:Nat) t u,args[j]? =some t→vs[j]? =some u→XD F γ w t u)→
  Calls P f (#[.pointer (some ⟨b,0,none⟩)]++vs) w fun x w'=>∃(v:Value) (N:Nat→Prop) (γ':Nat→Value) (e':TypeId) (vs1:Array Value),x=.returned v∧Kept (fun k=>k<w.heap.size∧k≠b) w w'∧
   (∀c,N c→w.heap.size≤c∧c<w'.heap.size)∧X9 (fun c=>F c∨N c) γ' w' r v∧w'.heap[b]? =some (.cells vs1 e' (0,0))∧Xk (fun c=>F c∨N c) noγ w' (cs'.map .c) vs1
section
variable {P:Program} {F:Nat→Prop} {γ γ':Nat→Value} {w w' w0:World} {B:Nat→Prop} {π:Nat→Option Value}
theorem Xk.data {ds:List CD} {vs:Array Value} (h:Xk F γ w (ds.map .c) vs):Xk F γ' w (ds.map .c) vs:=by
 refine⟨h.1,fun j x u hx hu=>?_⟩;have:=h.2 j x u hx hu;rw[List.getElem?_map]at hx;simp only[Option.map_eq_some_iff]at hx;obtain⟨d,_,rfl⟩:=hx;exact this
theorem X31 {f:FuncId} {fn:Func} {c:Code} {cs cs':List CD} {args:List TV} {r:RV} (hf:P.funcs[f]? =some fn) (hb:fn.body=some c) (hcall:XU P f=true) (hnt:args.length+1≤fn.ntmps)
  (h:HT P c ⟨fn.ntmps,(0,.v (.one (.at_ 1000000 0)))::QL 1 args,[(1000000,.box (cs.map .c))]⟩ (fun e s'=>(e=.normal∨e=.ret)∧∃s2,le s' s2∧(∃ts,X3j P s2 fn.results.toList=some ts∧r=XK ts)∧
   lkp s2.objs 1000000=some (.box (cs'.map .c)))):X80 P f cs args r cs':=by
 refine⟨hcall,fun F w b e vs0 vs hF hFb hbk hcells hsz hargs=>?_⟩;have hbl:b<w.heap.size:=WX hbk
 let γ0:Nat→Value:=fun n=>if n=1000000 then .pointer (some ⟨b,0,none⟩)else .nilFunc
 let B0:Nat→Prop:=fun k=>k<w.heap.size∧k≠b
 let π0:Nat→Option Value:=fun n=>if n=1000000 then some (.pointer (some ⟨b,0,none⟩))else none
 have hγ0:γ0 1000000=.pointer (some ⟨b,0,none⟩):=rfl
 have hrel:Rel w B0 π0 F γ0 ⟨fn.ntmps,(0,.v (.one (.at_ 1000000 0)))::QL 1 args,[(1000000,.box (cs.map .c))]⟩ {tmps:=(#[.pointer (some ⟨b,0,none⟩)]++vs)++Array.replicate (fn.ntmps - (#[Value.pointer (some ⟨b,0,none⟩)]++vs).size) undef,defers:=[]} w:=by
  refine⟨⟨Kept.refl _ _,fun _ h=>h.1,hF,fun n o hl=>?_,fun n o hl c hc=>?_,fun n m on om hn hm hne=>?_,fun n v hv=>?_⟩,rfl,by simp;omega,fun k r hl=>?_⟩
  · simp only[lkp]at hl;split at hl
    · rename_i e';cases hl;subst e';exact⟨b,e,vs0,hγ0,fun hx=>hx.2 rfl,hbk,hcells.data⟩
    cases hl
  · simp only[lkp]at hl;split at hl
    · rename_i e';subst e';cases hc;exact hFb
    cases hl
  · simp only[lkp]at hn hm;split at hn
    · split at hm
      · rename_i e1 e2;exact absurd (e1.symm.trans e2) hne
      cases hm
    cases hn
  · simp only[π0]at hv;split at hv
    · rename_i e';cases hv;subst e';exact⟨Nat.le_refl _,rfl⟩
    cases hv
  simp only[lkp]at hl;split at hl
  · rename_i e';cases hl;subst e';refine⟨b,rfl,?_⟩;rw[Array.getD_eq_getD_getElem?,Array.getElem?_append_left (by simp;omega),Array.getElem?_append_left (by simp)];rfl
  obtain⟨h1,t,ht,rfl⟩:=Z5 args 1 k r hl;have hk:k - 1<vs.size:=by rw[hsz];exact(List.getElem?_eq_some_iff.1 ht).1
  have hv:((#[Value.pointer (some ⟨b,0,none⟩)]++vs)++Array.replicate (fn.ntmps - (#[Value.pointer (some ⟨b,0,none⟩)]++vs).size) undef).getD k undef=vs[k - 1]:=by
   rw[Array.getD_eq_getD_getElem?,Array.getElem?_append_left (by simp;omega),Array.getElem?_append_right (by simp;omega)];simp[hk]
  rw[hv];exact hargs γ0 (k - 1) t vs[k - 1] ht (by simp[hk])
 refine calls_of_wp hf hb (wp_mono (h w B0 π0 F γ0 _ w hrel) ?_);rintro x a' w' ⟨s',F1,γ1,⟨he,s2,hle,⟨ts,hts,rfl⟩,hbox⟩,h1,h2,hr'⟩;obtain⟨F2,γ2,h3,h4,hr2⟩:=hle w B0 π0 F1 γ1 a' w' hr';obtain⟨us,hus,hul,huc⟩:=Zu hr2 hts;have hpin:γ2 1000000=.pointer (some ⟨b,0,none⟩):=(hr2.heap.pin 1000000 _ (by simp[π0])).2;obtain⟨b',e',vs1,hγb,_,hh',hc'⟩:=hr2.heap.ob _ _ hbox;rw[hpin]at hγb;cases hγb;have hFb2:¬F2 b:=hr2.heap.apart _ _ hbox b (by rw[hpin];rfl)
 have hFF:∀c,F2 c→F c∨(F2 c∧w.heap.size≤c):=by
  intro c hc
  have key:¬B0 c→F c∨(F2 c∧w.heap.size≤c):=by
   intro hx;refine .inr ⟨hc,Nat.le_of_not_lt fun hlt=>hx ⟨hlt,fun e=>hFb2 (e▸hc)⟩⟩
  rcases h4 c hc with h5|h5
  · rcases h2 c h5 with h6|h6
    · exact .inl h6
    exact key h6
  exact key h5
 have hres:∃v,(results fn a'.tmps).run P w'=.ok v w'∧X9 F2 γ2 w' (XK ts) v:=by
  rw[ZU,Sem.run_bind,hus,Result.andThen_ok];refine⟨_,rfl,?_⟩
  match ts,us,hul,huc with
  |[],[],_,_=>exact⟨#[],rfl,rfl,by simp⟩
  |[t],[u],_,hc=>exact hc 0 t u rfl rfl
  |t1::t2::ts,u1::u2::us,hl,hc=>exact⟨(u1::u2::us).toArray,by simp,by simpa using hl,fun j t u ht hu=>hc j t u ht (by simpa using hu)⟩
 obtain⟨v,hv,hvr⟩:=hres
 have key:a'.defers=[]∧∃v,(results fn a'.tmps).run P w'=.ok v w'∧∃(v2:Value) (N:Nat→Prop) (γ':Nat→Value) (e':TypeId) (vs1:Array Value),Ending.returned v=.returned v2∧Kept (fun k=>k<w.heap.size∧k≠b) w w'∧
   (∀c,N c→w.heap.size≤c∧c<w'.heap.size)∧X9 (fun c=>F c∨N c) γ' w' (XK ts) v2∧w'.heap[b]? =some (.cells vs1 e' (0,0))∧Xk (fun c=>F c∨N c) noγ w' (cs'.map .c) vs1:=
  ⟨hr2.defers,v,hv,v,fun c=>F2 c∧w.heap.size≤c,γ2,e',vs1,rfl,hr2.heap.below,fun c hc=>⟨hc.2,hr2.heap.fsz c hc.1⟩,hvr.mono hFF fun _ _=>rfl,hh',(hc'.mono hFF fun _ _=>rfl).data⟩
 rcases he with rfl|rfl
 · exact key
 exact key
theorem X4R {objs:List (Nat×Ob)} {x y:CV} (h:brw objs x=some y) {v:Value} {γ':Nat→Value} (hr:Xn F noγ w y v):Xn F γ' w y v:=by
 unfold brw at h;split at h
 · cases h;exact trivial
 · cases h;exact hr
 · cases h;obtain⟨vs,hv,hl,_⟩:=hr;exact⟨vs,hv,hl,by simp⟩
 simp only[Option.map_eq_some_iff]at h;obtain⟨d,_,rfl⟩:=h;exact hr
theorem brwT_any {objs:List (Nat×Ob)} (hh:HeapRel w0 B π F γ objs w) {r:RV} {t:TV} (h:X1B objs r=some t) {v:Value} {γ':Nat→Value} (hr:XD F noγ w t v):XD F γ' w t v:=by
 unfold X1B at h;split at h
 · split at h
   · rename_i y hy;cases h;exact X4R hy hr
   cases h
 · split at h
   · rename_i xs _ ys hy;cases h;obtain⟨vs,rfl,hs,hc⟩:=hr;obtain⟨h1,h2⟩:=ZY hh hy;refine⟨vs,rfl,hs,fun j y u hyj hu=>?_⟩;obtain⟨x,hx,hb⟩:=h2 j y hyj;exact X4R hb (hc j y u hyj hu)
   cases h
 cases h
theorem HeapRel.calledIO {objs:List (Nat×Ob)} (h:HeapRel w0 B π F γ objs w) {n b:Nat} {cs cs':List CD} {e':TypeId} {vs1:Array Value} (hn:lkp objs n=some (.box (cs.map .c))) (hb:γ n=.pointer (some ⟨b,0,none⟩))
  (hk:Kept (fun k=>k<w.heap.size∧k≠b) w w') {N:Nat→Prop} (hN:∀c,N c→w.heap.size≤c∧c<w'.heap.size) (hcell:w'.heap[b]? =some (.cells vs1 e' (0,0))) (hrel:Xk (fun c=>F c∨N c) noγ w' (cs'.map .c) vs1):
  HeapRel w0 B π (fun c=>F c∨N c) γ (ins n (.box (cs'.map .c)) objs) w':=by
 have hBn:Blk (γ n) b:=by rw[hb];rfl
 have hob:=h.ob n _ hn;have hbB:¬B b:=(hob.blk_lt hBn).1;have hF:∀c,F c→w'.heap[c]? =w.heap[c]? :=fun c hc=>hk.block c ⟨h.fsz c hc,fun e=>h.apart n _ hn b hBn (e▸hc)⟩
 have hlk:∀m o,lkp (ins n (.box (cs'.map .c)) objs) m=some o→(m=n∧o=.box (cs'.map .c))∨(m≠n∧lkp objs m=some o):=by
  intro m o hl;rw[XL]at hl;split at hl
  · rename_i e;cases hl;exact .inl ⟨e,rfl⟩
  rename_i e;exact .inr ⟨e,hl⟩
 have hex:∀m o,lkp (ins n (.box (cs'.map .c)) objs) m=some o→∃o',lkp objs m=some o':=by
  intro m o hl;rcases hlk m o hl with⟨rfl,_⟩|⟨_,h2⟩
  · exact⟨_,hn⟩
  exact⟨_,h2⟩
 exact {
  below:=h.below.trans ⟨hk.os,hk.tape,hk.output,hk.size,fun c hc=>hk.block c ⟨h.hB c hc,fun e=>hbB (e▸hc)⟩⟩
  hB:=fun c hc=>Nat.lt_of_lt_of_le (h.hB c hc) hk.size
  fsz:=fun c hc=>by
   rcases hc with hc|hc
   · exact Nat.lt_of_lt_of_le (h.fsz c hc) hk.size
   exact(hN c hc).2
  ob:=fun m o hl=>by
   rcases hlk m o hl with⟨rfl,rfl⟩|⟨hne,hl'⟩
   · exact⟨b,e',vs1,hb,hbB,hcell,hrel.data⟩
   have h1:=h.ob m o hl';exact h1.mono (fun _ h=>.inl h) hF fun c hc=>hk.block c ⟨(h1.blk_lt hc).2,fun e=>h.sep m n _ _ hl' hn hne c hc (e▸hBn)⟩
  apart:=fun m o hl c hc hFc=>by
   obtain⟨o',ho'⟩:=hex m o hl;rcases hFc with hFc|hFc
   · exact h.apart m o' ho' c hc hFc
   have:=((h.ob m o' ho').blk_lt hc).2;have:=(hN c hFc).1;omega
  sep:=fun m k om ok hm hk' hne=>by
   obtain⟨o1,h1⟩:=hex m om hm;obtain⟨o2,h2⟩:=hex k ok hk';exact h.sep m k o1 o2 h1 h2 hne
  pin:=h.pin}
def ioOf (s:HS) (o:Oper):Option (FuncId×Nat×List CD×List TV×Nat):=
 match o.guard,o.op,o.dst with
 | none, .call {callee:=.value x,args:=args, .. },some d=>match opd s.regs x,args.toList with
   | .v (.one (.fn f [])),a0::Xj=>match opd s.regs a0,X1s s.objs (opd s.regs) Xj with
     | .v (.one (.at_ n 0)),some ts=>match lkp s.objs n with
       | some (.box xs)=>match W8 xs with
         |some cs=>if(Xj.any fun x=>(opd s.regs x).ownB)=false∧XJ s (some d)=true then some (f,n,cs,ts,d)else none
         |none=>none
       |_=>none
     |_,_=>none
   |_,_=>none
 |_,_,_=>none
theorem io_sound {s:HS} {a:Act} {ops:Array Oper} {i:Nat} {o:Oper} {f:FuncId} {n d:Nat} {cs cs':List CD} {ts:List TV} {r:RV} {Kc:Act→World→Prop} {Q:Exit→Act→World→Prop} (hi:ops[i]? =some o) (h:Rel w0 B π F γ s a w) (hc:ioOf s o=some (f,n,cs,ts,d)) (hcon:X80 P f cs ts r cs')
  (honly:r.onlyB false 0=true)
  (hK:∀F' a' w',(∀b,F b→F' b)→(∀b,F' b→F b∨¬B b)→Rel w0 B π F' γ (({s with objs:=ins n (.box (cs'.map .c)) s.objs}:HS).put (some d) r) a' w'→Kc a' w'):wpOp P ops Q i Kc a w:=by
 unfold ioOf at hc;split at hc
 · rename_i x args ts0 d0 hgd ho hd;split at hc
   · rename_i f0 a0 Xj hf hargs;split at hc
     · rename_i n0 ts1 hg0 hts;split at hc
       · rename_i xs hl;split at hc
         · rename_i cs0 hdo;split at hc
           · rename_i hcond;cases hc;obtain⟨hown,hok⟩:=hcond;have hxs:=ZB _ _ hdo;subst hxs;obtain⟨hcall,hcon⟩:=hcon;have hx:=h.opd x;rw[hf]at hx;obtain⟨cvs,hv,hcl,_⟩:=hx;have:cvs=[]:=List.eq_nil_of_length_eq_zero (by simpa using hcl);subst this;have hv':a.eval x=.func (.func f) #[] #[]:=hv;have hx0:=h.opd a0;rw[hg0]at hx0;obtain⟨b,hb,hv0⟩:=hx0;have harr:args=(a0::Xj).toArray:=by rw[←hargs]
             have hrun:(execOp a.eval o).run P w=.ok (.enter f (#[.pointer (some ⟨b,0,none⟩)]++(Xj.map a.eval).toArray)) w:=by
              unfold XU at hcall;split at hcall
              · rename_i fn hfn;simp only[Bool.and_eq_true,Bool.not_eq_true']at hcall;have hnm:¬fn.name= "runtime.NumGoroutine" :=by simpa using hcall.1
                have hnb:¬fn.body=none:=by
                 intro hb;rw[hb]at hcall;cases hcall.2
                have e1:args.map a.eval= #[.pointer (some ⟨b,0,none⟩)]++(Xj.map a.eval).toArray:=by rw[harr];simp[hv0]
                simp[execOp,ho,resolve,hv',Deferred.ofValue,invoke,callFunc,hfn,hnm,hnb,e1]
              cases hcall
             unfold wpOp;rw[hi];simp only;have hwant:Region.wanted o (yielded ops a.tmps)=true:=by unfold Region.wanted;rw[hgd]
             rw[hwant];simp only[if_true];refine .inl ?_;unfold Oper.wp;rw[hrun,Oper.upon_enter];have hBn:Blk (γ n) b:=by rw[hb];rfl
             obtain⟨b',e,vs0,hγ,hB,hh',hcr⟩:=h.heap.ob n _ hl;rw[hb]at hγ;cases hγ;obtain⟨hlen,hts'⟩:=X0Z hts;refine(hcon F w b e vs0 (Xj.map a.eval).toArray h.heap.fsz (h.heap.apart n _ hl b hBn) hh' hcr.data (by simp[hlen]) fun γ' j t u ht hu=>?_).mono ?_
             · obtain⟨y,hy,hbr⟩:=hts' j t ht
               have hu':u=a.eval y:=by
                simp only[List.getElem?_toArray,List.getElem?_map,hy,Option.map_some,Option.some.injEq]at hu;exact hu.symm
               rw[hu'];refine brwT_any h.heap hbr (X4l h.heap ?_ hbr (h.opd y));rw[List.any_eq_false]at hown;simpa using hown y (List.mem_of_getElem? hy)
             rintro x w' ⟨v,N,γ',e',vs1,rfl,hk,hN,hr,hcell,hrel⟩;have hh2:=h.heap.calledIO hl hb hk hN hcell hrel;have hFk:∀c,F c→w'.heap[c]? =w.heap[c]? :=fun c hc=>hk.block c ⟨h.heap.fsz c hc,fun e=>h.heap.apart n _ hl b hBn (e▸hc)⟩;refine hK (fun c=>F c∨N c) _ _ (fun _ h=>.inl h) (fun c hc=>hc.imp id fun hc hx=>?_) ?_
             · have:=h.heap.hB c hx;have:=(hN c hc).1;omega
             rw[hd];exact h.step (objs':=ins n (.box (cs'.map .c)) s.objs) hok hh2 (hr.only (ob:=false) (d:=0) honly (by simp)) fun k r v _ hr=>hr.mono (fun _ h=>.inl h) hFk
           cases hc
         cases hc
       cases hc
     cases hc
   cases hc
 cases hc
theorem Wz {ops:Array Oper} {K:HS→Prop} {Q:Exit→Act→World→Prop} {Xj:List Nat}:∀(l:List Oper) (k:Nat) (s:HS) (F:Nat→Prop) (γ:Nat→Value) (a:Act) (w:World),(∀j o,l[j]? =some o→ops[k+j]? =some o)→
  Rel w0 B π F γ s a w→wpR P ops l s K→
  (∀s' F' γ' a' w',K s'→(∀b,F b→F' b)→(∀b,F' b→F b∨¬B b)→Rel w0 B π F' γ' s' a' w'→wpOps P ops Q Xj a' w')→
  wpOps P ops Q (List.range' k l.length++Xj) a w
 |[],k,s,F,γ,a,w,_,h,hw,hK=>hK s F γ a w hw (fun _ h=>h) (fun _ h=>.inl h) h
 | o::l,k,s,F,γ,a,w,hd,h,hw,hK=>by
   have hi:ops[k]? =some o:=hd 0 o rfl;rw[List.length_cons,List.range'_succ,List.cons_append,wpOps_cons];refine X2s hi h hw fun s' F' γ' a' w' hw' h1 h2 hr=>?_;refine Wz l (k+1) s' F' γ' a' w' (fun j o' hj=>by have:=hd (j+1) o' hj;rwa [show k+1+j=k+(j+1) by omega]) hr hw' fun s2 F2 γ2 a2 w2 hk2 h3 h4 hr2=>?_;refine hK s2 F2 γ2 a2 w2 hk2 (fun b hb=>h3 b (h1 b hb)) (fun b hb=>?_) hr2;rcases h4 b hb with h|h
   · exact h2 b h
   exact .inr h
theorem X0z {id:Nat} {ops:Array Oper} (k:Nat) (r:RV) (cs':List CD) {s s1 s3:HS} {o:Oper} {f:FuncId} {n d:Nat} {cs:List CD} {ts:List TV} {Q:Exit→HS→Prop} (ho:ops[k]? =some o) (hpre:evs P ops (ops.toList.take k) s=some s1)
  (hio:ioOf s1 o=some (f,n,cs,ts,d)) (hcon:X80 P f cs ts r cs') (honly:r.onlyB false 0=true)
  (hpost:evs P ops (ops.toList.drop (k+1)) (({s1 with objs:=ins n (.box (cs'.map .c)) s1.objs}:HS).put (some d) r)=some s3) (hq:Q .normal s3):HT P (.region id ops false) s Q:=by
 intro w0 B π F γ a w hr;refine wp_region ?_;have hlt:k<ops.size:=(Array.getElem?_eq_some_iff.1 ho).1
 have hsplit:List.range ops.size=List.range' 0 (ops.toList.take k).length++(k::List.range' (k+1) (ops.toList.drop (k+1)).length):=by
  rw[List.range_eq_range',List.length_take,List.length_drop,Array.length_toList,Nat.min_eq_left (by omega)];apply List.ext_getElem?;intro j;by_cases hj:j<k
  · rw[List.getElem?_append_left (by simpa using hj)];simp[hj,show j<ops.size by omega]
  rw[List.getElem?_append_right (by simp;omega)];simp only[List.length_range'];by_cases hjk:j=k
  · subst hjk;simp[hlt]
  rw[show j - k=(j - (k+1))+1 by omega,List.getElem?_cons_succ];by_cases hjs:j<ops.size
  · rw[List.getElem?_range' (by omega),List.getElem?_range' (by omega)];congr 1;omega
  rw[List.getElem?_eq_none (by simp;omega),List.getElem?_eq_none (by simp;omega)]
 rw[hsplit];refine Wz (ops.toList.take k) 0 s F γ a w (fun j o' hj=>?_) hr (X11 _ _ _ hpre rfl:wpR P ops (ops.toList.take k) s (fun t=>t=s1)) fun s' F1 γ1 a1 w1 hs' h1 h2 hr1=>?_
 · rw[List.getElem?_take]at hj;split at hj
   · rw[Nat.zero_add];simpa using hj
   cases hj
 subst hs';rw[wpOps_cons];refine io_sound ho hr1 hio hcon honly fun F2 a2 w2 h3 h4 hr2=>?_
 have:=Wz (Q:=fun e a' w'=>∃(s':HS) (F':Nat→Prop) (γ':Nat→Value),Q e s'∧(∀b,F b→F' b)∧(∀b,F' b→F b∨¬B b)∧Rel w0 B π F' γ' s' a' w') (Xj:=[]) (ops.toList.drop (k+1)) (k+1) _ F2 γ1 a2 w2 (fun j o' hj=>by
   rw[List.getElem?_drop]at hj;simpa using hj) hr2 (X11 _ _ _ hpost rfl:wpR P ops (ops.toList.drop (k+1)) _ (fun t=>t=s3)) fun s4 F4 γ4 a4 w4 hs4 h5 h6 hr4=>?_
 · simpa using this
 subst hs4;exact⟨s4,F4,γ4,hq,fun b hb=>h5 b (h3 b (h1 b hb)),fun b hb=>(h6 b hb).elim (fun hb=>(h4 b hb).elim (h2 b) .inr) .inr,hr4⟩
def evcS (P:Program) (ops:Array Oper):List Oper→HS→List (Option CR)→Option (HS×Prop)
 |[],s,_=>some (s,True)
 | o :: l,s,cs=>match Q7 o.op with
   | .call=>match cs with
     | some c::cs=>match evc P ops [o] s [c] with
       | some (s',p)=>match evcS P ops l s' cs with
         |some (s'',q)=>some (s'',p∧q)
         |none=>none
       |none=>none
     | none::cs=>match o.guard,Za ops o s with
       |some _,some b=>if b=false∧XJ s o.dst=true then evcS P ops l (s.put o.dst (.v (.one .any))) cs else none
       |_,_=>none
     |[]=>none
   | _ =>match evc P ops [o] s [] with
     | some (s',p)=>match evcS P ops l s' cs with
       |some (s'',q)=>some (s'',p∧q)
       |none=>none
     |none=>none
theorem wpR_one {ops:Array Oper} {o:Oper} {l:List Oper} {s:HS} {K:HS→Prop} (h:wpR P ops [o] s (fun t=>wpR P ops l t K)):wpR P ops (o::l) s K:=by
 simp only[wpR]at h⊢;exact h
theorem X2X {ops:Array Oper} {K:HS→Prop}:∀(l:List Oper) (s s':HS) (cs:List (Option CR)) (p:Prop),evcS P ops l s cs=some (s',p)→p→K s'→wpR P ops l s K
 |[],s,s',_,p,h,_,hk=>by cases h;exact hk
 | o :: l,s,s',cs,p,h,hp,hk=>by
   have step:∀(cs1:List CR) (cs2:List (Option CR)),(match evc P ops [o] s cs1 with
     | some (s1,p)=>match evcS P ops l s1 cs2 with
       |some (s'',q)=>some (s'',p∧q)
       |none=>none
     |none=>none)=some (s',p)→wpR P ops (o::l) s K:=by
    intro cs1 cs2 h;split at h
    · rename_i s1 p1 he;split at h
      · rename_i s2 q he2;cases h;exact wpR_one (QK _ _ _ _ _ he hp.1 (X2X l s1 s' cs2 q he2 hp.2 hk))
      cases h
    cases h
   unfold evcS at h;split at h
   · rename_i hc;split at h
     · exact step _ _ h
     · split at h
       · rename_i q b hg hgd;split at h
         · rename_i hb;simp only[wpR,hg,hgd,hc];refine .inl ⟨hb.1,hb.2,?_⟩;exact X2X l _ s' _ p h hp hk
         cases h
       cases h
     cases h
   exact step _ _ h
theorem X0F {id:Nat} {ops:Array Oper} {s s':HS} {p:Prop} {Q:Exit→HS→Prop} (cs:List (Option CR)) (h:evcS P ops ops.toList s cs=some (s',p)) (hp:p) (hq:Q .normal s'):HT P (.region id ops false) s Q:=
 X3T (X2X _ _ _ _ _ h hp hq)
end
end Go.Hl
