/- HmZC: part of an evaluator of Go code over abstract states, proved sound over the model; used by the proof of the claimed statement. Conditions: none. -/
import Derived.Test.YtdajceakaakdoaaGreatHmZA
set_option maxRecDepth 100000
set_option maxHeartbeats 2000000
set_option linter.unusedSimpArgs false
set_option linter.unusedVariables false
set_option linter.unusedSimpArgs false
set_option linter.unusedVariables false
namespace Go.Hl
open Go Go.RowKit
def rbB:Ob→Bool
 | .box _=>true
 | .row _ _ _=>true
 | .mp _=>true
 | .mat _ _ _ _=>true
 |_=>false
def QN (dom:List Nat):CV→Bool
 | .any=>true
 | .c _=>true
 | .own n=>dom.contains n
 | .at_ n _=>dom.contains n
 | .fn _ caps=>caps.all fun p=>dom.contains p.1
 |_=>false
def WV (dom:List Nat):Ob→Bool
 | .box cs=>cs.all (QN dom)
 | .row _ _ _=>true
 | .mp _=>true
 | .mat _ _ _ _=>true
 |_=>false
def okTV (dom:List Nat):TV→Bool
 | .one x=>QN dom x
 | .agg xs=>xs.all (QN dom)
def X3r (dom:List Nat):RV→Bool
 | .v t=>okTV dom t
 | .tup ts=>ts.all (okTV dom)
def X4N (P:Program) (f:FuncId) (objs:List (Nat×Ob)) (args:List TV) (r:RV) (objs':List (Nat×Ob)):Prop:=
 XU P f=true∧∀(F:Nat→Prop) (γ:Nat→Value) (w:World) (vs:Array Value),HeapRel w (ownB γ objs w) (fun _=>none) F γ objs w→vs.size=args.length→
  (∀(j:Nat) t u,args[j]? =some t→vs[j]? =some u→XD F γ w t u)→
  Calls P f vs w fun x w'=>∃(v:Value) (N:Nat→Prop) (γ':Nat→Value),x=.returned v∧Kept (ownB γ objs w) w w'∧(∀c,N c→¬ownB γ objs w c∧c<w'.heap.size)∧X9 (fun c=>F c∨N c) γ' w' r v∧
   HeapRel w (ownB γ objs w) (fun _=>none) (fun c=>F c∨N c) γ' objs' w'∧∀n cs,lkp objs n=some (.box cs)→γ' n=γ n
section
variable {P:Program} {F:Nat→Prop} {γ γ':Nat→Value} {w w' w0:World} {B:Nat→Prop} {π:Nat→Option Value}
theorem HeapRel.nopin {objs:List (Nat×Ob)} (h:HeapRel w0 B π F γ objs w):HeapRel w0 B (fun _=>none) F γ objs w:=
 ⟨h.below,h.hB,h.fsz,h.ob,h.apart,h.sep,fun n v hv=>by cases hv⟩
theorem X8Q {f:FuncId} {fn:Func} {c:Code} {objs objs':List (Nat×Ob)} {args:List TV} {r:RV} (hf:P.funcs[f]? =some fn) (hb:fn.body=some c) (hcall:XU P f=true) (hnt:args.length≤fn.ntmps)
  (hpin:∀n cs,lkp objs n=some (.box cs)→1000000≤n)
  (h:HT P c ⟨fn.ntmps,QL 0 args,objs⟩ (fun e s'=>(e=.normal∨e=.ret)∧∃s2,le s' s2∧(∃ts,X3j P s2 fn.results.toList=some ts∧r=XK ts)∧∀n o,lkp objs' n=some o→lkp s2.objs n=some o)):X4N P f objs args r objs':=by
 refine⟨hcall,fun F γ w vs hh hsz hargs=>?_⟩
 let π0:Nat→Option Value:=fun n=>match lkp objs n with
  |some (.box _)=>some (γ n)
  |_=>none
 have hh0:HeapRel w (ownB γ objs w) π0 F γ objs w:=⟨hh.below,hh.hB,hh.fsz,hh.ob,hh.apart,hh.sep,fun n v hv=>by
  simp only[π0]at hv;split at hv
  · rename_i cs hl;cases hv;exact⟨hpin n cs hl,rfl⟩
  cases hv⟩
 have hrel:Rel w (ownB γ objs w) π0 F γ ⟨fn.ntmps,QL 0 args,objs⟩ {tmps:=vs++Array.replicate (fn.ntmps - vs.size) undef,defers:=[]} w:=by
  refine⟨hh0,rfl,by simp;omega,fun k r hl=>?_⟩;obtain⟨h1,t,ht,rfl⟩:=Z5 args 0 k r hl;have hk:k<vs.size:=by rw[hsz];exact(List.getElem?_eq_some_iff.1 ht).1
  have hv:(vs++Array.replicate (fn.ntmps - vs.size) undef).getD k undef=vs[k]:=by
   rw[Array.getD_eq_getD_getElem?,Array.getElem?_append_left hk];simp[hk]
  rw[hv];exact hargs (k - 0) t vs[k] ht (by simp[hk])
 refine calls_of_wp hf hb (wp_mono (h w _ _ F γ _ w hrel) ?_);rintro x a' w' ⟨s',F1,γ1,⟨he,s2,hle,⟨ts,hts,rfl⟩,hobjs⟩,h1,h2,hr'⟩;obtain⟨F2,γ2,h3,h4,hr2⟩:=hle w _ _ F1 γ1 a' w' hr';obtain⟨us,hus,hul,huc⟩:=Zu hr2 hts
 have hFF:∀c,F2 c→F c∨(F2 c∧¬ownB γ objs w c):=by
  intro c hc;rcases h4 c hc with h5|h5
  · rcases h2 c h5 with h6|h6
    · exact .inl h6
    exact .inr ⟨hc,h6⟩
  exact .inr ⟨hc,h5⟩
 have hEq:(fun c=>F c∨(F2 c∧¬ownB γ objs w c))=F2:=by
  funext c
  refine propext ⟨fun h=>?_,hFF c⟩;rcases h with h|h
  · exact h3 c (h1 c h)
  exact h.1
 have hres:∃v,(results fn a'.tmps).run P w'=.ok v w'∧X9 F2 γ2 w' (XK ts) v:=by
  rw[ZU,Sem.run_bind,hus,Result.andThen_ok];refine⟨_,rfl,?_⟩
  match ts,us,hul,huc with
  |[],[],_,_=>exact⟨#[],rfl,rfl,by simp⟩
  |[t],[u],_,hc=>exact hc 0 t u rfl rfl
  |t1::t2::ts,u1::u2::us,hl,hc=>exact⟨(u1::u2::us).toArray,by simp,by simpa using hl,fun j t u ht hu=>hc j t u ht (by simpa using hu)⟩
 obtain⟨v,hv,hvr⟩:=hres
 have key:a'.defers=[]∧∃v,(results fn a'.tmps).run P w'=.ok v w'∧∃(v2:Value) (N:Nat→Prop) (γ':Nat→Value),Ending.returned v=.returned v2∧Kept (ownB γ objs w) w w'∧
   (∀c,N c→¬ownB γ objs w c∧c<w'.heap.size)∧X9 (fun c=>F c∨N c) γ' w' (XK ts) v2∧
   HeapRel w (ownB γ objs w) (fun _=>none) (fun c=>F c∨N c) γ' objs' w'∧∀n cs,lkp objs n=some (.box cs)→γ' n=γ n:=by
  refine⟨hr2.defers,v,hv,v,fun c=>F2 c∧¬ownB γ objs w c,γ2,rfl,hr2.heap.below,fun c hc=>⟨hc.2,hr2.heap.fsz c hc.1⟩,hvr.mono hFF fun _ _=>rfl,?_,fun n cs hl=>?_⟩
  · rw[hEq];exact(hr2.heap.less hobjs).nopin
  exact(hr2.heap.pin n (γ n) (by simp only[π0,hl])).2
 rcases he with rfl|rfl
 · exact key
 exact key
theorem Xn.agree {x:CV} {v:Value} (hm:∀n,x.men n→γ' n=γ n) (h:Xn F γ w x v):Xn F γ' w x v:=by
 induction x with
 |gd b x ih=>exact⟨fun hb=>ih hm (h.1 hb),h.2⟩
 |any=>exact h
 |c d=>exact h
 |own n=>simp only[Xn]at*;rw[hm n rfl];exact h
 |at_ n off=>simp only[Xn]at*;rw[hm n rfl];exact h
 |el n s i off=>simp only[Xn]at*;rw[hm n rfl];exact h
 |sub n i=>simp only[Xn]at*;rw[hm n rfl];exact h
 |el2 n s i j off=>simp only[Xn]at*;rw[hm n rfl];exact h
 | fn f caps=>
   obtain⟨vs,hv,hl,hc⟩:=h;refine⟨vs,hv,hl,fun j p u hp hu=>?_⟩;rw[hm p.1 ⟨p,List.mem_of_getElem? hp,rfl⟩];exact hc j p u hp hu
theorem Xk.agree {xs:List CV} {vs:Array Value} (hm:∀n,(∃x∈xs,x.men n)→γ' n=γ n) (h:Xk F γ w xs vs):Xk F γ' w xs vs:=
 ⟨h.1,fun j x u hx hu=>(h.2 j x u hx hu).agree fun n hn=>hm n ⟨x,List.mem_of_getElem? hx,hn⟩⟩
theorem XD.agree {x:TV} {v:Value} (hm:∀n,x.men n→γ' n=γ n) (h:XD F γ w x v):XD F γ' w x v:=by
 cases x with
 |one x=>exact Xn.agree hm h
 |agg xs=>obtain⟨vs,rfl,hc⟩:=h;exact⟨vs,rfl,hc.agree hm⟩
theorem X9.agree {x:RV} {v:Value} (hm:∀n,x.men n→γ' n=γ n) (h:X9 F γ w x v):X9 F γ' w x v:=by
 cases x with
 |v t=>exact XD.agree hm h
 | tup ts=>
   obtain⟨vs,rfl,hs,hc⟩:=h;exact⟨vs,rfl,hs,fun j t u ht hu=>(hc j t u ht hu).agree fun n hn=>hm n ⟨t,List.mem_of_getElem? ht,hn⟩⟩
theorem XT.agree {x:Value} {o:Ob} (hm:∀n,o.men n→γ' n=γ n) (h:XT F γ w B x o):XT F γ' w B x o:=by
 cases o with
 |box cs=>obtain⟨b,e,vs,rfl,hb,hh,hc⟩:=h;exact⟨b,e,vs,rfl,hb,hh,hc.agree hm⟩
 |row e s rows=>exact h
 |mp l=>exact h
 |mat e e' s rows=>exact h
 | refs e ns=>
   obtain⟨b,rfl,hb,hh⟩:=h;refine⟨b,rfl,hb,?_⟩;rw[hh];congr 3;refine List.map_congr_left fun n hn=>?_;rw[hm n hn]
 |mps e ms=>exact h
 |it l seen=>exact h
theorem X0D (x:CV):x.okNil []=true:=by
 induction x with
 |gd b x ih=>exact ih
 |_=>simp[CV.okNil]
theorem X6f {ρ:Nat→Nat} {cs:List CV} {vs:Array Value} (h:Xk F γ w (cs.map (CV.ren ρ [])) vs):Xk F (fun n=>γ (ρ n)) w cs vs:=by
 refine⟨by simpa using h.1,fun j x u hx hu=>?_⟩;exact Xn.ren (ρ:=ρ) (nils:=[]) (fun n _=>rfl) (fun n hn=>by cases hn) (X0D x) (h.2 j (x.ren ρ []) u (by simp[hx]) hu)
theorem X64 {σ:Nat→Nat} {dom:List Nat} {x:CV} {v:Value} (hd:∀n,dom.contains n=true→γ' (σ n)=γ n) (ho:QN dom x=true) (h:Xn F γ w x v):Xn F γ' w (x.ren σ []) v:=by
 cases x with
 |any=>trivial
 |c d=>exact h
 | own n=>
   simp only[QN]at ho;simp only[CV.ren,List.contains_nil,Bool.false_eq_true,if_false,Xn]at*;rw[hd n ho];exact h
 | at_ n off=>
   simp only[QN]at ho;simp only[CV.ren,List.contains_nil,Bool.false_eq_true,if_false,Xn]at*;rw[hd n ho];exact h
 | fn f caps=>
   simp only[QN,List.all_eq_true]at ho;obtain⟨vs,hv,hl,hc⟩:=h;refine⟨vs,hv,by simpa using hl,fun j p u hp hu=>?_⟩;rw[List.getElem?_map]at hp;simp only[Option.map_eq_some_iff]at hp;obtain⟨q,hq,rfl⟩:=hp;simp only;rw[hd q.1 (ho q (List.mem_of_getElem? hq))];exact hc j q u hq hu
 |_=>cases ho
theorem tv_out {σ:Nat→Nat} {dom:List Nat} {x:TV} {v:Value} (hd:∀n,dom.contains n=true→γ' (σ n)=γ n) (ho:okTV dom x=true) (h:XD F γ w x v):XD F γ' w (x.ren σ []) v:=by
 cases x with
 |one x=>exact X64 hd ho h
 | agg xs=>
   obtain⟨vs,rfl,hs,hc⟩:=h;refine⟨vs,rfl,by simpa using hs,fun j y u hy hu=>?_⟩;rw[List.getElem?_map]at hy;simp only[Option.map_eq_some_iff]at hy;obtain⟨z,hz,rfl⟩:=hy;simp only[okTV,List.all_eq_true]at ho;exact X64 hd (ho z (List.mem_of_getElem? hz)) (hc j z u hz hu)
theorem rv_out {σ:Nat→Nat} {dom:List Nat} {x:RV} {v:Value} (hd:∀n,dom.contains n=true→γ' (σ n)=γ n) (ho:X3r dom x=true) (h:X9 F γ w x v):X9 F γ' w (x.ren σ []) v:=by
 cases x with
 |v t=>exact tv_out hd ho h
 | tup ts=>
   obtain⟨vs,rfl,hs,hc⟩:=h;refine⟨vs,rfl,by simpa using hs,fun j y u hy hu=>?_⟩;rw[List.getElem?_map]at hy;simp only[Option.map_eq_some_iff]at hy;obtain⟨z,hz,rfl⟩:=hy;simp only[X3r,List.all_eq_true]at ho;exact tv_out hd (ho z (List.mem_of_getElem? hz)) (hc j z u hz hu)
theorem mat_B {B':Nat→Prop} {e e':TypeId} {s:Nat} {x:Value} {rows:List (Option (List (List CD)))} (h:XT F γ w B x (.mat e e' s rows)) (hB:∀b,Blk x b→¬B' b):XT F γ' w B' x (.mat e e' s rows):=by
 obtain⟨o,is,rfl,h0,hl,⟨xs,⟨hxl,hown⟩,hxs⟩,hin,hd1,hd2⟩:=h;have hbk:∀v∈o::is,∀b,blk v=some b→¬B' b:=fun v hv b hb=>hB b ⟨v,by simpa using hv,hb⟩;refine⟨o,is,rfl,h0,hl,⟨xs,⟨hxl,hown.imp id ?_⟩,hxs⟩,fun i v r hv hr=>?_,hd1,hd2⟩
 · rintro⟨g,oo,cap,cur,rfl,_,Xj⟩;exact⟨g,oo,cap,cur,rfl,hbk _ List.mem_cons_self g rfl,Xj⟩
 have h1:=hin i v r hv hr;cases r with
 |none=>exact h1
 |some rr=>exact row_B h1 (hbk v (List.mem_cons_of_mem _ (List.mem_of_getElem? hv)))
theorem ob_out {σ:Nat→Nat} {dom:List Nat} {B':Nat→Prop} {x:Value} {o:Ob} (hd:∀n,dom.contains n=true→γ' (σ n)=γ n) (ho:WV dom o=true) (hB:∀b,¬B b→¬B' b) (h:XT F γ w B x o):XT F γ' w B' x (o.ren σ []):=by
 cases o with
 | box cs=>
   obtain⟨b,e,vs,rfl,hb,hh,hc⟩:=h;refine⟨b,e,vs,rfl,hB b hb,hh,by simpa using hc.1,fun j y u hy hu=>?_⟩;rw[List.getElem?_map]at hy;simp only[Option.map_eq_some_iff]at hy;obtain⟨z,hz,rfl⟩:=hy;simp only[WV,List.all_eq_true]at ho;exact X64 hd (ho z (List.mem_of_getElem? hz)) (hc.2 j z u hz hu)
 | row e s rows=>
   have hrow:Xr F w B e s x rows:=h;obtain⟨xs,hown⟩:=Xr.own hrow;exact row_B hrow fun b hb=>hB b (hown.blk_lt hb).1
 | mp l=>
   obtain⟨b,es,clock,h1,h2,h3⟩:=h;exact⟨b,es,clock,h1,hB b h2,h3⟩
 |mat e e' s rows=>exact mat_B h fun b hb=>hB b (h.blk_lt hb).1
 |_=>cases ho
def Qf (σ:Nat→Nat):List (Nat×Ob)→List (Nat×Ob)→List (Nat×Ob)
 |[],b=>b
 |(n,o)::l,b=>ins (σ n) (o.ren σ []) (Qf σ l b)
theorem ZP {σ:Nat→Nat} {b:List (Nat×Ob)} {m:Nat} {o:Ob}:∀{l:List (Nat×Ob)},lkp (Qf σ l b) m=some o→
  (∃n o',lkp l n=some o'∧σ n=m∧o=o'.ren σ [])∨((∀n o',lkp l n=some o'→σ n≠m)∧lkp b m=some o)
 |[],h=>.inr ⟨fun n o' h=>(by cases h),h⟩
 | (k,x)::l,h=>by
   simp only[Qf]at h;rw[XL]at h;split at h
   · rename_i e;cases h;exact .inl ⟨k,x,by simp[lkp],e.symm,rfl⟩
   rename_i e;rcases ZP h with⟨n,o',h1,h2,h3⟩|⟨h1,h2⟩
   · refine .inl ⟨n,o',?_,h2,h3⟩;have:¬k=n:=fun hk=>e (by rw[hk,h2]);simp[lkp,this,h1]
   refine .inr ⟨fun n o' hn=>?_,h2⟩;simp only[lkp]at hn;split at hn
   · rename_i hk;rw[←hk];exact fun h=>e h.symm
   exact h1 n o' hn
def invS (σ:Nat→Nat):List (Nat×Ob)→Nat→Option Nat
 |[],_=>none
 |(n,_)::l,m=>if σ n=m then some n else invS σ l m
theorem X8o {σ:Nat→Nat} {m n:Nat}:∀{l:List (Nat×Ob)},invS σ l m=some n→σ n=m∧∃o,lkp l n=some o
 |[],h=>by cases h
 | (k,x)::l,h=>by
   simp only[invS]at h;split at h
   · rename_i e;cases h;exact⟨e,x,by simp[lkp]⟩
   obtain⟨h1,o,h2⟩:=X8o h;refine⟨h1,?_⟩;by_cases e:k=n
   · exact⟨x,by simp[lkp,e]⟩
   exact⟨o,by simp[lkp,e,h2]⟩
theorem XaO {σ:Nat→Nat} {n:Nat} {o:Ob}:∀{l:List (Nat×Ob)},(∀a b oa ob,lkp l a=some oa→lkp l b=some ob→a≠b→σ a≠σ b)→lkp l n=some o→invS σ l (σ n)=some n
 |[],_,h=>by cases h
 | (k,x)::l,hi,h=>by
   simp only[invS];split
   · rename_i e;by_cases hk:k=n
     · rw[hk]
     exact absurd e (hi k n x o (by simp[lkp]) h hk)
   rename_i e;have hk:¬k=n:=fun hk=>e (by rw[hk]);have h':lkp l n=some o:=by simpa[lkp,hk]using h
   refine XaO (fun a b oa ob ha hb hne=>?_) h'
   obtain⟨oa',ha'⟩:∃o,lkp ((k,x)::l) a=some o:=by
    by_cases e:k=a
    · exact⟨x,by simp[lkp,e]⟩
    exact⟨oa,by simp[lkp,e,ha]⟩
   obtain⟨ob',hb'⟩:∃o,lkp ((k,x)::l) b=some o:=by
    by_cases e:k=b
    · exact⟨x,by simp[lkp,e]⟩
    exact⟨ob,by simp[lkp,e,hb]⟩
   exact hi a b oa' ob' ha' hb' hne
structure HandS (ρ σ:Nat→Nat) (objs objs':List (Nat×Ob)) (s:HS):Prop where
 at_:∀n o,lkp objs n=some o→lkp s.objs (ρ n)=some (o.ren ρ [])
 rb:∀n o,lkp objs n=some o→rbB o=true
 inj:∀n m on om,lkp objs n=some on→lkp objs m=some om→n≠m→ρ n≠ρ m
 inj':∀n m on om,lkp objs' n=some on→lkp objs' m=some om→n≠m→σ n≠σ m
 out:∀n o,lkp objs' n=some o→WV (objs'.map (·.1)) o=true
 box:∀n cs,lkp objs' n=some (.box cs)→(σ n=ρ n∧∃cs0,lkp objs n=some (.box cs0))∨QY (σ n) s=true
 oth:∀n o,lkp objs' n=some o→(∀cs,o≠ .box cs)→QY (σ n) s=true
theorem WB {ρ σ:Nat→Nat} {objs objs':List (Nat×Ob)} {s:HS} (h1:∀p∈objs,lkp s.objs (ρ p.1)=some (p.2.ren ρ [])∧rbB p.2=true) (h2:∀p∈objs,∀q∈objs,p.1≠q.1→ρ p.1≠ρ q.1) (h3:∀p∈objs',∀q∈objs',p.1≠q.1→σ p.1≠σ q.1)
  (h4:∀p∈objs',WV (objs'.map (·.1)) p.2=true) (h5:∀p∈objs',match p.2 with| .box _=>(σ p.1=ρ p.1∧∃cs0,lkp objs p.1=some (.box cs0))∨QY (σ p.1) s=true|_=>QY (σ p.1) s=true):HandS ρ σ objs objs' s where
 at_ n o h:=(h1 _ (Xy h)).1
 rb n o h:=(h1 _ (Xy h)).2
 inj n m on om hn hm hne:=h2 _ (Xy hn) _ (Xy hm) hne
 inj' n m on om hn hm hne:=h3 _ (Xy hn) _ (Xy hm) hne
 out n o h:=h4 _ (Xy h)
 box n cs h:=h5 _ (Xy h)
 oth n o h hb:=by
  have:=h5 _ (Xy h);cases o with
  |box cs=>exact absurd rfl (hb cs)
  |_=>exact this
theorem HandS.heap {ρ σ:Nat→Nat} {objs objs':List (Nat×Ob)} {s:HS} (hd:HandS ρ σ objs objs' s) (h:HeapRel w0 B π F γ s.objs w):
  HeapRel w (ownB (fun n=>γ (ρ n)) objs w) (fun _=>none) F (fun n=>γ (ρ n)) objs w where
 below:=Kept.refl _ _
 hB b hb:=hb.1
 fsz:=h.fsz
 ob n o ho:=by
  have h1:=h.ob _ _ (hd.at_ n o ho);have h2:=hd.rb n o ho;cases o with
  | row e s rows=>
    have h1:Xr F w B e s (γ (ρ n)) rows:=h1;exact row_B h1 fun b hb hx=>hx.2 ⟨n,_,ho,(W5 (Xr.sl h1)).2 hb⟩
  | box cs=>
    obtain⟨b,e,vs,hx,hB,hh,hc⟩:=h1;exact⟨b,e,vs,hx,fun hb=>hb.2 ⟨n,_,ho,by rw[show(fun n=>γ (ρ n)) n=γ (ρ n) from rfl,hx];rfl⟩,hh,X6f hc⟩
  | mp l=>
    obtain⟨b,es,clock,hx,hB,h3⟩:=h1;exact⟨b,es,clock,hx,fun hb=>hb.2 ⟨n,_,ho,by rw[show(fun n=>γ (ρ n)) n=γ (ρ n) from rfl,hx];rfl⟩,h3⟩
  |mat e e' s rows=>exact mat_B h1 fun b hb hx=>hx.2 ⟨n,_,ho,hb⟩
  |_=>cases h2
 apart n o ho b hb:=h.apart _ _ (hd.at_ n o ho) b hb
 sep n m on om hn hm hne b hb hb':=h.sep _ _ _ _ (hd.at_ n on hn) (hd.at_ m om hm) (hd.inj n m on om hn hm hne) b hb hb'
 pin n v hv:=by cases hv
theorem HandS.after {ρ σ:Nat→Nat} {objs objs':List (Nat×Ob)} {s:HS} (hd:HandS ρ σ objs objs' s) (h:HeapRel w0 B π F γ s.objs w) (hk:Kept (ownB (fun n=>γ (ρ n)) objs w) w w') {N:Nat→Prop}
  (hN:∀c,N c→¬ownB (fun n=>γ (ρ n)) objs w c∧c<w'.heap.size) (hh:HeapRel w (ownB (fun n=>γ (ρ n)) objs w) (fun _=>none) (fun c=>F c∨N c) γ' objs' w') (hbx:∀n cs,lkp objs n=some (.box cs)→γ' n=γ (ρ n)):
  (∀b,N b→¬B b)∧(∀c,F c→w'.heap[c]? =w.heap[c]?)∧∃γ2:Nat→Value,HeapRel w0 B π (fun c=>F c∨N c) γ2 (Qf σ objs' (QP (objs.map fun p=>ρ p.1) s.objs)) w'∧(∀n,(objs'.map (·.1)).contains n=true→γ2 (σ n)=γ' n)∧∀r:RV,(∃k,lkp s.regs k=some r)→∀n,r.men n→γ2 n=γ n:=by
 have own:∀b,X1P (fun n=>γ (ρ n)) objs b→∃n o,lkp objs n=some o∧lkp s.objs (ρ n)=some (o.ren ρ [])∧Blk (γ (ρ n)) b:=by
  rintro b ⟨n,o,ho,hb⟩;exact⟨n,o,ho,hd.at_ n o ho,hb⟩
 have hBo:∀b,B b→ownB (fun n=>γ (ρ n)) objs w b:=by
  intro b hb;refine⟨h.hB b hb,fun ho=>?_⟩;obtain⟨n,o,_,h1,h2⟩:=own b ho;exact((h.ob _ _ h1).blk_lt h2).1 hb
 have hNB:∀b,N b→¬B b:=fun b hb hx=>(hN b hb).1 (hBo b hx)
 have hF:∀c,F c→w'.heap[c]? =w.heap[c]? :=fun c hc=>hk.block c ⟨h.fsz c hc,fun ho=>by
  obtain⟨n,o,_,h1,h2⟩:=own c ho
  exact h.apart _ _ h1 c h2 hc⟩
 let γ2:Nat→Value:=fun m=>match invS σ objs' m with
  |some n=>γ' n
  |none=>γ m
 have hin:∀n o,lkp objs' n=some o→γ2 (σ n)=γ' n:=by
  intro n o hl;simp only[γ2,XaO hd.inj' hl]
 have hinD:∀n,(objs'.map (·.1)).contains n=true→γ2 (σ n)=γ' n:=by
  intro n hn
  have hex:∀l:List (Nat×Ob),(l.map (·.1)).contains n=true→∃o,lkp l n=some o:=by
   intro l
   induction l with
   |nil=>intro h;simp at h
   | cons p l ih=>
     intro h;by_cases e:p.1=n
     · exact⟨p.2,by simp[lkp,e]⟩
     have:(l.map (·.1)).contains n=true:=by
      simp only[List.map_cons,List.contains_cons,Bool.or_eq_true,beq_iff_eq]at h;exact h.resolve_left (fun h=>e h.symm)
     obtain⟨o,ho⟩:=ih this;exact⟨o,by simp[lkp,e,ho]⟩
  obtain⟨o,ho⟩:=hex _ hn;exact hin n o ho
 -- where the names differ, nothing old is mentioned
 have hout:∀m,γ2 m=γ m∨QY m s=true:=by
  intro m;simp only[γ2];split
  · rename_i n hn;obtain⟨h1,o,h2⟩:=X8o hn;cases o with
    | box cs=>
      rcases hd.box n cs h2 with⟨h3,cs0,h4⟩|h3
      · exact .inl (by rw[hbx n cs0 h4,←h3,h1])
      exact .inr (by rw[←h1];exact h3)
    |_=>exact .inr (by rw[←h1];exact hd.oth n _ h2 (by simp))
  exact .inl rfl
 have hold:∀m o,lkp s.objs m=some o→γ2 m=γ m∧∀n,o.men n→γ2 n=γ n:=by
  intro m o hl;refine⟨(hout m).resolve_right fun hu=>(ZM hu m o (Xy hl)).1 rfl,fun n hn=>(hout n).resolve_right fun hu=>(ZM hu m o (Xy hl)).2 hn⟩
 have hlk:∀m o,lkp (QP (objs.map fun p=>ρ p.1) s.objs) m=some o→lkp s.objs m=some o∧∀n o',lkp objs n=some o'→ρ n≠m:=by
  intro m o hl;rw[X4a]at hl;split at hl
  · cases hl
  rename_i hm;exact⟨hl,fun n o' ho e=>hm (List.mem_map.2 ⟨(n,o'),Xy ho,e⟩)⟩
 have hsep:∀m o,lkp (QP (objs.map fun p=>ρ p.1) s.objs) m=some o→∀b,Blk (γ m) b→ownB (fun n=>γ (ρ n)) objs w b:=by
  intro m o hl b hb;obtain⟨h1,h2⟩:=hlk m o hl;refine⟨((h.ob m o h1).blk_lt hb).2,fun ho=>?_⟩;obtain⟨n,o',h3,h4,h5⟩:=own b ho;exact h.sep _ _ _ _ h1 h4 (Ne.symm (h2 n o' h3)) b hb h5
 refine⟨hNB,hF,γ2,?_,hinD,fun r ⟨k,hr⟩ n hn=>(hout n).resolve_right fun hu=>X0A hu (Xy hr) hn⟩
 exact {
  below:=h.below.trans ⟨hk.os,hk.tape,hk.output,hk.size,fun c hc=>hk.block c (hBo c hc)⟩
  hB:=fun c hc=>Nat.lt_of_lt_of_le (h.hB c hc) hk.size
  fsz:=fun c hc=>by
   rcases hc with hc|hc
   · exact Nat.lt_of_lt_of_le (h.fsz c hc) hk.size
   exact(hN c hc).2
  ob:=fun m o hl=>by
   rcases ZP hl with⟨n,o',h1,rfl,rfl⟩|⟨h1,h2⟩
   · rw[hin n o' h1];exact ob_out hinD (hd.out n o' h1) (fun b hb hx=>hb (hBo b hx)) (hh.ob n o' h1)
   obtain⟨h3,_⟩:=hlk m o h2;obtain⟨h4,h5⟩:=hold m o h3;rw[h4];have h6:=h.ob m o h3;refine XT.agree h5 (h6.mono (fun _ h=>.inl h) hF fun c hc=>hk.block c (hsep m o h2 c hc))
  apart:=fun m o hl c hc hFc=>by
   rcases ZP hl with⟨n,o',h1,rfl,rfl⟩|⟨h1,h2⟩
   · rw[hin n o' h1]at hc;exact hh.apart n o' h1 c hc hFc
   obtain⟨h3,_⟩:=hlk m o h2;rw[(hold m o h3).1]at hc;rcases hFc with hFc|hFc
   · exact h.apart m o h3 c hc hFc
   exact(hN c hFc).1 (hsep m o h2 c hc)
  sep:=fun m k om ok hm hk' hne b hb hb'=>by
   rcases ZP hm with⟨n,o',h1,rfl,rfl⟩|⟨h1,h2⟩
   · rw[hin n o' h1]at hb;rcases ZP hk' with⟨n2,o2,g1,rfl,rfl⟩|⟨g1,g2⟩
     · rw[hin n2 o2 g1]at hb';exact hh.sep n n2 o' o2 h1 g1 (fun e=>hne (by rw[e])) b hb hb'
     rw[(hold k ok (hlk k ok g2).1).1]at hb';exact((hh.ob n o' h1).blk_lt hb).1 (hsep k ok g2 b hb')
   rw[(hold m om (hlk m om h2).1).1]at hb;rcases ZP hk' with⟨n2,o2,g1,rfl,rfl⟩|⟨g1,g2⟩
   · rw[hin n2 o2 g1]at hb';exact((hh.ob n2 o2 g1).blk_lt hb').1 (hsep m om h2 b hb)
   rw[(hold k ok (hlk k ok g2).1).1]at hb';exact h.sep m k om ok (hlk m om h2).1 (hlk k ok g2).1 hne b hb hb'
  pin:=fun n v hv=>by
   obtain⟨h1,h2⟩:=h.pin n v hv;refine⟨h1,?_⟩;rw[←h2];refine(hout n).resolve_right fun hu=>?_;unfold QY at hu;simp only[Bool.and_eq_true,decide_eq_true_eq]at hu
   omega}
def capsT:List TV→List (Nat×Nat)→List TV
 |ts,[]=>ts
 |ts,c::cs=>ts++(c::cs).map fun p=>TV.one (.at_ p.1 p.2)
theorem capsT_eq (ts:List TV) (caps:List (Nat×Nat)):capsT ts caps=ts++caps.map fun p=>TV.one (.at_ p.1 p.2):=by
 cases caps<;>simp[capsT]
def gOfC (s:HS) (o:Oper):Option (FuncId×List TV×Nat):=
 match o.guard,o.op,o.dst with
 | none,.call {callee:=.value x,args:=args, .. },some d=>match opd s.regs x,X1M (opd s.regs) args.toList with
   | .v (.one (.fn f caps)),some ts=>if XJ s (some d)=true then some (f,capsT ts caps,d)else none
   |_,_=>none
 |_,_,_=>none
theorem X78 {s:HS} {a:Act} {ops:Array Oper} {i:Nat} {o:Oper} {f:FuncId} {d:Nat} {objs objs':List (Nat×Ob)} {args:List TV} {ρ σ:Nat→Nat} {r:RV} {Kc:Act→World→Prop} {Q:Exit→Act→World→Prop} (hi:ops[i]? =some o) (h:Rel w0 B π F γ s a w)
  (hc:gOfC s o=some (f,args.map (TV.ren ρ []),d)) (hd:HandS ρ σ objs objs' s) (hcon:X4N P f objs args r objs') (hout:X3r (objs'.map (·.1)) r=true)
  (hK:∀F' γ2 a' w',(∀b,F b→F' b)→(∀b,F' b→F b∨¬B b)→Rel w0 B π F' γ2 (({s with objs:=Qf σ objs' (QP (objs.map fun p=>ρ p.1) s.objs)}:HS).put (some d) (r.ren σ [])) a' w'→Kc a' w'):wpOp P ops Q i Kc a w:=by
 unfold gOfC at hc;split at hc
 · rename_i x as0 ts0 d0 hgd ho hdst;split at hc
   · rename_i f0 caps0 ts hf hts;split at hc
     · rename_i hokd;simp only[Option.some.injEq,Prod.mk.injEq]at hc;obtain⟨rfl,hca,rfl⟩:=hc;obtain⟨hcall,hcon⟩:=hcon;have hx:=h.opd x;rw[hf]at hx;obtain⟨cvs,hv,hcl,hcc⟩:=hx;have hv':a.eval x=.func (.func f0) #[] cvs.toArray:=hv
       have hrun:(execOp a.eval o).run P w=.ok (.enter f0 (as0.map a.eval++cvs.toArray)) w:=by
        unfold XU at hcall;split at hcall
        · rename_i fn hfn;simp only[Bool.and_eq_true,Bool.not_eq_true']at hcall;have hnm:¬fn.name= "runtime.NumGoroutine" :=by simpa using hcall.1
          have hnb:¬fn.body=none:=by
           intro hb;rw[hb]at hcall;cases hcall.2
          simp[execOp,ho,resolve,hv',Deferred.ofValue,invoke,callFunc,hfn,hnm,hnb]
        cases hcall
       unfold wpOp;rw[hi];simp only;have hwant:Region.wanted o (yielded ops a.tmps)=true:=by unfold Region.wanted;rw[hgd]
       rw[hwant];simp only[if_true];refine .inl ?_;unfold Oper.wp;rw[hrun,Oper.upon_enter];obtain⟨hlen,hget⟩:=X2z hts;rw[capsT_eq]at hca;have hsz:(as0.map a.eval).size=ts.length:=by rw[Array.size_map,hlen,Array.length_toList]
       refine(hcon F (fun n=>γ (ρ n)) w (as0.map a.eval++cvs.toArray) (hd.heap h.heap) ?_ fun j t u ht hu=>?_).mono ?_
       · have:=congrArg List.length hca;simp only[List.length_append,List.length_map]at this;simp only[Array.size_append,hsz,List.size_toArray];omega
       · have key:XD F γ w (t.ren ρ []) u:=by
          have hm:(ts++caps0.map fun p=>TV.one (.at_ p.1 p.2))[j]? =some (t.ren ρ []):=by rw[hca];simp[ht]
          by_cases hj:j<ts.length
          · rw[List.getElem?_append_left hj]at hm;rw[Array.getElem?_append_left (by omega)]at hu;obtain⟨y,hy,hgy⟩:=hget j _ hm
            have hu':u=a.eval y:=by
             rw[Array.getElem?_map,←Array.getElem?_toList,hy]at hu;exact(Option.some.inj hu).symm
            rw[hu'];have:=h.opd y;rw[hgy]at this;exact this
          rw[List.getElem?_append_right (Nat.le_of_not_lt hj),List.getElem?_map]at hm;rw[Array.getElem?_append_right (by omega),hsz]at hu;simp only[Option.map_eq_some_iff]at hm;obtain⟨p,hp,hpe⟩:=hm;rw[←hpe];exact hcc _ p u hp (by simpa using hu)
         refine XD.ren (ρ:=ρ) (nils:=[]) (fun n _=>rfl) (fun n hn=>by cases hn) ?_ key;cases t with
         |one x=>exact X0D x
         |agg xs=>simp only[TV.okNil,List.all_eq_true];exact fun x _=>X0D x
       rintro x w' ⟨v,N,γ',rfl,hk,hN,hr,hh,hbx⟩;obtain⟨h1,h2,γ2,h3,h5,h4⟩:=hd.after h.heap hk hN hh hbx;refine hK (fun c=>F c∨N c) γ2 _ _ (fun _ h=>.inl h) (fun c hc=>hc.imp id fun hc=>h1 c hc) ?_;rw[hdst];exact h.step (objs':=Qf σ objs' (QP (objs.map fun p=>ρ p.1) s.objs)) hokd h3 (rv_out h5 hout hr) fun k r v hl hr=>X9.agree (h4 r ⟨k,hl⟩) (hr.mono (fun _ h=>.inl h) h2)
     cases hc
   cases hc
 cases hc
inductive RunsS (P:Program) (ops:Array Oper):List Oper→HS→(HS→Prop)→Prop
 |done {l:List Oper} {s:HS} {K:HS→Prop}:wpR P ops l s K→RunsS P ops l s K
 |cut {l:List Oper} {s s1 s2:HS} {K:HS→Prop} (k:Nat):wpR P ops (l.take k) s (fun t=>t=s1)→le s1 s2→RunsS P ops (l.drop k) s2 K→RunsS P ops l s K
 | call {l:List Oper} {o:Oper} {s:HS} {K:HS→Prop} {f:FuncId} {d:Nat} {objs objs':List (Nat×Ob)} {args:List TV} (ρ σ:Nat→Nat) {r:RV}:gOfC s o=some (f,args.map (TV.ren ρ []),d)→HandS ρ σ objs objs' s→X4N P f objs args r objs'→X3r (objs'.map (·.1)) r=true→
   RunsS P ops l (({s with objs:=Qf σ objs' (QP (objs.map fun p=>ρ p.1) s.objs)}:HS).put (some d) (r.ren σ [])) K→RunsS P ops (o::l) s K
 |skip {l:List Oper} {o:Oper} {s:HS} {K:HS→Prop} (y:Value):Za ops o s=some false→XJ s o.dst=true→RunsS P ops l (s.put o.dst (.v (.one (.gd false (.c (.lit y)))))) K→RunsS P ops (o::l) s K
theorem skipS {ops:Array Oper} {Q:Exit→Act→World→Prop} {i:Nat} {o:Oper} {s:HS} {a:Act} {w:World} {F:Nat→Prop} {γ:Nat→Value} {Kc:Act→World→Prop} (y:Value) (hi:ops[i]? =some o) (h:Rel w0 B π F γ s a w) (hg:Za ops o s=some false) (hok:XJ s o.dst=true)
  (hK:∀a',Rel w0 B π F γ (s.put o.dst (.v (.one (.gd false (.c (.lit y)))))) a' w→Kc a' w):wpOp P ops Q i Kc a w:=by
 unfold wpOp;rw[hi];simp only;rw[X02 h hg];simp only[Bool.false_eq_true,if_false];refine hK _ ?_;exact h.step (dst:=o.dst) (r:=.v (.one (.gd false (.c (.lit y))))) (v:=undef) (objs':=s.objs) hok h.heap ⟨(fun hb=>Bool.noConfusion hb),fun _=>rfl⟩ (fun _ _ _ _ h=>h)
theorem Xbx {ops:Array Oper} {K:HS→Prop} {Q:Exit→Act→World→Prop} {l:List Oper} {s:HS} (h:RunsS P ops l s K):∀(Xj:List Nat) (k:Nat) (F:Nat→Prop) (γ:Nat→Value) (a:Act) (w:World),(∀j o,l[j]? =some o→ops[k+j]? =some o)→
  Rel w0 B π F γ s a w→(∀s' F' γ' a' w',K s'→(∀b,F b→F' b)→(∀b,F' b→F b∨¬B b)→Rel w0 B π F' γ' s' a' w'→wpOps P ops Q Xj a' w')→wpOps P ops Q (List.range' k l.length++Xj) a w:=by
 induction h with
 |done hw=>exact fun Xj k F γ a w hd hr hK=>Wz _ k _ F γ a w hd hr hw hK
 | cut n hw hle _ ih=>
   intro Xj k F γ a w hd hr hK;rename_i l s s1 s2 K' _;have hl:l.length=(l.take n).length+(l.drop n).length:=by rw[←List.length_append,List.take_append_drop]
   rw[hl,X29,List.append_assoc];refine Wz (l.take n) k s F γ a w (fun j o hj=>?_) hr hw fun s' F1 γ1 a1 w1 hs' h1 h2 hr1=>?_
   · rw[List.getElem?_take]at hj;split at hj
     · exact hd j o hj
     cases hj
   subst hs';obtain⟨F2,γ2,h3,h4,hr2⟩:=hle w0 B π F1 γ1 a1 w1 hr1;refine ih Xj (k+(l.take n).length) F2 γ2 a1 w1 (fun j o hj=>?_) hr2 fun s3 F3 γ3 a3 w3 hk3 h5 h6 hr3=>?_
   · rw[List.getElem?_drop]at hj;have hlt:n+j<l.length:=(List.getElem?_eq_some_iff.1 hj).1;have:=hd (n+j) o hj;rw[List.length_take,Nat.min_eq_left (by omega),Nat.add_assoc];exact this
   exact hK s3 F3 γ3 a3 w3 hk3 (fun b hb=>h5 b (h3 b (h1 b hb))) (fun b hb=>(h6 b hb).elim (fun hb=>(h4 b hb).elim (h2 b) .inr) .inr) hr3
 | call ρ σ hg hd hcon honly _ ih=>
   intro Xj k F γ a w hdd hr hK;rename_i l o s K' _ _ _ _ _ _ _;rw[List.length_cons,List.range'_succ,List.cons_append,wpOps_cons];have hi:ops[k]? =some o:=hdd 0 o rfl;refine X78 hi hr hg hd hcon honly fun F2 γ2 a2 w2 h3 h4 hr2=>?_;refine ih Xj (k+1) F2 γ2 a2 w2 (fun j o' hj=>by have:=hdd (j+1) o' hj;rwa [show k+1+j=k+(j+1) by omega]) hr2 fun s3 F3 γ3 a3 w3 hk3 h5 h6 hr3=>?_;exact hK s3 F3 γ3 a3 w3 hk3 (fun b hb=>h5 b (h3 b hb)) (fun b hb=>(h6 b hb).elim (h4 b) .inr) hr3
 | skip y hg hok _ ih=>
   intro Xj k F γ a w hdd hr hK;rename_i l o s K' _;rw[List.length_cons,List.range'_succ,List.cons_append,wpOps_cons];have hi:ops[k]? =some o:=hdd 0 o rfl;refine skipS y hi hr hg hok fun a2 hr2=>?_;exact ih Xj (k+1) F γ a2 w (fun j o' hj=>by have:=hdd (j+1) o' hj;rwa [show k+1+j=k+(j+1) by omega]) hr2 hK
theorem HT_runsS {id:Nat} {ops:Array Oper} {s:HS} {Q:Exit→HS→Prop} (h:RunsS P ops ops.toList s (Q .normal)):HT P (.region id ops false) s Q:=by
 intro w0 B π F γ a w hr;refine wp_region ?_
 have:=Xbx (w0:=w0) (B:=B) (π:=π) (Q:=fun e a' w'=>∃(s':HS) (F':Nat→Prop) (γ':Nat→Value),Q e s'∧(∀b,F b→F' b)∧(∀b,F' b→F b∨¬B b)∧Rel w0 B π F' γ' s' a' w') h [] 0 F γ a w (by simp) hr
  fun s' F' γ' a' w' hk h1 h2 h3=>⟨s',F',γ',hk,h1,h2,h3⟩
 rw[List.range_eq_range'];simpa using this
theorem RunsS.cutE {ops:Array Oper} {l:List Oper} {s s1 s2:HS} {p:Prop} {K:HS→Prop} (k:Nat) (cs:List CR) (h:evc P ops (l.take k) s cs=some (s1,p)) (hp:p) (hle:le s1 s2) (hr:RunsS P ops (l.drop k) s2 K):RunsS P ops l s K:=
 .cut k (QK _ _ _ _ _ h hp rfl) hle hr
theorem RunsS.doneE {ops:Array Oper} {l:List Oper} {s s1:HS} {p:Prop} {K:HS→Prop} (cs:List CR) (h:evc P ops l s cs=some (s1,p)) (hp:p) (hq:K s1):RunsS P ops l s K:=
 .done (QK _ _ _ _ _ h hp hq)
end
end Go.Hl
