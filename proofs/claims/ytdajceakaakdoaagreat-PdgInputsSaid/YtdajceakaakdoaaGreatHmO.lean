/- HmO: part of an evaluator of Go code over abstract states, proved sound over the model; used by the proof of the claimed statement. Conditions: none. -/
import Derived.Test.YtdajceakaakdoaaGreatHmN
set_option linter.unusedSimpArgs false
set_option linter.unusedVariables false
namespace Go.Hl
open Go Go.RowKit
def QL:Nat→List TV→List (Nat×RV)
 |_,[]=>[]
 |k,t::ts=>(k,.v t)::QL (k+1) ts
def resT (P:Program) (s:HS):ResultVar→Option TV
 | .tmp t=>match opd s.regs (.tmp t)with
   | .v tv=>some tv
   |_=>none
 | .cell a t=>match evR P s.objs (opd s.regs) (.load t (.tmp a))with
   |some (.v tv)=>some tv
   |_=>none
def X3j (P:Program) (s:HS):List ResultVar→Option (List TV)
 |[]=>some []
 | x::l=>match resT P s x,X3j P s l with
   |some t,some ts=>some (t::ts)
   |_,_=>none
def XK:List TV→RV
 |[t]=>.v t
 |ts=>.tup ts
def CV.litB:CV→Bool
 | .c (.lit _)=>true
 | .c _=>false
 | .gd _ _=>false
 |_=>true
def TV.litB:TV→Bool
 | .one x=>x.litB
 | .agg xs=>xs.all CV.litB
def RV.litB:RV→Bool
 | .v t=>t.litB
 | .tup ts=>ts.all TV.litB
def Ob.lits:Ob→Prop
 | .box cs=>cs.all CV.litB=true
 | .row _ _ rows=>∀r∈rows,∀c∈r,∃v,c=.lit v
 |_=>False
structure RetOK (P:Program) (rs:List ResultVar) (s:HS) (fresh:Bool) (r:RV) (ob:Option Ob) (d:Nat):Prop where
 res:∃ts,X3j P s rs=some ts∧r=XK ts
 objs:∀o,ob=some o→lkp s.objs d=some o
 lit:fresh=true→r.litB=true∧∀o,ob=some o→o.lits
section
variable {P:Program} {F:Nat→Prop} {γ γ':Nat→Value} {w w' w0:World} {B:Nat→Prop} {π:Nat→Option Value}
theorem Xn.lits {G:Nat→Prop} {x:CV} {v:Value} (hx:x.litB=true) (h:Xn F γ w x v):Xn G γ w x v:=by
 cases x with
 |gd b x=>cases hx
 | c d=>
   cases d with
   |lit u=>cases h;exact CRel.lit _
   |_=>cases hx
 |_=>exact h
theorem Xk.lits {G:Nat→Prop} {xs:List CV} {vs:Array Value} (hx:xs.all CV.litB=true) (h:Xk F γ w xs vs):Xk G γ w xs vs:=by
 rw[List.all_eq_true]at hx;exact⟨h.1,fun j x u hxj hu=>(h.2 j x u hxj hu).lits (hx x (List.mem_of_getElem? hxj))⟩
theorem XD.lits {G:Nat→Prop} {x:TV} {v:Value} (hx:x.litB=true) (h:XD F γ w x v):XD G γ w x v:=by
 cases x with
 |one x=>exact Xn.lits hx h
 |agg xs=>obtain⟨vs,rfl,hc⟩:=h;exact⟨vs,rfl,hc.lits hx⟩
theorem X9.lits {G:Nat→Prop} {x:RV} {v:Value} (hx:x.litB=true) (h:X9 F γ w x v):X9 G γ w x v:=by
 cases x with
 |v t=>exact XD.lits hx h
 | tup ts=>
   obtain⟨vs,rfl,hs,hc⟩:=h;simp only[RV.litB,List.all_eq_true]at hx;exact⟨vs,rfl,hs,fun j t u ht hu=>(hc j t u ht hu).lits (hx t (List.mem_of_getElem? ht))⟩
theorem XT.lits {G:Nat→Prop} {o:Ob} {x:Value} (ho:o.lits) (h:XT F γ w B x o):XT G γ w B x o:=by
 cases o with
 |box cs=>obtain⟨b,e,vs,h1,h2,h3,h4⟩:=h;exact⟨b,e,vs,h1,h2,h3,h4.lits ho⟩
 | row e s rows=>
   obtain⟨h0,hs,xs,hown,h1,hc⟩:=h;refine⟨h0,hs,xs,hown,h1,fun i j d hd=>?_⟩;obtain⟨u,hu,hr⟩:=hc i j d hd;refine⟨u,hu,?_⟩
   have:∃v,d=.lit v:=by
    unfold XG at hd;cases hri:rows[i]? with
    |none=>simp[hri]at hd
    | some r=>
      simp only[hri,Option.bind_some]at hd;exact ho r (List.mem_of_getElem? hri) d (List.mem_of_getElem? hd)
   obtain⟨v,rfl⟩:=this;cases hr;exact CRel.lit _
 |mp l=>exact ho.elim
 |mat e e' s rows=>exact ho.elim
 |refs e ns=>exact ho.elim
 |mps e ms=>exact ho.elim
 |it l seen=>exact ho.elim
theorem Z5:∀(ts:List TV) (k n:Nat) (r:RV),lkp (QL k ts) n=some r→k≤n∧∃t,ts[n - k]? =some t∧r=.v t
 |[],k,n,r,h=>by cases h
 | t::ts,k,n,r,h=>by
   simp only[QL,lkp]at h;split at h
   · rename_i e;cases h;subst e;exact⟨Nat.le_refl _,t,by simp,rfl⟩
   rename_i e;obtain⟨h1,t',h2,h3⟩:=Z5 ts (k+1) n r h;refine⟨by omega,t',?_,h3⟩;rw[show n - k=(n - (k+1))+1 by omega];exact h2
def X7R (tmps:Array Value):ResultVar→Sem Value
 | .tmp t=>pure (tmps.getD t undef)
 | .cell a t=>do loadVar t (←asAddr (tmps.getD a undef))
theorem ZU (fn:Func) (tmps:Array Value):
  results fn tmps=(do let vs←fn.results.toList.mapM (X7R tmps);pure (if h:vs.toArray.size=1 then vs.toArray[0] else .tuple vs.toArray):Sem Value):=by
 have e:(fun x:ResultVar=>(match x with
   | .tmp t=>pure (tmps.getD t undef)
   | .cell a t=>do loadVar t (←asAddr (tmps.getD a undef)):Sem Value))=X7R tmps:=by
  funext x;cases x<;>rfl
 rw[←e];unfold results;rw[Array.mapM_eq_mapM_toList];simp only[map_eq_pure_bind,bind_assoc,pure_bind];rfl
theorem X9J {s:HS} {a:Act} (h:Rel w0 B π F γ s a w) {x:ResultVar} {t:TV} (hx:resT P s x=some t):
  ∃v,(X7R a.tmps x).run P w=.ok v w∧XD F γ w t v:=by
 cases x with
 | tmp k=>
   simp only[resT]at hx;split at hx
   · rename_i tv htv;cases hx;have:=h.opd (.tmp k);rw[htv]at this;exact⟨_,rfl,this⟩
   cases hx
 | cell k ty=>
   simp only[resT]at hx;split at hx
   · rename_i tv htv;cases hx;obtain⟨v,hrun,hr⟩:=X0T (P:=P) (ρ:=a.eval) (o:={dst:=none,op:=.load ty (.tmp k),type:=0,pos:= "",after:= #[],guard:=none}) h.heap h.opd htv
     refine⟨v,?_,hr⟩;simp only[execOp]at hrun
     have hv:∃ad,a.eval (.tmp k)=.pointer (some ad):=by
      have:=h.opd (.tmp k);simp only[evR]at htv;split at htv
      · rename_i hg;rw[hg]at this;obtain⟨b,_,e⟩:=this;exact⟨_,e⟩
      · rename_i hg;rw[hg]at this;obtain⟨b,_,_,_,_,e⟩:=this;exact⟨_,e⟩
      · rename_i hg;rw[hg]at this;obtain⟨_,b,_,_,_,_,_,e⟩:=this;exact⟨_,e⟩
      · rename_i hg;rw[hg]at this;obtain⟨b,o,c,e,_⟩:=CRel.ptr_inv this;exact⟨_,e⟩
      cases htv
     obtain⟨ad,had⟩:=hv;have had':a.tmps.getD k undef=.pointer (some ad):=had;rw[had]at hrun;simp[Instr.loadAt,Instr.sureAddr]at hrun;cases hl:(loadVar ty ad).run P w with
     | ok u w'=>
       rw[hl]at hrun;simp at hrun;simp[X7R,had',asAddr,hl,hrun]
     | halt x w'=>
       rw[hl]at hrun;simp at hrun
   cases hx
theorem Zu {s:HS} {a:Act} (h:Rel w0 B π F γ s a w):∀{xs:List ResultVar} {ts:List TV},X3j P s xs=some ts→
  ∃vs:List Value,(xs.mapM (X7R a.tmps)).run P w=.ok vs w∧vs.length=ts.length∧∀(j:Nat) t u,ts[j]? =some t→vs[j]? =some u→XD F γ w t u
 |[],ts,hr=>by cases hr;exact⟨[],rfl,rfl,by simp⟩
 | x ::xs,ts,hr=>by
   simp only[X3j]at hr;split at hr
   · rename_i t ts' ht hts;cases hr;obtain⟨v,hv,hvr⟩:=X9J h ht;obtain⟨vs,hvs,hl,hc⟩:=Zu h hts;refine⟨v::vs,?_,by simp[hl],fun j t u htj hu=>?_⟩
     · rw[List.mapM_cons,Sem.run_bind,hv,Result.andThen_ok,Sem.run_bind,hvs];rfl
     cases j with
     |zero=>cases htj;cases hu;exact hvr
     |succ j=>exact hc j t u htj hu
   cases hr
theorem Xch {f:FuncId} {fn:Func} {c:Code} {args:List TV} {fresh:Bool} {r:RV} {ob:Option Ob} {d:Nat} (hf:P.funcs[f]? =some fn) (hb:fn.body=some c) (hcall:XU P f=true) (hnt:args.length≤fn.ntmps)
  (h:HT P c ⟨fn.ntmps,QL 0 args,[]⟩ (fun e s'=>(e=.normal∨e=.ret)∧∃s2,le s' s2∧RetOK P fn.results.toList s2 fresh r ob d)):Con P f fresh args r ob d:=by
 refine⟨hcall,fun F w vs hF hsz hargs=>?_⟩
 have hrel:Rel w (fun b=>b<w.heap.size) (fun _=>none) F noγ ⟨fn.ntmps,QL 0 args,[]⟩ {tmps:=vs++Array.replicate (fn.ntmps - vs.size) undef,defers:=[]} w:=by
  refine⟨⟨Kept.refl _ _,fun _ h=>h,hF,by simp[lkp],by simp[lkp],by simp[lkp],by simp⟩,rfl,by simp;omega,fun k r hl=>?_⟩;obtain⟨_,t,ht,rfl⟩:=Z5 args 0 k r hl;simp only[Nat.sub_zero]at ht;have hk:k<vs.size:=by rw[hsz];exact(List.getElem?_eq_some_iff.1 ht).1
  have hv:(vs++Array.replicate (fn.ntmps - vs.size) undef).getD k undef=vs[k]:=by
   rw[Array.getD_eq_getD_getElem?,Array.getElem?_append_left hk];simp[hk]
  rw[hv];exact hargs k t _ ht (by simp[hk])
 refine calls_of_wp hf hb (wp_mono (h w (fun b=>b<w.heap.size) (fun _=>none) F noγ _ w hrel) ?_);rintro e a' w' ⟨s',F1,γ1,⟨he,s2,hle,hret⟩,h1,h2,hr'⟩;obtain⟨F2,γ2,h3,h4,hr2⟩:=hle w (fun b=>b<w.heap.size) (fun _=>none) F1 γ1 a' w' hr';obtain⟨ts,hts,rfl⟩:=hret.res;obtain⟨us,hus,hul,huc⟩:=Zu hr2 hts
 have key:a'.defers=[]∧∃v,(results fn a'.tmps).run P w'=.ok v w'∧∃(v2:Value) (N:Nat→Prop) (γ':Nat→Value),Ending.returned v=.returned v2∧Below w.heap.size w w'∧(∀b,N b→w.heap.size≤b∧b<w'.heap.size)∧
   X9 (Res fresh F N) γ' w' (XK ts) v2∧∀o,ob=some o→XT (Res fresh F N) γ' w' (fun b=>b<w.heap.size) (γ' d) o∧∀b,Blk (γ' d) b→¬N b:=by
  have hFF:∀b,F2 b→Res false F (fun b=>F2 b∧w.heap.size≤b) b:=by
   intro b hb;rcases h4 b hb with h5|h5
   · rcases h2 b h5 with h6|h6
     · exact .inr ⟨rfl,h6⟩
     exact .inl ⟨hb,Nat.le_of_not_lt h6⟩
   exact .inl ⟨hb,Nat.le_of_not_lt h5⟩
  have hres:∃v,(results fn a'.tmps).run P w'=.ok v w'∧X9 F2 γ2 w' (XK ts) v:=by
   rw[ZU,Sem.run_bind,hus,Result.andThen_ok];refine⟨_,rfl,?_⟩
   match ts,us,hul,huc with
   |[],[],_,_=>exact⟨#[],rfl,rfl,by simp⟩
   |[t],[u],_,hc=>exact hc 0 t u rfl rfl
   |t1::t2::ts,u1::u2::us,hl,hc=>exact⟨(u1::u2::us).toArray,by simp,by simpa using hl,fun j t u ht hu=>hc j t u ht (by simpa using hu)⟩
  obtain⟨v,hv,hvr⟩:=hres;refine⟨hr2.defers,v,hv,v,fun b=>F2 b∧w.heap.size≤b,γ2,rfl,hr2.heap.below.below,fun b hb=>⟨hb.2,hr2.heap.fsz b hb.1⟩,?_,fun o ho=>⟨?_,fun b hb hN=>hr2.heap.apart d o (hret.objs o ho) b hb hN.1⟩⟩
  · cases fresh with
    |false=>exact hvr.mono hFF fun _ _=>rfl
    |true=>exact hvr.lits (hret.lit rfl).1
  have:=hr2.heap.ob d o (hret.objs o ho);cases fresh with
  |false=>exact this.mono hFF (fun _ _=>rfl) fun _ _=>rfl
  |true=>exact this.lits ((hret.lit rfl).2 o ho)
 rcases he with rfl|rfl
 · exact key
 exact key
end
end Go.Hl
