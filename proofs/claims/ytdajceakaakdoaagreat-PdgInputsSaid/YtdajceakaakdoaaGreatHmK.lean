/- HmK: part of an evaluator of Go code over abstract states, proved sound over the model; used by the proof of the claimed statement. Conditions: none. -/
import Derived.Test.YtdajceakaakdoaaGreatHmJ
set_option linter.unusedSimpArgs false
set_option linter.unusedVariables false
namespace Go.Hl
open Go Go.RowKit
inductive Cls where
 |neutral|alloc|read|write|call|bad
 deriving DecidableEq
def Q7:Op→Cls
 | .nilCheck _| .makeFunc _ _ _| .index _ _ _| .slice _ _ _ _ _=>.neutral
 | .move _| .assign _| .pick _ _ _| .fieldAddr _ _ _| .field _ _ _| .extract _ _| .binOp _ _ _ _ _| .unOp _ _ _| .build _ _=>.neutral
 | .alloc _| .box _ _| .buildSlice _ _ _| .makeSlice _ _ _| .makeMap _ _| .range _ _=>.alloc
 | .load _ _| .indexAddr _ _ _| .lookup _ _ _ _| .entry _=>.read
 | .store _ _ _| .mapUpdate _ _ _ _=>.write
 | .call c=>match c.callee with
   | .builtin .len=>.read
   | .builtin .min=>.neutral
   | .builtin .max=>.neutral
   | .builtin .append=>if c.args.size=2∧c.argTypes.size=2 then .write else .bad
   | .value _=>.call
   |_=>.bad
 |_=>.bad
def CV.menB (d:Nat):CV→Bool
 | .own n=>n==d
 | .at_ n _=>n==d
 | .el n _ _ _=>n==d
 | .sub n _=>n==d
 | .el2 n _ _ _ _=>n==d
 | .fn _ caps=>caps.any fun p=>p.1==d
 | .gd _ x=>x.menB d
 |_=>false
def TV.menB (d:Nat):TV→Bool
 | .one x=>x.menB d
 | .agg xs=>xs.any (CV.menB d)
def RV.menB (d:Nat):RV→Bool
 | .v t=>t.menB d
 | .tup ts=>ts.any (TV.menB d)
def Ob.menB (d:Nat):Ob→Bool
 | .box cs=>cs.any (CV.menB d)
 | .refs _ ns=>ns.contains d
 |_=>false
theorem CV.menB_iff {d:Nat} {x:CV}:x.menB d=true↔x.men d:=by
 induction x<;>simp_all[CV.menB,CV.men]
theorem TV.menB_iff {d:Nat} {x:TV}:x.menB d=true↔x.men d:=by
 cases x<;>simp[TV.menB,TV.men,CV.menB_iff]
theorem RV.menB_iff {d:Nat} {x:RV}:x.menB d=true↔x.men d:=by
 cases x<;>simp[RV.menB,RV.men,TV.menB_iff]
theorem Ob.menB_iff {d:Nat} {x:Ob}:x.menB d=true↔x.men d:=by
 cases x<;>simp[Ob.menB,Ob.men,CV.menB_iff]
def QG {α:Type}:List (Nat×α)→Bool
 |[]=>true
 |(k,_)::l=>(match l with|[]=>true|(m,_)::_=>decide (k<m))&&QG l
def QY (d:Nat) (s:HS):Bool:=(decide (d<1000000)&&QG s.objs)&&((s.regs.all fun p=> !p.2.menB d)&&s.objs.all fun p=>p.1!=d&& !p.2.menB d)
theorem Xy {α:Type} {n:Nat} {x:α}:∀{l:List (Nat×α)},lkp l n=some x→(n,x)∈l
 |[],h=>by cases h
 | (k,y)::l,h=>by
   simp only[lkp]at h;split at h
   · rename_i e;cases h;subst e;simp
   exact List.mem_cons_of_mem _ (Xy h)
theorem WT {d:Nat} {s:HS} (h:QY d s=true) {k:Nat} {r:RV} (hr:lkp s.regs k=some r):¬r.men d:=by
 simp only[QY,Bool.and_eq_true,List.all_eq_true]at h;have:=h.2.1 _ (Xy hr);intro hm;rw[RV.menB_iff.2 hm]at this;cases this
theorem Ww {d:Nat} {s:HS} (h:QY d s=true) (n:Nat) (o:Ob) (hr:lkp s.objs n=some o):n≠d∧¬o.men d:=by
 simp only[QY,Bool.and_eq_true,List.all_eq_true]at h;have:=h.2.2 _ (Xy hr);simp only[bne_iff_ne,ne_eq]at this;refine⟨this.1,fun hm=>?_⟩;rw[Ob.menB_iff.2 hm]at this;cases this.2
theorem ZW {d:Nat} {s:HS} (h:QY d s=true):d<1000000:=by
 simp only[QY,Bool.and_eq_true,decide_eq_true_eq]at h;exact h.1.1
theorem X3L {d:Nat} {s:HS} (h:QY d s=true):QG s.objs=true:=by
 simp only[QY,Bool.and_eq_true,decide_eq_true_eq]at h;exact h.1.2
theorem X1e {d:Nat} {s:HS} (h:QY d s=true) (x:Operand):¬(opd s.regs x).men d:=by
 cases x with
 | tmp t=>
   simp only[opd];cases hl:lkp s.regs t with
   |none=>simp[RV.men,TV.men,CV.men]
   |some r=>exact WT h hl
 | const v=>
   simp only[opd];unfold X3H;split
   · simp[RV.men,TV.men,CV.men]
   simp[RV.men,TV.men,CV.men]
 |global g=>simp[opd,RV.men,TV.men,CV.men]
 |func f=>simp[opd,RV.men,TV.men,CV.men]
def HS.put (s:HS) (dst:Option Nat) (r:RV):HS:=
 match dst with
 |some d=>{s with regs:=ins d r s.regs}
 |none=>s
def XJ (s:HS) (dst:Option Nat):Bool:=
 match dst with
 |some d=>decide (d<s.nt.n)
 |none=>true
def Za (ops:Array Oper) (o:Oper) (s:HS):Option Bool:=
 match o.guard with
 |none=>some true
 | some (j,want)=>match(ops[j]?).bind (·.dst)with
   | some d=>match lkp s.regs d with
     |some (.v (.one (.c (.lit (.bool b)))))=>some (b==want)
     |some (.v (.one (.gd b' (.c (.lit (.bool b))))))=>some (b'&&(b==want))
     |some (.v (.one (.gd false .any)))=>some false
     |_=>none
   |none=>none
def ungd (c:Bool) (y:CV):RV:=if c=true then .v (.one y)else .v (.one (.gd c y))
theorem XbM (y:CV):ungd true y=.v (.one y):=rfl
theorem XbS (c:Bool) (v:Value):X45 (ungd c (.c (.lit v)))=some (c,v):=by cases c<;>rfl
theorem litG_lit (v:Value):X45 (.v (.one (.c (.lit v))))=some (true,v):=rfl
theorem litG_gd (b:Bool) (v:Value):X45 (.v (.one (.gd b (.c (.lit v)))))=some (b,v):=rfl
theorem litG_any:X45 (.v (.one .any))=none:=rfl
theorem litG_sl (s:Nat) (rows:List (List CD)):X45 (.v (.one (.c (.sl s rows))))=none:=rfl
theorem litG_ptr (cs:List CD):X45 (.v (.one (.c (.ptr cs))))=none:=rfl
theorem litG_own (n:Nat):X45 (.v (.one (.own n)))=none:=rfl
theorem litG_at (n off:Nat):X45 (.v (.one (.at_ n off)))=none:=rfl
theorem litG_agg (xs:List CV):X45 (.v (.agg xs))=none:=rfl
def ZH (b:Bool):RV→RV
 | .v (.one (.gd b' y))=>ungd (X1o b b') y
 |r=>r
def gdR (b:Bool):RV→RV
 | .v (.one (.gd c x))=>.v (.one (.gd (b&&c) x))
 | .v (.agg xs)=>if b=true then .v (.agg xs)else .v (.one .any)
 | .v (.one x)=>.v (.one (.gd b x))
 |_=>.v (.one .any)
def evOp (P:Program) (s:HS) (o:Oper):Option (RV×List (Nat×Ob)):=
 match Q7 o.op with
 | .neutral=>match evN P (opd s.regs) o.op with
   |some (r,_)=>some (r,s.objs)
   |none=>none
 | .alloc=>match o.dst with
   | some d=>if QY d s then match evA P (opd s.regs) d o.op with
     |some (r,some ob)=>some (r,ins d ob s.objs)
     |_=>none
     else none
   |none=>none
 | .read=>match evR P s.objs (opd s.regs) o.op with
   |some r=>some (r,s.objs)
   |none=>none
 | .write=>match o.dst with
   |some d=>if QY d s then evW P s.objs (opd s.regs) (some d) o.op else none
   |none=>evW P s.objs (opd s.regs) none o.op
 |_=>none
def X3R (P:Program) (s:HS) (o:Oper):Option HS:=
 match evOp P s o with
 |some (r,objs)=>if XJ s o.dst then some ({s with objs:=objs}.put o.dst r)else none
 |none=>none
def stpG (P:Program) (s:HS) (b:Bool) (o:Oper):Option HS:=
 if XJ s o.dst then match Q7 o.op with
  | .neutral=>match evN P (fun x=>ZH b (opd s.regs x)) o.op with
    |some (r,_)=>some (s.put o.dst (gdR b r))
    |none=>if b=false then some (s.put o.dst (.v (.one .any)))else none
  | .read=>match evR P s.objs (fun x=>ZH b (opd s.regs x)) o.op with
    |some r=>some (s.put o.dst (gdR b r))
    |none=>if b=false then some (s.put o.dst (.v (.one .any)))else none
  | _=>match b with
    |true=>X3R P s o
    |false=>some (s.put o.dst (.v (.one .any)))
 else none
section
variable {P:Program} {F:Nat→Prop} {γ:Nat→Value} {w w' w0:World} {B:Nat→Prop} {π:Nat→Option Value}
theorem X1W {b:Bool} (hb:b=true) {r:RV} {v:Value} (h:X9 F γ w r v):X9 F γ w (ZH b r) v:=by
 unfold ZH;split
 · unfold ungd;split
   · rename_i hc;subst hb;exact h.1 (by simpa[X1o]using hc)
   subst hb;refine⟨fun hb=>h.1 (by simpa[X1o]using hb),fun hb=>h.2 (by simpa[X1o]using hb)⟩
 exact h
theorem X17 {b:Bool} {r:RV} {v:Value} (h:b=true→X9 F γ w r v) (h0:b=false→v=undef):X9 F γ w (gdR b r) v:=by
 unfold gdR;split
 · rename_i c x;refine⟨fun hb=>?_,fun hb=>?_⟩
   · simp only[Bool.and_eq_true]at hb;exact(h hb.1).1 hb.2
   cases b with
   |false=>exact h0 rfl
   |true=>exact(h rfl).2 (by simpa using hb)
 · split
   · rename_i hb;exact h hb
   exact trivial
 · exact⟨fun hb=>h hb,h0⟩
 exact trivial
theorem X99 (v:Value):X9 F γ w (X3H v) v:=by
 unfold X3H;split
 · exact⟨_,rfl,Xk.ofLits _⟩
 exact CRel.lit _
theorem Rel.opd {s:HS} {a:Act} (h:Rel w0 B π F γ s a w) (x:Operand):X9 F γ w (opd s.regs x) (a.eval x):=by
 cases x with
 | tmp t=>
   simp only[Hl.opd,Act.eval];cases hl:lkp s.regs t with
   |none=>exact trivial
   |some r=>exact h.regs t r hl
 |const v=>exact X99 v
 |global g=>exact trivial
 |func f=>exact⟨[],rfl,rfl,by simp⟩
theorem Rel.step {s:HS} {a:Act} (h:Rel w0 B π F γ s a w) {F':Nat→Prop} {γ':Nat→Value} {objs':List (Nat×Ob)} {r:RV} {v:Value} {dst:Option Nat} (hd:XJ s dst=true)
  (hh:HeapRel w0 B π F' γ' objs' w') (hr:X9 F' γ' w' r v)
  (hkeep:∀k r v,lkp s.regs k=some r→X9 F γ w r v→X9 F' γ' w' r v):Rel w0 B π F' γ' ({s with objs:=objs'}.put dst r) (a.put dst v) w':=by
 cases dst with
 |none=>exact⟨hh,h.defers,h.nt,fun k r' hk=>hkeep k r' _ hk (h.regs k r' hk)⟩
 | some d=>
   have hd':d<s.nt.n:=by simpa[XJ]using hd
   refine⟨hh,h.defers,by simpa[Act.put,HS.put]using h.nt,fun k r' hk=>?_⟩;simp only[HS.put]at hk;rw[XL]at hk;simp only[Act.put];split at hk
   · rename_i e;cases hk;subst e;have:k<a.tmps.size:=by rw[h.nt.1];exact hd'
     rw[Array.getD_eq_getD_getElem?,Array.getElem?_setIfInBounds_self_of_lt this];exact hr
   rename_i e;have:=hkeep k r' _ hk (h.regs k r' hk);rw[Array.getD_eq_getD_getElem?,Array.getElem?_setIfInBounds_ne (Ne.symm e),←Array.getD_eq_getD_getElem?];exact this
theorem X5i {s:HS} {a:Act} {o:Oper} {r:RV} {objs':List (Nat×Ob)} (h:Rel w0 B π F γ s a w) (he:evOp P s o=some (r,objs')):
  ∃nx v w' γ',(execOp a.eval o).run P w=.ok nx w'∧(nx=.value v∨nx=.skip∧v=undef)∧HeapRel w0 B π F γ' objs' w'∧X9 F γ' w' r v∧
   (∀k r v,lkp s.regs k=some r→X9 F γ w r v→X9 F γ' w' r v):=by
 unfold evOp at he;split at he
 · split at he
   · rename_i r' ob hn;cases he;obtain⟨_,v,hrun,hr⟩:=X2a (F:=F) (γ:=γ) (w:=w) h.opd hn;exact⟨_,v,w,γ,hrun,.inl rfl,h.heap,hr,fun _ _ _ _ h=>h⟩
   cases he
 · split at he
   · rename_i d hd;split at he
     · rename_i hun;split at he
       · rename_i r' ob ha;cases he;obtain⟨ob',hob,v,w',hrun,hh,hr,hsz,hk⟩:=X6h h.heap h.opd (X1e hun) (Ww hun) (ZW hun) ha;cases hob;refine⟨_,v,w',_,hrun,.inl rfl,hh,hr,fun k r v hl hr=>?_⟩;exact(h.heap.keepR hk hr).upd (WT hun hl)
       cases he
     cases he
   cases he
 · split at he
   · rename_i r' hn;cases he;obtain⟨v,hrun,hr⟩:=X0T h.heap h.opd hn;exact⟨_,v,w,γ,hrun,.inl rfl,h.heap,hr,fun _ _ _ _ h=>h⟩
   cases he
 · rename_i hc
   have key:∀d,(∀d',d=some d'→QY d' s=true)→evW P s.objs (Hl.opd s.regs) d o.op=some (r,objs')→∃nx v w' γ',(execOp a.eval o).run P w=.ok nx w'∧(nx=.value v∨nx=.skip∧v=undef)∧HeapRel w0 B π F γ' objs' w'∧X9 F γ' w' r v∧
    (∀k r v,lkp s.regs k=some r→X9 F γ w r v→X9 F γ' w' r v):=by
    intro d hd he
    have fin:∀d2:Option Nat,(∀d',d2=some d'→QY d' s=true)→Did P a.eval o w0 B π F γ w d2 r objs'→∃nx v w' γ',(execOp a.eval o).run P w=.ok nx w'∧(nx=.value v∨nx=.skip∧v=undef)∧HeapRel w0 B π F γ' objs' w'∧X9 F γ' w' r v∧
      (∀k r v,lkp s.regs k=some r→X9 F γ w r v→X9 F γ' w' r v):=by
     intro d2 hd2 ⟨nx,v,w',γ',hrun,hnx,hh,hr,hγ,hsz,hF⟩;refine⟨nx,v,w',γ',hrun,hnx,hh,hr,fun k r v hl hr=>?_⟩;have h1:=hr.mono (F':=F) (fun _ h=>h) hF;exact h1.ext hγ fun e he=>WT (hd2 e he) hl
    cases ho:o.op with
    |store t x y=>rw[ho]at he;exact fin none (by simp) (X8d h.heap h.opd ho he)
    |mapUpdate t m k v=>rw[ho]at he;exact fin none (by simp) (X75 h.heap h.opd ho he)
    | call c=>
      rw[ho]at hc he;obtain⟨callee,args,ts⟩:=c;cases callee with
      |value f=>simp[Q7]at hc
      |invoke f m=>simp[Q7]at hc
      | builtin b=>
        cases b<;>simp only[Q7]at hc<;>try cases hc
        rename_i hc';split at hc
        · rename_i hsz;exact fin d hd (X7k h.heap h.opd (fun d' e=>⟨ZW (hd d' e),Ww (hd d' e)⟩) ho hsz he)
        cases hc
    |_=>rw[ho]at hc;simp[Q7]at hc
   split at he
   · rename_i d hd;split at he
     · rename_i hun;exact key (some d) (fun d' e=>by cases e;exact hun) he
     cases he
   exact key none (by simp) he
 cases he
end
end Go.Hl
