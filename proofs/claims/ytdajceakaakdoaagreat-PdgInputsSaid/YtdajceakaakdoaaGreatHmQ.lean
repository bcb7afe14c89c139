/- HmQ: part of an evaluator of Go code over abstract states, proved sound over the model; used by the proof of the claimed statement. Conditions: none. -/
import Derived.Test.YtdajceakaakdoaaGreatHmP
set_option linter.unusedSimpArgs false
set_option linter.unusedVariables false
namespace Go.Hl
open Go Go.RowKit
def WI (dst:Option Nat) (r:RV) (regs:List (Nat×RV)):List (Nat×RV):=
 match dst with
 |some d=>ins d r regs
 |none=>regs
theorem HS.put_eq (s:HS) (dst:Option Nat) (r:RV):s.put dst r={s with regs:=WI dst r s.regs}:=by cases dst<;>rfl
def X3l (d:Nat) (ob:Option Ob) (objs:List (Nat×Ob)):List (Nat×Ob):=
 match ob with
 |some o=>ins d o objs
 |none=>objs
inductive Eff (P:Program) (objs:List (Nat×Ob)) (g:Operand→RV) (o:Oper):RV→List (Nat×Ob)→Bool→Prop where
 |neutral {r:RV} {x:Option Ob} (hc:Q7 o.op=.neutral) (h:evN P g o.op=some (r,x)):Eff P objs g o r objs true
 |alloc {r:RV} {d:Nat} {ob:Ob} (hc:Q7 o.op=.alloc) (hd:o.dst=some d) (h:evA P g d o.op=some (r,some ob)):Eff P objs g o r (ins d ob objs) false
 |read {r:RV} (hc:Q7 o.op=.read) (h:evR P objs g o.op=some r):Eff P objs g o r objs true
 |write {r:RV} {objs':List (Nat×Ob)} (hc:Q7 o.op=.write) (h:evW P objs g o.dst o.op=some (r,objs')):Eff P objs g o r objs' false
 | call {r:RV} {x:Operand} {args:Array Operand} {ts:Array TypeId} {d:Nat} {f:FuncId} {tvs:List TV} {fresh:Bool} {ob:Option Ob} (hc:Q7 o.op=.call) (ho:o.op=.call {callee:=.value x,args:=args,argTypes:=ts})
   (hd:o.dst=some d) {own:Bool} {es:List TV} (hf:Wn objs (g x)=some (f,own,es)) (hts:X1s objs g args.toList=some tvs) (hcon:Con P f fresh (tvs++es) r ob d) (hown:fresh=true∨(own||args.toList.any fun x=>(g x).ownB)=false)
   (honly:r.onlyB ob.isSome d=true) (hflat:∀o,ob=some o→o.flat=true):Eff P objs g o r (X3l d ob objs) ob.isNone
theorem Eff.quiet {P:Program} {objs objs':List (Nat×Ob)} {g:Operand→RV} {o:Oper} {r:RV} (h:Eff P objs g o r objs' true):objs'=objs:=by
 generalize hq:true=q at h;cases h with
 |neutral _ _=>rfl
 |read _ _=>rfl
 |alloc _ _ _=>cases hq
 |write _ _=>cases hq
 | @call x args ts d f tvs fresh ob hc ho hd hf hts hcon hown honly hflat=>
   cases ob with
   |none=>rfl
   |some _=>cases hq
def Qo (o:Oper):Bool:=
 match Q7 o.op with
 | .alloc=>true
 | .call=>true
 | .write=>true
 |_=>false
def QX (s:HS) (o:Oper):Prop:=Qo o=true→∀d,o.dst=some d→QY d s=true
def Way (b q:Bool) (st fin:RV→RV):Prop:=(b=true∧st=id∧fin=id)∨(q=true∧st=ZH b∧fin=gdR b)
def Stp (P:Program) (ops:Array Oper) (o:Oper) (s s1:HS):Prop:=
 XJ s o.dst=true∧∃b,Za ops o s=some b∧((b=false∧s1={s with regs:=WI o.dst (.v (.one .any)) s.regs})∨
  (QX s o∧∃r objs' q st fin,Way b q st fin∧Eff P s.objs (fun x=>st (opd s.regs x)) o r objs' q∧s1={s with regs:=WI o.dst (fin r) s.regs,objs:=objs'}))
section
variable {P:Program} {ops:Array Oper}
theorem X30 {o:Oper} {s s':HS} (hs:X3R P s o=some s'):XJ s o.dst=true∧∃r objs' q,Eff P s.objs (opd s.regs) o r objs' q∧s'={s with regs:=WI o.dst r s.regs,objs:=objs'}:=by
 unfold X3R at hs;split at hs
 · rename_i r objs' he;split at hs
   · rename_i hok;cases hs;refine⟨hok,r,objs',?_⟩;rw[HS.put_eq];unfold evOp at he;split at he
     · rename_i hc;split at he
       · rename_i r' x hx;cases he;exact⟨_,.neutral hc hx,rfl⟩
       cases he
     · rename_i hc;split at he
       · rename_i d hd;split at he
         · split at he
           · rename_i r' ob ha;cases he;exact⟨_,.alloc hc hd ha,rfl⟩
           cases he
         cases he
       cases he
     · rename_i hc;split at he
       · rename_i r' hr;cases he;exact⟨_,.read hc hr,rfl⟩
       cases he
     · rename_i hc;refine⟨_,.write hc ?_,rfl⟩;split at he
       · rename_i d hd;split at he
         · rw[hd];exact he
         cases he
       rename_i hd;rw[hd];exact he
     cases he
   cases hs
 cases hs
theorem X70 {o:Oper} {s:HS} {r:RV} {objs':List (Nat×Ob)} {q:Bool} (hok:XJ s o.dst=true) (hn:QX s o) (hc:Q7 o.op≠ .call) (he:Eff P s.objs (opd s.regs) o r objs' q):
  X3R P s o=some {s with regs:=WI o.dst r s.regs,objs:=objs'}:=by
 have:evOp P s o=some (r,objs'):=by
  unfold evOp;cases he with
  |neutral hc hx=>rw[hc];simp only[hx]
  | alloc hc hd ha=>
    rw[hc];simp only[hd];rw[if_pos (hn (by simp[Qo,hc]) _ hd)];simp only[ha]
  |read hc hr=>rw[hc];simp only[hr]
  | write hc he=>
    rw[hc];simp only;cases hd:o.dst with
    |none=>rw[hd]at he;exact he
    |some d=>rw[hd]at he;simp only;rw[if_pos (hn (by simp[Qo,hc]) d hd)];exact he
  |call hc'=>exact absurd hc' hc
 unfold X3R;rw[this];simp only;rw[if_pos hok,HS.put_eq]
theorem X2W {o:Oper} {s:HS} {g:Operand→RV} {K:Nat→RV→Option Ob→Prop} (hcls:Q7 o.op=.call) (h:X1q P s g o K):
  ∃d r ob,o.dst=some d∧XJ s o.dst=true∧Eff P s.objs g o r (X3l d ob s.objs) ob.isNone∧K d r ob:=by
 unfold X1q at h;split at h
 · rename_i x args ts d ho hd;split at h
   · rename_i f own es tvs hf hts;obtain⟨fresh,r,ob,hcon,hown,hunm,honly,hflat,hok,hk⟩:=h;exact⟨d,r,ob,hd,by rw[hd];exact hok,.call hcls ho hd hf hts hcon hown honly hflat,hk⟩
   exact h.elim
 exact h.elim
theorem X7I {o:Oper} {s:HS} {g:Operand→RV} {r:RV} {objs':List (Nat×Ob)} {q:Bool} {K:Nat→RV→Option Ob→Prop} (hcls:Q7 o.op=.call) (hok:XJ s o.dst=true) (hn:QX s o) (he:Eff P s.objs g o r objs' q)
  (hK:∀d ob,o.dst=some d→objs'=X3l d ob s.objs→q=ob.isNone→K d r ob):X1q P s g o K:=by
 cases he with
 | call hc' ho hd hf hts hcon hown honly hflat=>
   rename_i x args ts d f tvs fresh ob own es;unfold X1q;rw[ho,hd];simp only[hf,hts];exact⟨fresh,r,ob,hcon,hown,fun _=>hn (by simp[Qo,hcls]) d hd,honly,hflat,by rw[←hd];exact hok,hK d ob hd rfl rfl⟩
 |neutral h=>rw[hcls]at h;cases h
 |alloc h=>rw[hcls]at h;cases h
 |read h=>rw[hcls]at h;cases h
 |write h=>rw[hcls]at h;cases h
theorem made_put (s:HS) (d:Nat) (ob:Option Ob) (r:RV):(s.made d ob).put (some d) r={s with regs:=WI (some d) r s.regs,objs:=X3l d ob s.objs}:=by cases ob<;>rfl
theorem XaH {o:Oper} {s:HS} (h:o.guard=none):Za ops o s=some true:=by unfold Za;rw[h]
theorem X2N {o:Oper} {l:List Oper} {s:HS} {K:HS→Prop} (hn:QX s o) (h:wpR P ops (o::l) s K):∃s1,Stp P ops o s s1∧wpR P ops l s1 K:=by
 cases hgd:o.guard with
 | none=>
   simp only[wpR,hgd]at h;split at h
   · rename_i hcls;obtain⟨d,r,ob,hd,hok,he,hk⟩:=X2W hcls h;rw[made_put]at hk;exact⟨_,⟨hok,true,XaH hgd,.inr ⟨hn,r,_,_,id,id,.inl ⟨rfl,rfl,rfl⟩,he,by rw[hd];rfl⟩⟩,hk⟩
   split at h
   · rename_i s' hs;obtain⟨hok,r,objs',q,he,rfl⟩:=X30 hs;exact⟨_,⟨hok,true,XaH hgd,.inr ⟨hn,r,objs',q,id,id,.inl ⟨rfl,rfl,rfl⟩,he,rfl⟩⟩,h⟩
   exact h.elim
 | some p =>
   simp only[wpR,hgd]at h;cases hg:Za ops o s with
   |none=>rw[hg]at h;exact h.elim
   | some b=>
     rw[hg]at h;simp only at h;split at h
     · rename_i hcls;rcases h with⟨hb,hok,hk⟩|h
       · rw[HS.put_eq]at hk;exact⟨_,⟨hok,b,hg,.inl ⟨hb,rfl⟩⟩,hk⟩
       obtain⟨d,r,ob,hd,hok,he,rfl,hk⟩:=X2W hcls h;rw[HS.put_eq]at hk;exact⟨_,⟨hok,b,hg,.inr ⟨hn,r,s.objs,true,ZH b,gdR b,.inr ⟨rfl,rfl,rfl⟩,he,by rw[hd]⟩⟩,hk⟩
     split at h
     · rename_i s' hs;unfold stpG at hs;split at hs
       · rename_i hok;split at hs
         · rename_i hc;split at hs
           · rename_i r x he;cases hs;rw[HS.put_eq]at h;exact⟨_,⟨hok,b,hg,.inr ⟨hn,r,s.objs,true,ZH b,gdR b,.inr ⟨rfl,rfl,rfl⟩,.neutral hc he,rfl⟩⟩,h⟩
           split at hs
           · rename_i hb;cases hs;rw[HS.put_eq]at h;exact⟨_,⟨hok,b,hg,.inl ⟨hb,rfl⟩⟩,h⟩
           cases hs
         · rename_i hc;split at hs
           · rename_i r he;cases hs;rw[HS.put_eq]at h;exact⟨_,⟨hok,b,hg,.inr ⟨hn,r,s.objs,true,ZH b,gdR b,.inr ⟨rfl,rfl,rfl⟩,.read hc he,rfl⟩⟩,h⟩
           split at hs
           · rename_i hb;cases hs;rw[HS.put_eq]at h;exact⟨_,⟨hok,b,hg,.inl ⟨hb,rfl⟩⟩,h⟩
           cases hs
         cases b with
         | true=>
           obtain⟨_,r,objs',q,he,rfl⟩:=X30 hs;exact⟨_,⟨hok,true,hg,.inr ⟨hn,r,objs',q,id,id,.inl ⟨rfl,rfl,rfl⟩,he,rfl⟩⟩,h⟩
         | false=>
           cases hs;rw[HS.put_eq]at h;exact⟨_,⟨hok,false,hg,.inl ⟨rfl,rfl⟩⟩,h⟩
       cases hs
     exact h.elim
theorem X4D {F:Nat→Prop} {γ:Nat→Value} {w w0:World} {B:Nat→Prop} {π:Nat→Option Value} {i:Nat} {o:Oper} {s s1:HS} {a:Act} {Kc:Act→World→Prop} {Q:Exit→Act→World→Prop} (hi:ops[i]? =some o)
  (h:Rel w0 B π F γ s a w) (hs:Stp P ops o s s1)
  (hK:∀F' γ' a' w',(∀b,F b→F' b)→(∀b,F' b→F b∨¬B b)→Rel w0 B π F' γ' s1 a' w'→Kc a' w'):wpOp P ops Q i Kc a w:=by
 obtain⟨hok,b,hg,hs⟩:=hs
 -- the operation without its guard
 have skip:b=false→∀r:RV,X9 F γ w r undef→s1={s with regs:=WI o.dst r s.regs}→wpOp P ops Q i Kc a w:=by
  intro hb r hr hs1;unfold wpOp;rw[hi];simp only;rw[X02 h hg,hb];simp only[Bool.false_eq_true,if_false];refine hK F γ _ _ (fun _ h=>h) (fun _ h=>.inl h) ?_;have:=h.step (dst:=o.dst) (r:=r) (v:=undef) (objs':=s.objs) hok h.heap hr (fun _ _ _ _ h=>h);rw[HS.put_eq]at this;rw[hs1];exact this
 rcases hs with⟨hb,hs1⟩|⟨hn,r,objs',q,st,fin,hw,he,hs1⟩
 · exact skip hb (.v (.one .any)) trivial hs1
 cases b with
 | false=>
   rcases hw with⟨h0,_⟩|⟨rfl,rfl,rfl⟩
   · cases h0
   have:=he.quiet;subst this;exact skip rfl (gdR false r) (X17 (by simp) fun _=>rfl) hs1
 | true=>
   unfold wpOp;rw[hi];simp only;rw[X02 h hg];simp only[if_true];refine .inl ?_
   have hst:∀x,X9 F γ w (st (opd s.regs x)) (a.eval x):=by
    intro x;rcases hw with⟨_,rfl,_⟩|⟨_,rfl,_⟩
    · exact h.opd x
    exact X1W rfl (h.opd x)
   have hfin:∀{F' γ' w'} {r:RV} {v:Value},X9 F' γ' w' r v→X9 F' γ' w' (fin r) v:=by
    intro F' γ' w' r v hr;rcases hw with⟨_,_,rfl⟩|⟨_,_,rfl⟩
    · exact hr
    exact X17 (fun _=>hr) (by simp)
   by_cases hc:Q7 o.op=.call
   · refine X1F (K:=fun d r' ob=>r'=r∧objs'=X3l d ob s.objs∧o.dst=some d) h hst (X7I hc hok hn he fun d ob hd ho _=>⟨rfl,ho,hd⟩) fun d r' ob F' γ' v w' hd hok' hk h1 h2 hr hv=>?_;obtain⟨rfl,ho,_⟩:=hk;refine hK F' γ' _ _ h1 h2 ?_;have hok2:XJ (s.made d ob) (some d)=true:=by cases ob<;>exact hok'
     have:=hr.step (dst:=some d) (objs':=(s.made d ob).objs) hok2 hr.heap (hfin hv) fun _ _ _ _ h=>h;rw[hs1,hd,ho];rw[HS.put_eq]at this;cases ob<;>exact this
   rcases hw with⟨_,rfl,rfl⟩|⟨hq,rfl,rfl⟩
   · have hsf:=X70 hok hn hc he;unfold X3R at hsf;split at hsf
     · rename_i r2 objs2 he2;rw[if_pos hok]at hsf;obtain⟨nx,v,w',γ',hrun,hnx,hh,hr,hkeep⟩:=X5i h he2;have hrel:=h.step hok hh hr hkeep;have e:s1=({s with objs:=objs2}:HS).put o.dst r2:=by rw[hs1];exact(Option.some.inj hsf).symm
       rw[←e]at hrel;unfold Oper.wp;rw[hrun];rcases hnx with rfl|⟨rfl,rfl⟩
       · exact hK F γ' _ _ (fun _ h=>h) (fun _ h=>.inl h) hrel
       exact hK F γ' _ _ (fun _ h=>h) (fun _ h=>.inl h) hrel
     cases hsf
   subst hq;have:=he.quiet;subst this
   have hv:∃v,(execOp a.eval o).run P w=.ok (.value v) w∧X9 F γ w r v:=by
    obtain⟨O',hO,he'⟩:∃O',O'=s.objs∧Eff P s.objs (fun x=>ZH true (opd s.regs x)) o r O' true:=⟨_,rfl,he⟩;clear he hO;generalize hqq:true=q at he';cases he' with
    |neutral _ hx=>obtain⟨_,v,h1,h2⟩:=X2a (F:=F) (γ:=γ) (w:=w) hst hx;exact⟨v,h1,h2⟩
    |read _ hx=>exact X0T h.heap hst hx
    |alloc _ _ _=>cases hqq
    |write _ _=>cases hqq
    |call hc' _ _ _ _ _ _ _ _=>exact absurd hc' hc
   obtain⟨v,hrun,hr⟩:=hv;unfold Oper.wp;rw[hrun];refine hK F γ _ _ (fun _ h=>h) (fun _ h=>.inl h) ?_;have:=h.step (dst:=o.dst) (r:=gdR true r) (v:=v) (objs':=s.objs) hok h.heap (hfin hr) (fun _ _ _ _ h=>h);rw[HS.put_eq]at this;rw[hs1];exact this
def runs (P:Program) (ops:Array Oper):List Oper→HS→(HS→Prop)→Prop
 |[],s,K=>K s
 |o::l,s,K=>∃s1,Stp P ops o s s1∧runs P ops l s1 K
end
end Go.Hl
