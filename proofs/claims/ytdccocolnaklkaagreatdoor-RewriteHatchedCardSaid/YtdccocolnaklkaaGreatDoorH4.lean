/- Part of an evaluator that is sound over the model. Conditions: none. -/
import Derived.Test.YtdccocolnaklkaaGreatDoorH3
import Derived.Orders
import GoSem.ClaimChange
import Derived.SizedLaws
import Derived.ProofKit
import Derived.Scope
set_option linter.unusedSimpArgs false
set_option linter.unusedVariables false
namespace Go.Hl
open Go Go.RowKit
def ZU (dst:Option Nat) (r:RV) (regs:List (Nat×RV)):List (Nat×RV):=
 match dst with
 |some d=>ins d r regs
 |none=>regs
theorem HS.put_eq (s:HS) (dst:Option Nat) (r:RV):s.put dst r={s with regs:=ZU dst r s.regs}:=by cases dst<;>rfl
def X2O (d:Nat) (ob:Option Ob) (objs:List (Nat×Ob)):List (Nat×Ob):=
 match ob with
 |some o=>ins d o objs
 |none=>objs
inductive Eff (P:Program) (objs:List (Nat×Ob)) (g:Operand->RV) (o:Oper):RV->List (Nat×Ob)->Bool->Prop where
 |neutral {r:RV} {x:Option Ob} (hc:Q9 o.op=.neutral) (h:evN P g o.op=some (r,x)):Eff P objs g o r objs true
 |alloc {r:RV} {d:Nat} {ob:Ob} (hc:Q9 o.op=.alloc) (hd:o.dst=some d) (h:evA P g d o.op=some (r,some ob)):Eff P objs g o r (ins d ob objs) false
 |read {r:RV} (hc:Q9 o.op=.read) (h:evR P objs g o.op=some r):Eff P objs g o r objs true
 |write {r:RV} {objs':List (Nat×Ob)} (hc:Q9 o.op=.write) (h:evW P objs g o.dst o.op=some (r,objs')):Eff P objs g o r objs' false
 | call {r:RV} {x:Operand} {args:Array Operand} {ts:Array TypeId} {d:Nat} {f:FuncId} {tvs:List TV} {fresh:Bool} {ob:Option Ob} (hc:Q9 o.op=.call) (ho:o.op=.call {callee:=.value x,args:=args,argTypes:=ts})
   (hd:o.dst=some d) {own:Bool} {es:List TV} (hf:Wh objs (g x)=some (f,own,es)) (hts:X1w objs g args.toList=some tvs) (hcon:Con P f fresh (tvs++es) r ob d) (hown:fresh=true\/(own||args.toList.any fun x=>(g x).ownB)=false)
   (honly:r.onlyB ob.isSome d=true) (hflat:∀o,ob=some o->o.flat=true):Eff P objs g o r (X2O d ob objs) ob.isNone
theorem Eff.quiet {P:Program} {objs objs':List (Nat×Ob)} {g:Operand->RV} {o:Oper} {r:RV} (h:Eff P objs g o r objs' true):objs'=objs:=by
 generalize hq:true=q at h;cases h with
 |neutral _ _=>rfl
 |read _ _=>rfl
 |alloc _ _ _=>cases hq
 |write _ _=>cases hq
 | @call x args ts d f tvs fresh ob hc ho hd hf hts hcon hown honly hflat=>
   cases ob with
   |none=>rfl
   |some _=>cases hq
def Qo (o:Oper):Bool:=
 match Q9 o.op with
 | .alloc=>true
 | .call=>true
 | .write=>true
 |_=>false
def QP (s:HS) (o:Oper):Prop:=Qo o=true->∀d,o.dst=some d->QV d s=true
def Way (b q:Bool) (st fin:RV->RV):Prop:=(b=true/\st=id/\fin=id)\/(q=true/\st=Ze b/\fin=gdR b)
def Stp (P:Program) (ops:Array Oper) (o:Oper) (s s1:HS):Prop:=
 Q3 s o.dst=true/\∃b,ZV ops o s=some b/\((b=false/\s1={s with regs:=ZU o.dst (.v (.one .any)) s.regs})\/
  (QP s o/\∃r objs' q st fin,Way b q st fin/\Eff P s.objs (fun x=>st (opd s.regs x)) o r objs' q/\s1={s with regs:=ZU o.dst (fin r) s.regs,objs:=objs'}))
section
variable {P:Program} {ops:Array Oper}
theorem X2F {o:Oper} {s s':HS} (hs:X2Y P s o=some s'):Q3 s o.dst=true/\∃r objs' q,Eff P s.objs (opd s.regs) o r objs' q/\s'={s with regs:=ZU o.dst r s.regs,objs:=objs'}:=by
 unfold X2Y at hs;split at hs
 .rename_i r objs' he;split at hs
  .rename_i hok;cases hs;refine⟨hok,r,objs',?_⟩;rw[HS.put_eq];unfold evOp at he;split at he
   .rename_i hc;split at he
    .rename_i r' x hx;cases he;exact⟨_,.neutral hc hx,rfl⟩
    cases he
   .rename_i hc;split at he
    .rename_i d hd;split at he
     .split at he
      .rename_i r' ob ha;cases he;exact⟨_,.alloc hc hd ha,rfl⟩
      cases he
     cases he
    cases he
   .rename_i hc;split at he
    .rename_i r' hr;cases he;exact⟨_,.read hc hr,rfl⟩
    cases he
   .rename_i hc;refine⟨_,.write hc ?_,rfl⟩;split at he
    .rename_i d hd;split at he
     .rw[hd];exact he
     cases he
    rename_i hd;rw[hd];exact he
   cases he
  cases hs
 cases hs
theorem X6v {o:Oper} {s:HS} {r:RV} {objs':List (Nat×Ob)} {q:Bool} (hok:Q3 s o.dst=true) (hn:QP s o) (hc:Q9 o.op≠ .call) (he:Eff P s.objs (opd s.regs) o r objs' q):
  X2Y P s o=some {s with regs:=ZU o.dst r s.regs,objs:=objs'}:=by
 have:evOp P s o=some (r,objs'):=by
  unfold evOp;cases he with
  |neutral hc hx=>rw[hc];simp only[hx]
  | alloc hc hd ha=>
    rw[hc];simp only[hd];rw[N9 (hn (by simp[Qo,hc]) _ hd)];simp only[ha]
  |read hc hr=>rw[hc];simp only[hr]
  | write hc he=>
    rw[hc];simp only;cases hd:o.dst with
    |none=>rw[hd]at he;exact he
    |some d=>rw[hd]at he;simp only;rw[N9 (hn (by simp[Qo,hc]) d hd)];exact he
  |call hc'=>exact absurd hc' hc
 unfold X2Y;rw[this];simp only;rw[N9 hok,HS.put_eq]
theorem X2v {o:Oper} {s:HS} {g:Operand->RV} {K:Nat->RV->Option Ob->Prop} (hcls:Q9 o.op=.call) (h:X16 P s g o K):
  ∃d r ob,o.dst=some d/\Q3 s o.dst=true/\Eff P s.objs g o r (X2O d ob s.objs) ob.isNone/\K d r ob:=by
 unfold X16 at h;split at h
 .rename_i x args ts d ho hd;split at h
  .rename_i f own es tvs hf hts;obtain⟨fresh,r,ob,hcon,hown,hunm,honly,hflat,hok,hk⟩:=h;exact⟨d,r,ob,hd,by rw[hd];exact hok,.call hcls ho hd hf hts hcon hown honly hflat,hk⟩
  exact h.elim
 exact h.elim
theorem X6F {o:Oper} {s:HS} {g:Operand->RV} {r:RV} {objs':List (Nat×Ob)} {q:Bool} {K:Nat->RV->Option Ob->Prop} (hcls:Q9 o.op=.call) (hok:Q3 s o.dst=true) (hn:QP s o) (he:Eff P s.objs g o r objs' q)
  (hK:∀d ob,o.dst=some d->objs'=X2O d ob s.objs->q=ob.isNone->K d r ob):X16 P s g o K:=by
 cases he with
 | call hc' ho hd hf hts hcon hown honly hflat=>
   rename_i x args ts d f tvs fresh ob own es;unfold X16;rw[ho,hd];simp only[hf,hts];exact⟨fresh,r,ob,hcon,hown,fun _=>hn (by simp[Qo,hcls]) d hd,honly,hflat,by rw[<-hd];exact hok,hK d ob hd rfl rfl⟩
 |neutral h=>rw[hcls]at h;cases h
 |alloc h=>rw[hcls]at h;cases h
 |read h=>rw[hcls]at h;cases h
 |write h=>rw[hcls]at h;cases h
theorem made_put (s:HS) (d:Nat) (ob:Option Ob) (r:RV):(s.made d ob).put (some d) r={s with regs:=ZU (some d) r s.regs,objs:=X2O d ob s.objs}:=by cases ob<;>rfl
theorem Xa8 {o:Oper} {s:HS} (h:o.guard=none):ZV ops o s=some true:=by unfold ZV;rw[h]
theorem X1Q {o:Oper} {l:List Oper} {s:HS} {K:HS->Prop} (hn:QP s o) (h:wpR P ops (o::l) s K):∃s1,Stp P ops o s s1/\wpR P ops l s1 K:=by
 cases hgd:o.guard with
 | none=>
   simp only[wpR,hgd]at h;split at h
   .rename_i hcls;obtain⟨d,r,ob,hd,hok,he,hk⟩:=X2v hcls h;rw[made_put]at hk;exact⟨_,⟨hok,true,Xa8 hgd,.inr ⟨hn,r,_,_,id,id,.inl ⟨rfl,rfl,rfl⟩,he,by rw[hd];rfl⟩⟩,hk⟩
   split at h
   .rename_i s' hs;obtain⟨hok,r,objs',q,he,rfl⟩:=X2F hs;exact⟨_,⟨hok,true,Xa8 hgd,.inr ⟨hn,r,objs',q,id,id,.inl ⟨rfl,rfl,rfl⟩,he,rfl⟩⟩,h⟩
   exact h.elim
 | some p =>
   simp only[wpR,hgd]at h;cases hg:ZV ops o s with
   |none=>rw[hg]at h;exact h.elim
   | some b=>
     rw[hg]at h;simp only at h;split at h
     .rename_i hcls;rcases h with⟨hb,hok,hk⟩|h
      .rw[HS.put_eq]at hk;exact⟨_,⟨hok,b,hg,.inl ⟨hb,rfl⟩⟩,hk⟩
      obtain⟨d,r,ob,hd,hok,he,rfl,hk⟩:=X2v hcls h;rw[HS.put_eq]at hk;exact⟨_,⟨hok,b,hg,.inr ⟨hn,r,s.objs,true,Ze b,gdR b,.inr ⟨rfl,rfl,rfl⟩,he,by rw[hd]⟩⟩,hk⟩
     split at h
     .rename_i s' hs;unfold stpG at hs;split at hs
      .rename_i hok;split at hs
       .rename_i hc;split at hs
        .rename_i r x he;cases hs;rw[HS.put_eq]at h;exact⟨_,⟨hok,b,hg,.inr ⟨hn,r,s.objs,true,Ze b,gdR b,.inr ⟨rfl,rfl,rfl⟩,.neutral hc he,rfl⟩⟩,h⟩
        split at hs
        .rename_i hb;cases hs;rw[HS.put_eq]at h;exact⟨_,⟨hok,b,hg,.inl ⟨hb,rfl⟩⟩,h⟩
        cases hs
       .rename_i hc;split at hs
        .rename_i r he;cases hs;rw[HS.put_eq]at h;exact⟨_,⟨hok,b,hg,.inr ⟨hn,r,s.objs,true,Ze b,gdR b,.inr ⟨rfl,rfl,rfl⟩,.read hc he,rfl⟩⟩,h⟩
        split at hs
        .rename_i hb;cases hs;rw[HS.put_eq]at h;exact⟨_,⟨hok,b,hg,.inl ⟨hb,rfl⟩⟩,h⟩
        cases hs
       cases b with
       | true=>
         obtain⟨_,r,objs',q,he,rfl⟩:=X2F hs;exact⟨_,⟨hok,true,hg,.inr ⟨hn,r,objs',q,id,id,.inl ⟨rfl,rfl,rfl⟩,he,rfl⟩⟩,h⟩
       | false=>
         cases hs;rw[HS.put_eq]at h;exact⟨_,⟨hok,false,hg,.inl ⟨rfl,rfl⟩⟩,h⟩
      cases hs
     exact h.elim
theorem X6X {F:Nat->Prop} {T:Nat->Value} {w w0:World} {B:Nat->Prop} {U:Nat->Option Value} {i:Nat} {o:Oper} {s s1:HS} {a:Act} {Kc:Act->World->Prop} {Q:Exit->Act->World->Prop} (hi:ops[i]? =some o)
  (h:Rel w0 B U F T s a w) (hs:Stp P ops o s s1)
  (hK:∀F' T' a' w',(∀b,F b->F' b)->(∀b,F' b->F b\/¬B b)->Rel w0 B U F' T' s1 a' w'->Kc a' w'):wpOp P ops Q i Kc a w:=by
 obtain⟨hok,b,hg,hs⟩:=hs
 -- the operation without its guard
 have skip:b=false->∀r:RV,X9 F T w r undef->s1={s with regs:=ZU o.dst r s.regs}->wpOp P ops Q i Kc a w:=by
  intro hb r hr hs1;unfold wpOp;rw[hi];simp only;rw[ZJ h hg,hb];simp only[Nz,NW];refine hK F T _ _ (fun _ h=>h) (fun _ h=>.inl h) ?_;have:=h.step (dst:=o.dst) (r:=r) (v:=undef) (objs':=s.objs) hok h.heap hr (fun _ _ _ _ h=>h);rw[HS.put_eq]at this;rw[hs1];exact this
 rcases hs with⟨hb,hs1⟩|⟨hn,r,objs',q,st,fin,hw,he,hs1⟩
 .exact skip hb (.v (.one .any)) trivial hs1
 cases b with
 | false=>
   rcases hw with⟨h0,_⟩|⟨rfl,rfl,rfl⟩
   .cases h0
   have:=he.quiet;subst this;exact skip rfl (gdR false r) (X0F (by simp) fun _=>rfl) hs1
 | true=>
   unfold wpOp;rw[hi];simp only;rw[ZJ h hg];simp only[NG];refine .inl ?_
   have hst:∀x,X9 F T w (st (opd s.regs x)) (a.eval x):=by
    intro x;rcases hw with⟨_,rfl,_⟩|⟨_,rfl,_⟩
    .exact h.opd x
    exact X1t rfl (h.opd x)
   have hfin:∀{F' T' w'} {r:RV} {v:Value},X9 F' T' w' r v->X9 F' T' w' (fin r) v:=by
    intro F' T' w' r v hr;rcases hw with⟨_,_,rfl⟩|⟨_,_,rfl⟩
    .exact hr
    exact X0F (fun _=>hr) (by simp)
   by_cases hc:Q9 o.op=.call
   .refine X1a (K:=fun d r' ob=>r'=r/\objs'=X2O d ob s.objs/\o.dst=some d) h hst (X6F hc hok hn he fun d ob hd ho _=>⟨rfl,ho,hd⟩) fun d r' ob F' T' v w' hd hok' hk h1 h2 hr hv=>?_;obtain⟨rfl,ho,_⟩:=hk;refine hK F' T' _ _ h1 h2 ?_;have hok2:Q3 (s.made d ob) (some d)=true:=by cases ob<;>exact hok'
    have:=hr.step (dst:=some d) (objs':=(s.made d ob).objs) hok2 hr.heap (hfin hv) fun _ _ _ _ h=>h;rw[hs1,hd,ho];rw[HS.put_eq]at this;cases ob<;>exact this
   rcases hw with⟨_,rfl,rfl⟩|⟨hq,rfl,rfl⟩
   .have hsf:=X6v hok hn hc he;unfold X2Y at hsf;split at hsf
    .rename_i r2 objs2 he2;rw[N9 hok]at hsf;obtain⟨nx,v,w',T',hrun,hnx,hh,hr,hkeep⟩:=X4v h he2;have hrel:=h.step hok hh hr hkeep;have e:s1=({s with objs:=objs2}:HS).put o.dst r2:=by rw[hs1];exact(Option.some.inj hsf).symm
     rw[<-e]at hrel;unfold Oper.wp;rw[hrun];rcases hnx with rfl|⟨rfl,rfl⟩
     .exact hK F T' _ _ (fun _ h=>h) (fun _ h=>.inl h) hrel
     exact hK F T' _ _ (fun _ h=>h) (fun _ h=>.inl h) hrel
    cases hsf
   subst hq;have:=he.quiet;subst this
   have hv:∃v,(execOp a.eval o).run P w=.ok (.value v) w/\X9 F T w r v:=by
    obtain⟨O',hO,he'⟩:∃O',O'=s.objs/\Eff P s.objs (fun x=>Ze true (opd s.regs x)) o r O' true:=⟨_,rfl,he⟩;clear he hO;generalize hqq:true=q at he';cases he' with
    |neutral _ hx=>obtain⟨_,v,h1,h2⟩:=X3u (F:=F) (T:=T) (w:=w) hst hx;exact⟨v,h1,h2⟩
    |read _ hx=>exact X1n h.heap hst hx
    |alloc _ _ _=>cases hqq
    |write _ _=>cases hqq
    |call hc' _ _ _ _ _ _ _ _=>exact absurd hc' hc
   obtain⟨v,hrun,hr⟩:=hv;unfold Oper.wp;rw[hrun];refine hK F T _ _ (fun _ h=>h) (fun _ h=>.inl h) ?_;have:=h.step (dst:=o.dst) (r:=gdR true r) (v:=v) (objs':=s.objs) hok h.heap (hfin hr) (fun _ _ _ _ h=>h);rw[HS.put_eq]at this;rw[hs1];exact this
def runs (P:Program) (ops:Array Oper):List Oper->HS->(HS->Prop)->Prop
 |[],s,K=>K s
 |o::l,s,K=>∃s1,Stp P ops o s s1/\runs P ops l s1 K
end
def X2y:Op->Bool
 | .call {callee:=.builtin .append, .. }=>true
 |_=>false
def X0H:Op->Bool
 | .mapUpdate _ _ _ _=>true
 |_=>false
def X0s (a b:Oper):Bool:=
 match Q9 a.op,Q9 b.op with
 | .neutral,_=>true
 |_,.neutral=>true
 | .alloc,.alloc=>true
 | .alloc,.read=>true
 | .alloc,.call=>true
 | .alloc,.write=> !X0H b.op
 | .read,.alloc=>true
 | .call,.alloc=>true
 | .write,.alloc=> !X0H a.op
 | .read,.read=>true
 | .read,.call=>true
 | .call,.read=>true
 |_,_=>false
def X5p (dst:Option Nat) (l:List Nat):Bool:=
 match dst with
 |some d=>l.contains d
 |none=>false
def Wj (a b:Option Nat):Bool:=
 match a,b with
 |some x,some y=>x==y
 |_,_=>false
section
variable {P:Program} {ops:Array Oper}
theorem X9W {d:Nat} {s:HS} (h0:d<1000000) (hs:Qi s.objs=true) (h1:∀k r,(k,r)∈s.regs->¬r.men d) (h2:∀n o,(n,o)∈s.objs->n≠d/\¬o.men d):QV d s=true:=by
 simp only[QV,N4,Nh,N7];refine⟨⟨h0,hs⟩,fun p hp=>?_,fun p hp=>?_⟩
 .simp only[Nk];cases h:p.2.menB d with
  |false=>rfl
  |true=>exact absurd (RV.menB_iff.1 h) (h1 p.1 p.2 hp)
 simp only[bne_iff_ne,Nk,N4];refine⟨(h2 p.1 p.2 hp).1,?_⟩;cases h:p.2.menB d with
 |false=>rfl
 |true=>exact absurd (Ob.menB_iff.1 h) (h2 p.1 p.2 hp).2
theorem X05 {d:Nat} {s:HS} (h:QV d s=true) {k:Nat} {r:RV} (hr:(k,r)∈s.regs):¬r.men d:=by
 simp only[QV,N4,Nh]at h;have:=h.2.1 _ hr;intro hm;rw[RV.menB_iff.2 hm]at this;cases this
theorem Zu {d:Nat} {s:HS} (h:QV d s=true) (n:Nat) (o:Ob) (hr:(n,o)∈s.objs):n≠d/\¬o.men d:=by
 simp only[QV,N4,Nh]at h;have:=h.2.2 _ hr;simp only[bne_iff_ne,ne_eq]at this;refine⟨this.1,fun hm=>?_⟩;rw[Ob.menB_iff.2 hm]at this;cases this.2
theorem X2Z {b:Bool} {d e:Nat} (h:b=true->e≠d):∀{x:CV},x.onlyB b e=true->¬x.men d
 | .own n,hx,hm=>by
   simp only[CV.onlyB,N4,beq_iff_eq]at hx;exact h hx.1 (hx.2.symm.trans hm)
 | .at_ n _,hx,hm=>by
   simp only[CV.onlyB,N4,beq_iff_eq]at hx;exact h hx.1 (hx.2.symm.trans hm)
 | .el n _ _ _,hx,hm=>by
   simp only[CV.onlyB,N4,beq_iff_eq]at hx;exact h hx.1 (hx.2.symm.trans hm)
 | .sub n _,hx,hm=>by
   simp only[CV.onlyB,N4,beq_iff_eq]at hx;exact h hx.1 (hx.2.symm.trans hm)
 | .el2 n _ _ _ _,hx,hm=>by
   simp only[CV.onlyB,N4,beq_iff_eq]at hx;exact h hx.1 (hx.2.symm.trans hm)
 | .fn _ caps,hx,hm=>by
   simp only[CV.onlyB,Dm]at hx;subst hx;obtain⟨p,hp,_⟩:=hm;cases hp
 | .gd _ _,hx,_=>by cases hx
 | .any,_,hm=>hm
 | .c _,_,hm=>hm
theorem Xam {b:Bool} {d e:Nat} (h:b=true->e≠d) {x:RV} (hx:x.onlyB b e=true):¬x.men d:=by
 have ht:∀t:TV,t.onlyB b e=true->¬t.men d:=by
  intro t ht;cases t with
  |one x=>exact X2Z h ht
  | agg xs=>
    simp only[TV.onlyB,Nh]at ht;rintro⟨x,hx,hm⟩;exact X2Z h (ht x hx) hm
 cases x with
 |v t=>exact ht t hx
 | tup ts=>
   simp only[RV.onlyB,Nh]at hx;rintro⟨t,htm,hm⟩;exact ht t (hx t htm) hm
theorem Xaw {b:Bool} {r:RV} {d:Nat} (h:¬r.men d):¬(Ze b r).men d:=by
 unfold Ze;split
 .unfold ungd;split
  .exact h
  exact h
 exact h
theorem gdR_men {b:Bool} {r:RV} {d:Nat} (h:¬r.men d):¬(gdR b r).men d:=by
 unfold gdR;split
 .exact h
 .split
  .exact h
  exact id
 .exact h
 exact id
theorem X1h {b q:Bool} {st fin:RV->RV} (h:Way b q st fin) {d:Nat} {r:RV} (hr:¬r.men d):¬(st r).men d/\¬(fin r).men d:=by
 rcases h with⟨_,rfl,rfl⟩|⟨_,rfl,rfl⟩
 .exact⟨hr,hr⟩
 exact⟨Xaw hr,gdR_men hr⟩
theorem eff_men {objs objs':List (Nat×Ob)} {g:Operand->RV} {o:Oper} {r:RV} {d:Nat} {q:Bool} (h:Eff P objs g o r objs' q) (hd:Qo o=true->o.dst≠some d) (hm:∀x∈XX o.op,¬(g x).men d)
  (ho:∀n o,(n,o)∈objs->n≠d/\¬o.men d):¬r.men d/\∀n o,(n,o)∈objs'->n≠d/\¬o.men d:=by
 cases h with
 |neutral hc h=>exact⟨evN_men h hm,ho⟩
 | alloc hc hdd h=>
   rename_i d' ob;have hne:d'≠d:=fun e=>hd (by simp[Qo,hc]) (by rw[hdd,e]);obtain⟨h1,h2⟩:=evA_men hne h hm;refine⟨h1,fun n o hn=>?_⟩;rcases ZS hn with e|hn
   .cases e;exact⟨hne,h2 _ rfl⟩
   exact ho n o hn
 |read hc h=>exact⟨evR_men h hm fun n o hl=>ho n o (XE hl),ho⟩
 | write hc h=>
   refine evW_men (fun d' hd' _ e=>hd (by simp[Qo,hc]) (by rw[hd',e])) h hm ho
 | call hc ho' hdd hf hts hcon hown honly hflat=>
   rename_i x args ts d' f tvs fresh ob own es;have hne:d'≠d:=fun e=>hd (by simp[Qo,hc]) (by rw[hdd,e]);refine⟨Xam (fun _=>hne) honly,fun n o hn=>?_⟩;cases ob with
   |none=>exact ho n o hn
   | some o'=>
     rcases ZS hn with e|hn
     .cases e;refine⟨hne,?_⟩;have:=hflat _ rfl;cases o with
      | box cs=>
        simp only[Ob.flat,Nh]at this;rintro⟨y,hy,hym⟩;exact X2Z (by simp) (this y hy) hym
      |row e s rows=>exact id
      |mp l=>exact id
      |mat e e' s rows=>exact id
      |refs e ns=>cases this
      |mps e ms=>cases this
      |it l seen=>cases this
     exact ho n o hn
theorem eff_sort {objs objs':List (Nat×Ob)} {g:Operand->RV} {o:Oper} {r:RV} {q:Bool} (h:Eff P objs g o r objs' q) (hs:Qi objs=true):Qi objs'=true:=by
 cases h with
 |neutral _ _=>exact hs
 |alloc _ _ _=>exact QH hs
 |read _ _=>exact hs
 |write _ h=>exact evW_sort h hs
 | call hc ho hdd hf hts hcon hown honly hflat=>
   rename_i x args ts d f tvs fresh ob own es;cases ob with
   |none=>exact hs
   |some o'=>exact QH hs
theorem X9D {o:Oper} {s s1:HS} {d:Nat} (h:Stp P ops o s s1) (hd:Qo o=true->o.dst≠some d) (hu:QV d s=true):QV d s1=true:=by
 obtain⟨hok,b,hg,⟨hb,rfl⟩|⟨hn,r,objs',q,st,fin,hw,he,rfl⟩⟩:=h
 .refine X9W (X1b hu) (show Qi s.objs=true from X2H hu) (fun k r hr=>?_) fun n o ho=>Zu hu n o ho;cases hdst:o.dst with
  |none=>rw[hdst]at hr;exact X05 hu hr
  | some e=>
    rw[hdst]at hr;rcases ZS hr with e|hr
    .cases e;exact id
    exact X05 hu hr
 obtain⟨h1,h2⟩:=eff_men he hd (fun x _=>(X1h hw (X0A hu x)).1) (Zu hu);refine X9W (X1b hu) (eff_sort he (X2H hu)) (fun k r' hr=>?_) h2;cases hdst:o.dst with
 |none=>rw[hdst]at hr;exact X05 hu hr
 | some e=>
   rw[hdst]at hr;rcases ZS hr with e|hr
   .cases e;exact(X1h hw h1).2
   exact X05 hu hr
theorem X1m {objs objs':List (Nat×Ob)} {g g':Operand->RV} {o:Oper} {r:RV} {q:Bool} (hg:∀x∈XX o.op,g x=g' x) (h:Eff P objs g o r objs' q):Eff P objs g' o r objs' q:=by
 cases h with
 |neutral hc h=>exact .neutral hc (by rw[<-Xb1 hg];exact h)
 |alloc hc hd h=>exact .alloc hc hd (by rw[<-XaR hg];exact h)
 |read hc h=>exact .read hc (by rw[<-XaK hg];exact h)
 |write hc h=>exact .write hc (by rw[<-XaC hg];exact h)
 | call hc ho hd hf hts hcon hown honly hflat=>
   rename_i x args ts d f tvs fresh ob own es
   have hg':g x=g' x/\∀y∈args.toList,g y=g' y:=by
    rw[ho]at hg;exact⟨hg x (by simp[XX]),fun y hy=>hg y (by simp only[XX];exact Nx _ hy)⟩
   refine .call hc ho hd (by rw[<-hg'.1];exact hf) (by rw[<-X4F _ hg'.2];exact hts) hcon ?_ honly hflat;rcases hown with h|h
   .exact .inl h
   refine .inr ?_;rw[<-h];congr 1;rw[D9,List.any_eq_true,List.any_eq_true];constructor
   .rintro⟨y,hy,he⟩;exact⟨y,hy,by rw[hg'.2 y hy];exact he⟩
   rintro⟨y,hy,he⟩;exact⟨y,hy,by rw[<-hg'.2 y hy];exact he⟩
theorem X60 {objs:List (Nat×Ob)} {g:Operand->RV} {o:Oper} {d:Nat} {ob:Ob} (hc:Q9 o.op=.write) (hmu:X0H o.op=false) (hs:Qi objs=true) (hd:Qo o=true->o.dst≠some d) (hm:∀x∈XX o.op,¬(g x).men d)
  (ho:∀n o,(n,o)∈objs->n≠d/\¬o.men d):evW P (ins d ob objs) g o.dst o.op=(evW P objs g o.dst o.op).map fun p=>(p.1,ins d ob p.2):=by
 have hdst:∀d',o.dst=some d'->d'≠d:=fun d' e e'=>hd (by simp[Qo,hc]) (by rw[e,e']);cases hop:o.op with
 |store t x y=>rw[hop]at hm;exact XaV hs (hm x (by simp[XX])) (hm y (by simp[XX]))
 |mapUpdate t m k v=>rw[hop]at hmu;cases hmu
 | call c=>
   obtain⟨callee,args,ts⟩:=c;rw[hop]at hc hm;cases callee with
   | builtin b=>
     cases b<;>simp[Q9]at hc
     exact X8t hs hdst ho fun x hx=>hm x (by simpa[XX]using hx)
   |value f=>simp[Q9]at hc
   |invoke f m=>simp[Q9]at hc
 |_=>rw[hop]at hc;simp[Q9]at hc
theorem X6r {objs:List (Nat×Ob)} {g:Operand->RV} {o:Oper} {r:RV} {d:Nat} {ob:Ob} {q:Bool} (hmu:X0H o.op=false) (hs:Qi objs=true) (hd:Qo o=true->o.dst≠some d) (hm:∀x∈XX o.op,¬(g x).men d)
  (hob:∀n o,(n,o)∈objs->n≠d/\¬o.men d):
  (∀objs',Eff P objs g o r objs' q->Eff P (ins d ob objs) g o r (ins d ob objs') q)/\
  (∀objs'',Eff P (ins d ob objs) g o r objs'' q->∃objs',Eff P objs g o r objs' q/\objs''=ins d ob objs'):=by
 have hargs:∀{x:Operand} {args:Array Operand} {ts:Array TypeId},o.op=.call {callee:=.value x,args:=args,argTypes:=ts}->¬(g x).men d/\∀y∈args.toList,¬(g y).men d:=by
  intro x args ts ho;rw[ho]at hm;exact⟨hm x (by simp[XX]),fun y hy=>hm y (by simp only[XX];exact Nx _ hy)⟩
 constructor
 .intro objs' h;cases h with
  |neutral hc h=>exact .neutral hc h
  | alloc hc hdd h=>
    rename_i d' ob';have hne:d'≠d:=fun e=>hd (by simp[Qo,hc]) (by rw[hdd,e]);rw[<-QG hne];exact .alloc hc hdd h
  |read hc h=>exact .read hc (by rw[X6O hm];exact h)
  | write hc h=>
    refine .write hc ?_;rw[X60 hc hmu hs hd hm hob,h];rfl
  | call hc ho hdd hf hts hcon hown honly hflat=>
    rename_i x args ts d' f tvs fresh ob' own es;have hne:d'≠d:=fun e=>hd (by simp[Qo,hc]) (by rw[hdd,e])
    have:ins d ob (X2O d' ob' objs)=X2O d' ob' (ins d ob objs):=by
     cases ob' with
     |none=>rfl
     |some o'=>exact(QG hne _ _ _).symm
    rw[this];exact .call hc ho hdd (by rw[X25 hob (hargs ho).1];exact hf) (by rw[X5b hob (hargs ho).2];exact hts) hcon hown honly hflat
 intro objs'' h;cases h with
 |neutral hc h=>exact⟨objs,.neutral hc h,rfl⟩
 | alloc hc hdd h=>
   rename_i d' ob';have hne:d'≠d:=fun e=>hd (by simp[Qo,hc]) (by rw[hdd,e]);exact⟨_,.alloc hc hdd h,QG hne _ _ _⟩
 |read hc h=>exact⟨objs,.read hc (by rw[<-X6O hm];exact h),rfl⟩
 | write hc h=>
   rw[X60 hc hmu hs hd hm hob]at h;simp only[N8]at h;obtain⟨⟨r',objs'⟩,h1,h2⟩:=h;cases h2;exact⟨objs',.write hc h1,rfl⟩
 | call hc ho hdd hf hts hcon hown honly hflat=>
   rename_i x args ts d' f tvs fresh ob' own es;have hne:d'≠d:=fun e=>hd (by simp[Qo,hc]) (by rw[hdd,e]);refine⟨X2O d' ob' objs,.call hc ho hdd (by rw[<-X25 hob (hargs ho).1];exact hf) (by rw[<-X5b hob (hargs ho).2];exact hts) hcon hown honly hflat,?_⟩;cases ob' with
   |none=>rfl
   |some o'=>exact QG hne _ _ _
end
section
variable {P:Program} {ops:Array Oper}
def lkpN (hs:List (Nat×Nat)) (k:Nat):Option Nat:=
 match lkp hs k with
 |some n=>if n=2000000 then none else some n
 |none=>none
def Qx (hs:List (Nat×Nat)) (o:Oper):Option (Nat×Nat):=
 match o.op with
 | .load _ (.tmp k)=>(lkpN hs k).map fun n=>(k,n)
 | .store _ (.tmp k) _=>(lkpN hs k).map fun n=>(k,n)
 |_=>none
def dataX (hs:List (Nat×Nat)) (x:Operand):Bool:=
 match x with
 | .tmp k=>lkp hs k==some 2000000
 |_=>false
def X9b (op:Op):Bool:=
 match Q9 op with
 | .read=>true
 |_=>false
def X3O (hs:List (Nat×Nat)) (o:Oper):Bool:= !hs.isEmpty&&(X9b o.op&&(XX o.op).all (dataX hs))
def HokD (hs:List (Nat×Nat)) (o:Oper) (g:Operand->RV):Prop:=X3O hs o=true->∀x∈XX o.op,∀n,¬(g x).men n
def Hok (hs:List (Nat×Nat)) (o:Oper) (g:Operand->RV):Prop:=∀k n,Qx hs o=some (k,n)->∃off,g (.tmp k)=.v (.one (.at_ n off))
def X1S:Op->Bool
 | .load _ _=>true
 |_=>false
def ZQ:Op->Bool
 | .store _ _ _=>true
 |_=>false
def swB (hs:List (Nat×Nat)) (a b:Oper):Bool:=
 match Qx hs a,Qx hs b with
 |some (_,n),some (_,m)=>n !=m&&((X1S a.op&&ZQ b.op)||(ZQ a.op&&X1S b.op))
 |some _,none=>X1S a.op&&X2y b.op
 |none,some _=>X2y a.op&&X1S b.op
 |_,_=>false
def pairH (hs:List (Nat×Nat)) (a b:Oper):Bool:=X0s a b||swB hs a b
def dsB (hs:List (Nat×Nat)) (a b:Oper):Bool:=(X3O hs a&&ZQ b.op)||(ZQ a.op&&X3O hs b)
def X2X (hs:List (Nat×Nat)) (ops:Array Oper) (a b:Oper):Bool:=
 !Wj a.dst b.dst&& !X5p a.dst (X35 ops b)&& !X5p b.dst (X35 ops a)&&(pairH hs a b||dsB hs a b)
theorem X7e {O:List (Nat×Ob)} {g:Operand->RV} {t:TypeId} {x:Operand} {r:RV} {n off:Nat} (h:evR P O g (.load t x)=some r) (hg:g x=.v (.one (.at_ n off))):∃cs,lkp O n=some (.box cs):=by
 simp only[evR,hg]at h;split at h
 .rename_i h1 h2;cases h2;split at h
  .rename_i cs hl;exact⟨cs,hl⟩
  cases h
 .rename_i h1 h2;cases h2
 .rename_i h1 h2;cases h2
 .rename_i h1 h2;cases h2
 cases h
theorem X3z {T:Type} {n m:Nat} {l:List (Nat×T)} (h:m≠n):lkp (del n l) m=lkp l m:=by rw[ZA,N6 h]
theorem X4C {O O' : List (Nat×Ob)} {g:Operand->RV} {dst:Option Nat} {op:Op} {r:RV} (ha:X2y op=true) (h:evW P O g dst op=some (r,O')) (n:Nat):
  (∀cs,(∀d,dst=some d->d≠n)->lkp O n=some (.box cs)->lkp O' n=lkp O n)/\(∀cs,lkp O' n=some (.box cs)->lkp O' n=lkp O n):=by
 cases op with
 | call c =>
   obtain⟨callee,args,ts⟩:=c;cases callee with
   | builtin b =>
     cases b<;>simp only[X2y]at ha<;>try cases ha
     simp only[evW]at h;cases dst with
     |none=>cases h
     | some d =>
       have fin:∀(X:Ob) (l:List (Nat×Ob)),(∀cs,X≠ .box cs)->(∀cs,lkp O n=some (.box cs)->lkp l n=lkp O n)->(∀cs,lkp l n=some (.box cs)->lkp l n=lkp O n)->O'=ins d X l->
         (∀cs,(∀d',some d=some d'->d'≠n)->lkp O n=some (.box cs)->lkp O' n=lkp O n)/\(∀cs,lkp O' n=some (.box cs)->lkp O' n=lkp O n):=by
        intro X l hX h1 h2 hO;subst hO;refine⟨fun cs hd hn=>?_,fun cs hn=>?_⟩
        .rw[Xp (Ne.symm (hd d rfl))];exact h1 cs hn
        rw[Qb]at hn⊢;split
        .rename_i e;rw[N9 e]at hn;cases hn;exact absurd rfl (hX cs)
        rename_i e;rw[N6 e]at hn;exact h2 cs hn
       have hdel:∀(m:Nat) (l:List (Nat×Ob)),(∀cs,lkp l m≠some (.box cs))->(∀cs,lkp l n=some (.box cs)->lkp (del m l) n=lkp l n)/\(∀cs,lkp (del m l) n=some (.box cs)->lkp (del m l) n=lkp l n):=by
        intro m l hm;refine⟨fun cs hn=>X3z fun e=>?_,fun cs hn=>X3z fun e=>?_⟩
        .subst e;exact hm cs hn
        subst e;rw[ZA,N9 rfl]at hn;cases hn
       split at h
       .rename_i heq _ _ _ _;cases heq;split at h
        .split at h
         .split at h
          .split at h
           .rename_i O2 hmat;cases h;unfold Wt at hmat;split at hmat
            .rename_i m _;split at hmat
             .rename_i hl;split at hmat
              .split at hmat
               .rename_i q _;split at hmat
                .rename_i hr;split at hmat
                 .rename_i hc;cases hmat;have d1:=hdel m O (fun cs e=>by rw[hl]at e;cases e)
                  have hq:∀cs,lkp (del m O) q≠some (.box cs):=by
                   intro cs e;rw[ZA]at e;split at e
                   .cases e
                   rw[hr]at e;cases e
                  have d2:=hdel q (del m O) hq;refine fin _ _ (by simp) (fun cs hn=>?_) (fun cs hn=>?_) rfl
                  .have e1:=d1.1 cs hn;exact(d2.1 cs (e1.trans hn)).trans e1
                  have e2:=d2.2 cs hn;exact e2.trans (d1.2 cs (e2.symm.trans hn))
                 cases hmat
                cases hmat
               cases hmat
              cases hmat
             cases hmat
            cases hmat
           split at h
           .rename_i m rows more hb hm;split at h
            .cases h;cases m with
             |none=>exact fin _ O (by simp) (fun _ _=>rfl) (fun _ _=>rfl) rfl
             | some m=>
               have hml:∀cs,lkp O m≠some (.box cs):=by
                intro cs e;unfold WT at hb;split at hb
                .cases hb
                .split at hb
                 .rename_i hl;split at hb
                  .cases hb;rw[hl]at e;cases e
                  cases hb
                 cases hb
                cases hb
               have d1:=hdel m O hml;exact fin _ _ (by simp) d1.1 d1.2 rfl
            cases h
           cases h
          cases h
         cases h
        cases h
       cases h
   |_=>simp[X2y]at ha
 |_=>simp[X2y]at ha
theorem X5t {O O':List (Nat×Ob)} {g:Operand->RV} {dst:Option Nat} {t:TypeId} {x y:Operand} {r:RV} {m off:Nat} (h:evW P O g dst (.store t x y)=some (r,O')) (hg:g x=.v (.one (.at_ m off))) {n:Nat} (hne:m≠n):
  lkp O' n=lkp O n:=by
 simp only[evW,hg]at h;split at h
 .rename_i h1;cases h1;split at h
  .split at h
   .split at h
    .cases h;exact Xp (Ne.symm hne) _ _
    cases h
   cases h
  cases h
 .rename_i h1;cases h1
 .rename_i h1;cases h1
 cases h
theorem eff_swap {hs:List (Nat×Nat)} {O Oj Oij:List (Nat×Ob)} {gj gi:Operand->RV} {j i:Oper} {rj ri:RV} {qj qi:Bool} (hp:pairH hs j i=true) (hdst:Wj j.dst i.dst=false) (hj:Eff P O gj j rj Oj qj) (hi:Eff P Oj gi i ri Oij qi)
  (nj:Qo j=true->∀d,j.dst=some d->(∀x,¬(gi x).men d)/\Qi O=true/\∀n o,(n,o)∈O->n≠d/\¬o.men d) (ni:Qo i=true->∀d,i.dst=some d->(∀x,¬(gj x).men d)/\Qi O=true/\∀n o,(n,o)∈O->n≠d/\¬o.men d)
  (hHj:Hok hs j gj) (hHi:Hok hs i gi):
  ∃Oi,Eff P O gi i ri Oi qi/\Eff P Oi gj j rj Oij qj:=by
 have hne:∀a b,j.dst=some a->i.dst=some b->a≠b:=by
  intro a b ha hb e;subst e;simp[Wj,ha,hb]at hdst
 have hmu:∀o:Oper,(Q9 o.op=.alloc\/Q9 o.op=.read\/Q9 o.op=.call)->X0H o.op=false:=by
  intro o ho;cases h:o.op with
  |mapUpdate t m k v=>rw[h]at ho;simp[Q9]at ho
  |_=>rfl
 -- 'j' makes an object, 'i' looks past it
 have A:∀(d:Nat) (ob:Ob),Q9 j.op=.alloc->j.dst=some d->evA P gj d j.op=some (rj,some ob)->qj=false->Oj=ins d ob O->X0H i.op=false->∃Oi,Eff P O gi i ri Oi qi/\Eff P Oi gj j rj Oij qj:=by
  intro d ob hc hd h hq hO ha;subst hO;subst hq;obtain⟨n1,n2,n3⟩:=nj (by simp[Qo,hc]) d hd;obtain⟨Oi,h1,rfl⟩:=(X6r (P:=P) (objs:=O) (g:=gi) (o:=i) (r:=ri) (q:=qi) (d:=d) (ob:=ob) ha n2 (fun _ e=>hne d d hd e rfl) (fun x _=>n1 x) n3).2 _ hi;exact⟨Oi,h1,.alloc hc hd h⟩
 have Bq:Q9 i.op=.alloc->X0H j.op=false->∃Oi,Eff P O gi i ri Oi qi/\Eff P Oi gj j rj Oij qj:=by
  intro hc ha;cases hi with
  | alloc hc' hd h=>
    rename_i d ob;obtain⟨n1,n2,n3⟩:=ni (by simp[Qo,hc]) d hd;exact⟨_,.alloc hc' hd h,(X6r (P:=P) (objs:=O) (g:=gj) (o:=j) (r:=rj) (q:=qj) (d:=d) (ob:=ob) ha n2 (fun _ e=>hne d d e hd rfl) (fun x _=>n1 x) n3).1 _ hj⟩
  |neutral h=>rw[hc]at h;cases h
  |read h=>rw[hc]at h;cases h
  |write h=>rw[hc]at h;cases h
  |call h=>rw[hc]at h;cases h
 have nopair:X0s j i=false->swB hs j i=true:=by
  intro h;unfold pairH at hp;rw[h]at hp;simpa using hp
 have hcl:∀o:Oper,X1S o.op=true->∃t x,o.op=.load t x:=by
  intro o h;cases ho:o.op with
  |load t x=>exact⟨t,x,rfl⟩
  |_=>rw[ho]at h;cases h
 have hcs:∀o:Oper,ZQ o.op=true->∃t x y,o.op=.store t x y:=by
  intro o h;cases ho:o.op with
  |store t x y=>exact⟨t,x,y,rfl⟩
  |_=>rw[ho]at h;cases h
 have hld:∀(o:Oper) (g:Operand->RV) (k n:Nat),Hok hs o g->Qx hs o=some (k,n)->X1S o.op=true->∃t off,o.op=.load t (.tmp k)/\g (.tmp k)=.v (.one (.at_ n off)):=by
  intro o g k n hH hh hl;obtain⟨off,hg⟩:=hH k n hh;obtain⟨t,x,ho⟩:=hcl o hl;unfold Qx at hh;rw[ho]at hh;cases x with
  | tmp k'=>
    simp only[N8]at hh;obtain⟨n',_,e⟩:=hh;cases e;exact⟨t,off,ho,hg⟩
  |_=>cases hh
 have hst:∀(o:Oper) (g:Operand->RV) (k n:Nat),Hok hs o g->Qx hs o=some (k,n)->ZQ o.op=true->∃t y off,o.op=.store t (.tmp k) y/\g (.tmp k)=.v (.one (.at_ n off)):=by
  intro o g k n hH hh hl;obtain⟨off,hg⟩:=hH k n hh;obtain⟨t,x,y,ho⟩:=hcs o hl;unfold Qx at hh;rw[ho]at hh;cases x with
  | tmp k'=>
    simp only[N8]at hh;obtain⟨n',_,e⟩:=hh;cases e;exact⟨t,y,off,ho,hg⟩
  |_=>cases hh
 have clsL:∀o:Oper,X1S o.op=true->Q9 o.op=.read:=by intro o h;obtain⟨t,x,ho⟩:=hcl o h;rw[ho];rfl
 have clsS:∀o:Oper,ZQ o.op=true->Q9 o.op=.write:=by intro o h;obtain⟨t,x,y,ho⟩:=hcs o h;rw[ho];rfl
 -- a block is read, another thing is written
 have rw1:Q9 j.op=.read->Q9 i.op=.write->swB hs j i=true->evR P O gj j.op=some rj->evW P O gi i.dst i.op=some (ri,Oij)->evR P Oij gj j.op=some rj:=by
  intro hcj hci hsw hr hw;unfold swB at hsw
  have fin:∀t k n off,j.op=.load t (.tmp k)->gj (.tmp k)=.v (.one (.at_ n off))->lkp Oij n=lkp O n->evR P Oij gj j.op=some rj:=by
   intro t k n off hop hg hl;rw[<-hr,hop];refine X2E fun x hx m hm=>?_;simp only[XX,NS]at hx;subst hx;rw[hg]at hm;cases(show n=m from hm);exact hl
  split at hsw
  .rename_i k n k' m hhj hhi;simp only[N4,bne_iff_ne,Ng]at hsw;obtain⟨hnm,h|h⟩:=hsw
   .obtain⟨t,off,hop,hg⟩:=hld j gj k n hHj hhj h.1;obtain⟨t',y,off',hop',hg'⟩:=hst i gi k' m hHi hhi h.2;rw[hop']at hw;exact fin t k n off hop hg (X5t hw hg' (Ne.symm hnm))
   rw[clsL i h.2]at hci;cases hci
  .rename_i q hhj hhi;obtain⟨k,n⟩:=q;simp only[N4]at hsw;obtain⟨t,off,hop,hg⟩:=hld j gj k n hHj hhj hsw.1;rw[hop]at hr;obtain⟨cs,hbox⟩:=X7e hr hg;rw[<-hop]at hr;refine fin t k n off hop hg ((X4C hsw.2 hw n).1 cs (fun d hd e=>?_) hbox);have hn:Qo i=true:=by simp[Qo,hci]
   have:=(ni hn d hd).1 (.tmp k);rw[hg]at this;exact this e.symm
  .simp only[N4]at hsw;rename_i q hhj hhi;rw[clsL i hsw.2]at hci;cases hci
  cases hsw
 have wr1:Q9 j.op=.write->Q9 i.op=.read->swB hs j i=true->evW P O gj j.dst j.op=some (rj,Oj)->evR P Oj gi i.op=some ri->evR P O gi i.op=some ri:=by
  intro hcj hci hsw hw hr;unfold swB at hsw
  have fin:∀t k n off,i.op=.load t (.tmp k)->gi (.tmp k)=.v (.one (.at_ n off))->lkp O n=lkp Oj n->evR P O gi i.op=some ri:=by
   intro t k n off hop hg hl;rw[<-hr,hop];refine X2E fun x hx m hm=>?_;simp only[XX,NS]at hx;subst hx;rw[hg]at hm;cases(show n=m from hm);exact hl
  split at hsw
  .rename_i k n k' m hhj hhi;simp only[N4,bne_iff_ne,Ng]at hsw;obtain⟨hnm,h|h⟩:=hsw
   .rw[clsL j h.1]at hcj;cases hcj
   obtain⟨t,off,hop,hg⟩:=hld i gi k' m hHi hhi h.2;obtain⟨t',y,off',hop',hg'⟩:=hst j gj k n hHj hhj h.1;rw[hop']at hw;exact fin t k' m off hop hg (X5t hw hg' hnm).symm
  .simp only[N4]at hsw;rename_i q hhj hhi;rw[clsL j hsw.1]at hcj;cases hcj
  .rename_i q hhj hhi;obtain⟨k,n⟩:=q;simp only[N4]at hsw;obtain⟨t,off,hop,hg⟩:=hld i gi k n hHi hhi hsw.2;rw[hop]at hr;obtain⟨cs,hbox⟩:=X7e hr hg;rw[<-hop]at hr;exact fin t k n off hop hg ((X4C hsw.1 hw n).2 cs hbox).symm
  cases hsw
 cases hj with
 |neutral hc h=>exact⟨Oij,hi,.neutral hc h⟩
 | alloc hc hd h=>
   cases hi with
   |neutral hc' h'=>exact⟨O,.neutral hc' h',.alloc hc hd h⟩
   |alloc hc' hd' h'=>exact A _ _ hc hd h rfl rfl (hmu i (by simp[hc']))
   |read hc' h'=>exact A _ _ hc hd h rfl rfl (hmu i (by simp[hc']))
   |call hc' ho hd' hf hts hcon hown honly hflat=>exact A _ _ hc hd h rfl rfl (hmu i (by simp[hc']))
   | write hc' h'=>
     refine A _ _ hc hd h rfl rfl ?_;cases hb:X0s j i with
     |true=>simpa only[X0s,hc,hc',Nk]using hb
     | false=>
       have:=nopair hb;cases hm:X0H i.op with
       |false=>rfl
       | true=>
         simp only[X0s,hc,hc',hm]at hb
         have hh:Qx hs i=none:=by
          unfold Qx;cases ho:i.op with
          |mapUpdate t m k v=>rfl
          |_=>first|rfl|(rw[ho]at hm;cases hm)
         have hia:X2y i.op=false:=by
          cases ho:i.op with
          |mapUpdate t m k v=>rfl
          |_=>first|rfl|(rw[ho]at hm;cases hm)
         unfold swB at this;rw[hh]at this;split at this
         .rename_i h1;cases h1
         .rw[hia]at this;simp at this
         .rename_i h1;cases h1
         cases this
 | read hc h=>
   have hia:=hmu j (by simp[hc]);cases hi with
   |neutral hc' h'=>exact⟨_,.neutral hc' h',.read hc h⟩
   |alloc hc' hd' h'=>exact Bq hc' hia
   |read hc' h'=>exact⟨_,.read hc' h',.read hc h⟩
   | call hc' ho hd' hf hts hcon hown honly hflat=>
     rename_i x args ts d f tvs fresh ob own es;refine⟨_,.call hc' ho hd' hf hts hcon hown honly hflat,?_⟩;cases ob with
     |none=>exact .read hc h
     | some o'=>
       obtain⟨n1,n2,n3⟩:=ni (by simp[Qo,hc']) d hd';exact(X6r (P:=P) (objs:=O) (g:=gj) (o:=j) (r:=rj) (q:=true) (d:=d) (ob:=o') hia n2 (fun _ e=>hne d d e hd' rfl) (fun x _=>n1 x) n3).1 _ (.read hc h)
   | write hc' h'=>
     have hsw:=nopair (by simp[X0s,hc,hc']);exact⟨_,.write hc' h',.read hc (rw1 hc hc' hsw h h')⟩
 | write hc h=>
   cases hi with
   |neutral hc' h'=>exact⟨_,.neutral hc' h',.write hc h⟩
   | alloc hc' hd' h'=>
     refine Bq hc' ?_;cases hb:X0s j i with
     |true=>simpa only[X0s,hc,hc',Nk]using hb
     | false=>
       have:=nopair hb;cases hm:X0H j.op with
       |false=>rfl
       | true=>
         have hh:Qx hs j=none:=by
          unfold Qx;cases ho:j.op with
          |mapUpdate t m k v=>rfl
          |_=>first|rfl|(rw[ho]at hm;cases hm)
         have hia:X2y j.op=false:=by
          cases ho:j.op with
          |mapUpdate t m k v=>rfl
          |_=>first|rfl|(rw[ho]at hm;cases hm)
         unfold swB at this;rw[hh]at this;split at this
         .rename_i h1 _;cases h1
         .rename_i h1 _;cases h1
         .rw[hia]at this;simp at this
         cases this
   | read hc' h'=>
     have hsw:=nopair (by simp[X0s,hc,hc']);exact⟨_,.read hc' (wr1 hc hc' hsw h h'),.write hc h⟩
   | write hc' h'=>
     have hsw:=nopair (by simp[X0s,hc,hc']);exfalso;unfold swB at hsw;split at hsw
     .simp only[N4,Ng]at hsw;rcases hsw.2 with h|h
      .rw[clsL j h.1]at hc;cases hc
      rw[clsL i h.2]at hc';cases hc'
     .simp only[N4]at hsw;rw[clsL j hsw.1]at hc;cases hc
     .simp only[N4]at hsw;rw[clsL i hsw.2]at hc';cases hc'
     cases hsw
   | call hc' ho hd' hf hts hcon hown honly hflat=>
     have hsw:=nopair (by simp[X0s,hc,hc']);exfalso;unfold swB at hsw;have hop:Qx hs i=none:=by unfold Qx;rw[ho]
     rw[hop]at hsw;split at hsw
     .rename_i h1;cases h1
     .simp only[N4]at hsw;rw[clsL j hsw.1]at hc;cases hc
     .rename_i h1;cases h1
     cases hsw
 | call hc ho hd hf hts hcon hown honly hflat=>
   rename_i x args ts d f tvs fresh ob own es;have hia:=hmu j (by simp[hc]);have hj:Eff P O gj j rj (X2O d ob O) ob.isNone:=.call hc ho hd hf hts hcon hown honly hflat;have hoj:Qx hs j=none:=by unfold Qx;rw[ho]
   have haj:X2y j.op=false:=by rw[ho];rfl
   have noj:∀o:Oper,swB hs j o=true->False:=by
    intro o hsw;unfold swB at hsw;rw[hoj]at hsw;split at hsw
    .rename_i h1 _;cases h1
    .rename_i h1 _;cases h1
    .rw[haj]at hsw;simp at hsw
    cases hsw
   cases hi with
   |neutral hc' h'=>exact⟨O,.neutral hc' h',hj⟩
   |alloc hc' hd' h'=>exact Bq hc' hia
   | read hc' h'=>
     refine⟨O,?_,hj⟩;cases ob with
     |none=>exact .read hc' h'
     | some o'=>
       have:=X6O (P:=P) (g:=gi) (d:=d) (ob:=o') (objs:=O) (op:=i.op) fun x _=>(nj (by simp[Qo,hc]) d hd).1 x;refine .read hc' ?_;rw[<-this];exact h'
   |write hc' h'=>exact(noj i (nopair (by simp[X0s,hc,hc']))).elim
   |call hc' ho' hd' hf' hts' hcon' hown' honly' hflat'=>exact(noj i (nopair (by simp[X0s,hc,hc']))).elim
theorem Xad {hs:List (Nat×Nat)} {O Oj Oij:List (Nat×Ob)} {gj gi:Operand->RV} {j i:Oper} {rj ri:RV} {qj qi:Bool} (hp:(pairH hs j i||dsB hs j i)=true) (hdst:Wj j.dst i.dst=false) (hj:Eff P O gj j rj Oj qj) (hi:Eff P Oj gi i ri Oij qi)
  (nj:Qo j=true->∀d,j.dst=some d->(∀x,¬(gi x).men d)/\Qi O=true/\∀n o,(n,o)∈O->n≠d/\¬o.men d) (ni:Qo i=true->∀d,i.dst=some d->(∀x,¬(gj x).men d)/\Qi O=true/\∀n o,(n,o)∈O->n≠d/\¬o.men d)
  (hHj:Hok hs j gj) (hHi:Hok hs i gi) (hDj:HokD hs j gj) (hDi:HokD hs i gi):
  ∃Oi,Eff P O gi i ri Oi qi/\Eff P Oi gj j rj Oij qj:=by
 rw[Ng]at hp;rcases hp with hp|hp
 .exact eff_swap hp hdst hj hi nj ni hHj hHi
 have hrd:∀o:Oper,X3O hs o=true->Q9 o.op=.read:=by
  intro o h;simp only[X3O,N4]at h;have h:=h.2.1;unfold X9b at h;split at h
  .assumption
  cases h
 have hwr:∀o:Oper,ZQ o.op=true->Q9 o.op=.write:=by
  intro o h;cases ho:o.op with
  |store t x y=>rfl
  |_=>rw[ho]at h;cases h
 simp only[dsB,Ng,N4]at hp;rcases hp with⟨hd,hst⟩|⟨hst,hd⟩
 .have e1:=hrd j hd;have e2:=hwr i hst;cases hj with
  |neutral hc h=>rw[e1]at hc;cases hc
  |alloc hc=>rw[e1]at hc;cases hc
  |write hc=>rw[e1]at hc;cases hc
  |call hc=>rw[e1]at hc;cases hc
  | read hc h=>
    cases hi with
    |neutral hc'=>rw[e2]at hc';cases hc'
    |alloc hc'=>rw[e2]at hc';cases hc'
    |read hc'=>rw[e2]at hc';cases hc'
    |call hc'=>rw[e2]at hc';cases hc'
    | write hc' h'=>
      exact⟨_,.write hc' h',.read hc (by rw[X2E (fun x hx n hn=>absurd hn (hDj hd x hx n))];exact h)⟩
 have e1:=hwr j hst;have e2:=hrd i hd;cases hj with
 |neutral hc h=>rw[e1]at hc;cases hc
 |alloc hc=>rw[e1]at hc;cases hc
 |read hc=>rw[e1]at hc;cases hc
 |call hc=>rw[e1]at hc;cases hc
 | write hc h=>
   cases hi with
   |neutral hc'=>rw[e2]at hc';cases hc'
   |alloc hc'=>rw[e2]at hc';cases hc'
   |write hc'=>rw[e2]at hc';cases hc'
   |call hc'=>rw[e2]at hc';cases hc'
   | read hc' h'=>
     exact⟨_,.read hc' (by rw[<-X2E (fun x hx n hn=>absurd hn (hDi hd x hx n))];exact h'),.write hc h⟩
theorem Z7 {o:Oper} {dst:Option Nat} {r:RV} {regs:List (Nat×RV)} (h:X5p dst (X35 ops o)=false):∀x∈XX o.op,opd (ZU dst r regs) x=opd regs x:=by
 cases dst with
 |none=>exact fun _ _=>rfl
 | some d=>
   refine opd_ins ?_;intro hm;simp only[X5p,X35]at h;have:(X8u ops o++X1Z (XX o.op)).contains d=true:=by simp[hm]
   rw[this]at h;cases h
theorem X30 {o:Oper} {dst:Option Nat} {r:RV} {s:HS} {objs:List (Nat×Ob)} (h:X5p dst (X35 ops o)=false):ZV ops o {s with regs:=ZU dst r s.regs,objs:=objs}=ZV ops o s:=by
 cases dst with
 |none=>rfl
 | some d=>
   unfold ZV;cases hg:o.guard with
   |none=>rfl
   | some p=>
     obtain⟨k,want⟩:=p;simp only;cases hd:(ops[k]?).bind (·.dst)with
     |none=>rfl
     | some e=>
       simp only
       have:e≠d:=by
        rintro rfl;simp only[X5p,X35,X8u,hg,hd]at h;simp at h
       simp only[ZU];rw[Xp this]
theorem Xaz {a b:Option Nat} (h:Wj a b=false) (x y:RV) (l:List (Nat×RV)):ZU a x (ZU b y l)=ZU b y (ZU a x l):=by
 cases a with
 |none=>rfl
 | some a=>
   cases b with
   |none=>rfl
   | some b=>
     refine QG ?_ x y l;rintro rfl;simp[Wj]at h
theorem X6p (a b:Option Nat):Wj a b=Wj b a:=by
 cases a<;>cases b<;>simp[Wj,Bool.beq_comm]
def isAt (n:Nat) (r:RV):Prop:=∃off,r=.v (.one (.at_ n off))\/∃b,r=.v (.one (.gd b (.at_ n off)))
def HokW (hs:List (Nat×Nat)) (o:Oper) (g:Operand->RV):Prop:=∀k n,Qx hs o=some (k,n)->isAt n (g (.tmp k))
def HokS (hs:List (Nat×Nat)) (o:Oper) (s:HS):Prop:=HokW hs o (opd s.regs)/\HokD hs o (opd s.regs)
theorem X9T {hs:List (Nat×Nat)} {o:Oper} {s:HS} (h:HokW hs o (opd s.regs)) {b q:Bool} {st fin:RV->RV} (hw:Way b q st fin):HokW hs o (fun x=>st (opd s.regs x)):=by
 intro k n hh;obtain⟨off,hg⟩:=h k n hh;refine⟨off,?_⟩;rcases hw with⟨_,rfl,_⟩|⟨_,rfl,_⟩
 .exact hg
 rcases hg with hg|⟨b',hg⟩
 .simp only[hg];exact .inl rfl
 simp only[hg,Ze,ungd];split
 .exact .inl rfl
 exact .inr ⟨_,rfl⟩
theorem X4p {hs:List (Nat×Nat)} {o:Oper} {g:Operand->RV} {O O':List (Nat×Ob)} {r:RV} {q:Bool} (h:HokW hs o g) (he:Eff P O g o r O' q):Hok hs o g:=by
 intro k n hh;obtain⟨off,hg|⟨b,hg⟩⟩:=h k n hh
 .exact⟨off,hg⟩
 exfalso;unfold Qx at hh;split at hh
 .rename_i t k' ho;simp only[N8]at hh;obtain⟨_,_,e⟩:=hh;cases e;cases he with
  |neutral hc=>rw[ho]at hc;cases hc
  |alloc hc=>rw[ho]at hc;cases hc
  |read hc h=>rw[ho]at h;simp only[evR,hg]at h;split at h<;>simp_all
  |write hc=>rw[ho]at hc;cases hc
  |call hc=>rw[ho]at hc;cases hc
 .rename_i t k' y ho;simp only[N8]at hh;obtain⟨_,_,e⟩:=hh;cases e;cases he with
  |neutral hc=>rw[ho]at hc;cases hc
  |alloc hc=>rw[ho]at hc;cases hc
  |read hc=>rw[ho]at hc;cases hc
  |write hc h=>rw[ho]at h;simp only[evW,hg]at h;split at h<;>simp_all
  |call hc=>rw[ho]at hc;cases hc
 cases hh
theorem X48 {hs:List (Nat×Nat)} {o:Oper} {k n:Nat} (h:Qx hs o=some (k,n)):Operand.tmp k∈XX o.op:=by
 unfold Qx at h;split at h
 .rename_i ho;simp only[N8]at h;obtain⟨_,_,e⟩:=h;cases e;rw[ho];simp[XX]
 .rename_i ho;simp only[N8]at h;obtain⟨_,_,e⟩:=h;cases e;rw[ho];simp[XX]
 cases h
theorem stp_swap {hs:List (Nat×Nat)} {j i:Oper} {s s1 s2:HS} (hx:X2X hs ops j i=true) (hj:Stp P ops j s s1) (hi:Stp P ops i s1 s2) (nj:QP s j) (ni:QP s i) (hHj:HokS hs j s) (hHi:HokS hs i s1):∃s1',Stp P ops i s s1'/\Stp P ops j s1' s2/\HokS hs i s/\HokS hs j s1':=by
 simp only[X2X,N4,Nk]at hx;obtain⟨⟨⟨hdst,hji⟩,hij⟩,hp⟩:=hx
 have hHi':HokS hs i s:=by
  refine⟨fun k n hh=>?_,fun hd x hx n=>?_⟩
  .have hg:=hHi.1 k n hh;obtain⟨_,_,_,⟨_,rfl⟩|⟨_,_,_,_,_,_,_,_,rfl⟩⟩:=hj
   .rw[<-Z7 hji _ (X48 hh)];exact hg
   rw[<-Z7 hji _ (X48 hh)];exact hg
  have hg:=hHi.2 hd x hx n;obtain⟨_,_,_,⟨_,rfl⟩|⟨_,_,_,_,_,_,_,_,rfl⟩⟩:=hj
  .rw[<-Z7 hji _ hx];exact hg
  rw[<-Z7 hji _ hx];exact hg
 have hHj':∀(r:RV) (objs:List (Nat×Ob)),HokS hs j {s with regs:=ZU i.dst r s.regs,objs:=objs}:=by
  intro r objs;refine⟨fun k n hh=>?_,fun hd x hx n=>?_⟩
  .have hg:=hHj.1 k n hh;rw[Z7 hij _ (X48 hh)];exact hg
  have hg:=hHj.2 hd x hx n;rw[Z7 hij _ hx];exact hg
 have hj0:=hj;obtain⟨hokj,bj,hgj,hj⟩:=hj;obtain⟨hoki,bi,hgi,hi⟩:=hi
 -- names stay free QL the other's step
 have keep:∀(a b:Oper) (t t1:HS),Wj a.dst b.dst=false->Stp P ops b t t1->QP t a->QP t1 a:=by
  intro a b t t1 hs hst hn hna d hd;refine X9D hst (fun _ e=>?_) (hn hna d hd);simp[Wj,hd,e]at hs
 have nsz:s1.nt=s.nt:=by
  rcases hj with⟨_,rfl⟩|⟨_,_,_,_,_,_,_,_,rfl⟩<;>rfl
 have hoki':Q3 s i.dst=true:=by
  unfold Q3 at*;cases hd:i.dst with
  |none=>rfl
  |some d=>rw[hd]at hoki;simp only at hoki⊢;rw[<-nsz];exact hoki
 have fin:∀(t:HS),t.nt=s.nt->Q3 t j.dst=true:=by
  intro t ht;unfold Q3 at*;cases hd:j.dst with
  |none=>rfl
  |some d=>rw[hd]at hokj;simp only at hokj⊢;rw[ht];exact hokj
 have comm:∀x y l,ZU i.dst x (ZU j.dst y l)=ZU j.dst y (ZU i.dst x l):=fun x y l=>Xaz (by rw[X6p];exact hdst) x y l;have asObjs:∀(r:List (Nat×RV)),({s with regs:=r}:HS)={s with regs:=r,objs:=s.objs}:=fun _=>rfl;rcases hj with⟨hbj,rfl⟩|⟨hnj,rj,Oj,qj,stj,fj,hwj,hej,rfl⟩
 .rw[asObjs,X30 hji]at hgi;rcases hi with⟨hbi,rfl⟩|⟨hni,ri,Oij,qi,sti,fi,hwi,hei,rfl⟩
  .refine⟨_,⟨hoki',bi,hgi,.inl ⟨hbi,rfl⟩⟩,⟨fin _ rfl,bj,?_,.inl ⟨hbj,?_⟩⟩,hHi',hHj' _ _⟩
   .rw[asObjs,X30 hij];exact hgj
   simp only;rw[comm]
  refine⟨_,⟨hoki',bi,hgi,.inr ⟨ni,ri,Oij,qi,sti,fi,hwi,X1m (fun x hx=>congrArg sti (Z7 hji x hx)) hei,rfl⟩⟩,⟨fin _ rfl,bj,?_,.inl ⟨hbj,?_⟩⟩,hHi',hHj' _ _⟩
  .rw[X30 hij];exact hgj
  simp only;rw[comm]
 rw[X30 hji]at hgi;rcases hi with⟨hbi,rfl⟩|⟨hni,ri,Oij,qi,sti,fi,hwi,hei,rfl⟩
 .have h1:Stp P ops i s {s with regs:=ZU i.dst (.v (.one .any)) s.regs}:=⟨hoki',bi,hgi,.inl ⟨hbi,rfl⟩⟩;refine⟨_,h1,⟨fin _ rfl,bj,?_,.inr ⟨keep j i _ _ hdst h1 nj,rj,Oj,qj,stj,fj,hwj,X1m (fun x hx=>congrArg stj (Z7 hij x hx).symm) hej,?_⟩⟩,hHi',hHj' _ _⟩
  .rw[asObjs,X30 hij];exact hgj
  simp only;rw[comm]
 have hei':Eff P Oj (fun x=>sti (opd s.regs x)) i ri Oij qi:=X1m (fun x hx=>congrArg sti (Z7 hji x hx)) hei
 obtain⟨Oi,h1,h2⟩:=Xad hp hdst hej hei' (fun hn d hd=>⟨fun x=>(X1h hwi (X0A (nj hn d hd) x)).1,X2H (nj hn d hd),Zu (nj hn d hd)⟩)
  (fun hn d hd=>⟨fun x=>(X1h hwj (X0A (ni hn d hd) x)).1,X2H (ni hn d hd),Zu (ni hn d hd)⟩) (X4p (X9T hHj.1 hwj) hej) (X4p (X9T hHi'.1 hwi) hei') (fun hd x hx n=>(X1h hwj (hHj.2 hd x hx n)).1) (fun hd x hx n=>(X1h hwi (hHi'.2 hd x hx n)).1)
 have hs1:Stp P ops i s {s with regs:=ZU i.dst (fi ri) s.regs,objs:=Oi}:=⟨hoki',bi,hgi,.inr ⟨ni,ri,Oi,qi,sti,fi,hwi,h1,rfl⟩⟩;refine⟨_,hs1,⟨fin _ rfl,bj,?_,.inr ⟨keep j i _ _ hdst hs1 nj,rj,Oij,qj,stj,fj,hwj,X1m (fun x hx=>congrArg stj (Z7 hij x hx).symm) h2,?_⟩⟩,hHi',hHj' _ _⟩
 .rw[X30 hij];exact hgj
 simp only;rw[comm]
def W7 (a b:Oper):Bool:=Qo a&&Qo b&&Wj a.dst b.dst
theorem Wd {o b:Oper} {s s1:HS} (h:Stp P ops o s s1) (hc:W7 o b=false) (hn:QP s b):QP s1 b:=by
 intro hb d hd;refine X9D h (fun ho e=>?_) (hn hb d hd);simp[W7,ho,hb,e,hd,Wj]at hc
def X1D (P:Program) (ops:Array Oper) (hs:List (Nat×Nat)):List Oper->HS->(HS->Prop)->Prop
 |[],s,K=>K s
 |o::l,s,K=>∃s1,Stp P ops o s s1/\HokS hs o s/\X1D P ops hs l s1 K
theorem hok_nil {o:Oper} {s:HS}:HokS [] o s:=by
 refine⟨fun k n h=>?_,fun h=>by simp[X3O]at h⟩;unfold Qx at h;split at h<;>cases h
theorem X3M {K:HS->Prop}:∀(l:List Oper) (s:HS),l.Pairwise (fun a b=>W7 a b=false)->(∀o∈l,QP s o)->wpR P ops l s K->X1D P ops [] l s K
 |[],_,_,_,h=>h
 | o::l,s,hp,hn,h=>by
   obtain⟨s1,h1,h2⟩:=X1Q (hn o (by simp)) h;have hp':=NV.1 hp;exact⟨s1,h1,hok_nil,X3M l s1 hp'.2 (fun p hpl=>Wd h1 (hp'.1 p hpl) (hn p (by simp[hpl]))) h2⟩
def noMen (r:RV):Bool:=
 match r with
 | .v (.one (.c _))=>true
 | .v (.one (.gd _ (.c _)))=>true
 |_=>false
theorem noMen_ok {r:RV} (h:noMen r=true) (n:Nat):¬r.men n:=by
 intro hm;have hm:=RV.menB_iff.2 hm;unfold noMen at h;split at h
 .simp[RV.menB,TV.menB,CV.menB]at hm
 .simp[RV.menB,TV.menB,CV.menB]at hm
 cases h
def hokB (hs:List (Nat×Nat)) (o:Oper) (s:HS):Bool:=
 (match Qx hs o with
 | some (k,n)=>match opd s.regs (.tmp k)with
   | .v (.one (.at_ m _))=>m==n
   | .v (.one (.gd _ (.at_ m _)))=>m==n
   |_=>false
 |none=>true)&&(!X3O hs o||(XX o.op).all fun x=>noMen (opd s.regs x))
def evsH (P:Program) (ops:Array Oper) (hs:List (Nat×Nat)):List Oper->HS->Option HS
 |[],s=>some s
 | o::l,s=>if hokB hs o s=true then match evs P ops [o] s with
   |some s'=>evsH P ops hs l s'
   |none=>none
   else none
theorem X5v {hs:List (Nat×Nat)} {o:Oper} {s:HS} (h:hokB hs o s=true):HokS hs o s:=by
 unfold hokB at h;rw[N4]at h;obtain⟨h,hdat⟩:=h;refine⟨fun k n hh=>?_,fun hd x hx n=>?_⟩
 rotate_left
 .rw[hd]at hdat;simp only[Bool.not_true,Bool.false_or,Nh]at hdat;exact noMen_ok (hdat x hx) n
 rw[hh]at h;simp only at h;split at h
 .rename_i m off hg;simp only[beq_iff_eq]at h;subst h;exact⟨off,.inl hg⟩
 .rename_i b m off hg;simp only[beq_iff_eq]at h;subst h;exact⟨off,.inr ⟨b,hg⟩⟩
 cases h
theorem X2p {hs:List (Nat×Nat)} {K:HS->Prop}:∀(l:List Oper) (s s':HS),l.Pairwise (fun a b=>W7 a b=false)->(∀o∈l,QP s o)->evsH P ops hs l s=some s'->K s'->X1D P ops hs l s K
 |[],s,s',_,_,h,hk=>by cases h;exact hk
 | o ::l,s,s',hp,hn,h,hk=>by
   unfold evsH at h;split at h
   .rename_i hb;split at h
    .rename_i s1 he;have hw:wpR P ops [o] s (fun t=>t=s1):=X0G _ _ _ he rfl;obtain⟨s2,h1,h2⟩:=X1Q (hn o (by simp)) hw;have e:s2=s1:=h2;subst e;have hp':=NV.1 hp;exact⟨s2,h1,X5v hb,X2p l s2 s' hp'.2 (fun p hpl=>Wd h1 (hp'.1 p hpl) (hn p (by simp[hpl]))) h hk⟩
    cases h
   cases h
theorem pull {hs:List (Nat×Nat)} {oi:Oper} {l2:List Oper} {K:HS->Prop}:∀(l1:List Oper) (s:HS),(∀j∈l1,X2X hs ops j oi=true)->(∀j∈l1,W7 oi j=false/\W7 j oi=false)->(∀j∈l2,W7 oi j=false)->
  (l1++l2).Pairwise (fun a b=>W7 a b=false)->QP s oi->(∀o∈l1++l2,QP s o)->X1D P ops hs (l1++oi::l2) s K->
  ∃s',Stp P ops oi s s'/\HokS hs oi s/\X1D P ops hs (l1++l2) s' K/\∀o∈l1++l2,QP s' o
 | [],s,_,_,h2,_,hni,hn,hw=>by
   obtain⟨s',h1,hH,h3⟩:=hw;exact⟨s',h1,hH,h3,fun o ho=>Wd h1 (h2 o ho) (hn o ho)⟩
 | j::l1,s,hx,hc1,hc2,hpw,hni,hn,hw=>by
   have hnj:QP s j:=hn j (by simp);obtain⟨s1,hj,hHj,hw1⟩:=hw;rw[List.cons_append]at hpw;have hpw':=NV.1 hpw;have hcj:=hc1 j (by simp)
   obtain⟨s2,hi,hHi,hw2,hn2⟩:=pull l1 s1 (fun k hk=>hx k (by simp[hk])) (fun k hk=>hc1 k (by simp[hk])) hc2 hpw'.2 (Wd hj hcj.2 hni)
    (fun o ho=>Wd hj (hpw'.1 o ho) (hn o (by simp only[List.cons_append];exact Nx _ ho))) hw1
   obtain⟨s1',hi',hj',hHi',hHj'⟩:=stp_swap (hx j (by simp)) hj hi hnj hni hHj hHi;refine⟨s1',hi',hHi',⟨s2,hj',hHj',hw2⟩,fun o ho=>?_⟩;refine Wd hi' ?_ (hn o ho);rw[List.cons_append]at ho;rcases Ni.1 ho with rfl|ho
   .exact hcj.1
   rcases NC.1 ho with ho|ho
   .exact(hc1 o (by simp[ho])).1
   exact hc2 o ho
def X0K (ops:Array Oper):Nat->Nat->Nat->Bool
 |0,_,_=>false
 | n+1,i,j=>match ops[i]? with
   |some o=>o.after.toList.any fun e=>Region.binds .any e&&(e.on==j||X0K ops n e.on j)
   |none=>false
def X3P (hs:List (Nat×Nat)) (ops:Array Oper):Bool:=
 (List.range ops.size).all fun i=>match ops[i]? with
  |none=>true
  | some o=>(o.after.toList.all fun e=> !Region.binds .any e||decide (e.on<i))&&
    (List.range i).all fun j=>match ops[j]? with
     |none=>true
     |some p=>(X0K ops ops.size i j||X2X hs ops p o)&& !W7 p o&& !W7 o p
def X1H (ops:List Oper) (s:HS):Bool:=ops.all fun o=> !Qo o||match o.dst with|some d=>QV d s|none=>true
def Xy (ops:Array Oper) (listed:Array Bool):List Nat:=(List.range ops.size).filter fun i=> !listed.getD i true
def Wc (ops:Array Oper) (l:List Nat):List Oper:=l.filterMap (ops[·]?)
theorem Zx {listed:Array Bool} {i:Nat}:i∈Region.ready .any ops listed↔i<ops.size/\listed.getD i true=false/\∃o,ops[i]? =some o/\∀e∈o.after,Region.binds .any e=true->listed.getD e.on false=true:=by
 unfold Region.ready;simp only[Dv,List.mem_range,N4,Nk];constructor
 .rintro⟨h1,h2,h3⟩;refine⟨h1,h2,ops[i],by simp,?_⟩;simp only[D5 h1,Option.map_some,Option.getD_some,Array.all_eq_true_iff_forall_mem,Ng,Nk]at h3;intro e he hb;rcases h3 e he with h|h
  .rw[hb]at h;cases h
  exact h
 rintro⟨h1,h2,o,ho,h3⟩;refine⟨h1,h2,?_⟩;simp only[ho,Option.map_some,Option.getD_some,Array.all_eq_true_iff_forall_mem,Ng,Nk];intro e he;cases hb:Region.binds .any e with
 |false=>exact .inl rfl
 |true=>exact .inr (h3 e he hb)
theorem X3K {listed:Array Bool} (hdc:∀i o,ops[i]? =some o->listed.getD i false=true->∀e∈o.after,Region.binds .any e=true->listed.getD e.on false=true):
  ∀(n i j:Nat) (o:Oper),ops[i]? =some o->(∀e∈o.after,Region.binds .any e=true->listed.getD e.on false=true)->X0K ops n i j=true->listed.getD j false=true
 |0,_,_,_,_,_,h=>by cases h
 | n+1,i,j,o,ho,hr,h=>by
   simp only[X0K,ho,List.any_eq_true,N4,Ng,beq_iff_eq]at h;obtain⟨e,he,hb,h⟩:=h;replace he:=Array.mem_toList_iff.1 he;have hl:=hr e he hb;rcases h with rfl|h
   .exact hl
   cases hoe:ops[e.on]? with
   |none=>cases n<;>simp[X0K,hoe]at h
   |some p=>exact X3K hdc n e.on j p hoe (hdc e.on p hoe hl) h
theorem X23 {hs:List (Nat×Nat)} (hd:X3P hs ops=true) {i:Nat} {o:Oper} (ho:ops[i]? =some o):(∀e∈o.after,Region.binds .any e=true->e.on<i)/\
  ∀j p,j<i->ops[j]? =some p->(X0K ops ops.size i j=true\/X2X hs ops p o=true)/\W7 p o=false/\W7 o p=false:=by
 have hi:i<ops.size:=(NO.1 ho).1;unfold X3P at hd;rw[Nh]at hd;have:=hd i (by simpa using hi);simp only[ho,N4,Nh,Ng,Nk,N7]at this;refine⟨fun e he hb=>?_,fun j p hj hp=>?_⟩
 .rcases this.1 e (Array.mem_toList_iff.2 he)with h|h
  .rw[hb]at h;cases h
  exact h
 have h2:=this.2 j (by simpa using hj);simp only[hp,N4,Ng,Nk]at h2;exact⟨h2.1.1,h2.1.2,h2.2⟩
theorem QN {listed:Array Bool} {i:Nat}:i∈Xy ops listed↔i<ops.size/\listed.getD i true=false:=by
 simp[Xy]
theorem WA (listed:Array Bool):(Xy ops listed).Pairwise (· < ·):=List.Pairwise.filter _ List.pairwise_lt_range
theorem X31 {l:List Nat} {o:Oper}:o∈Wc ops l↔∃i∈l,ops[i]? =some o:=by simp[Wc]
theorem Zr (l m:List Nat):Wc ops (l++m)=Wc ops l++Wc ops m:=by simp[Wc]
theorem X4w {i:Nat} {o:Oper} (h:ops[i]? =some o) (l:List Nat):Wc ops (i::l)=o::Wc ops l:=by simp[Wc,h]
theorem WH {hs:List (Nat×Nat)} (hd:X3P hs ops=true):∀(l:List Nat),l.Pairwise (· < ·)->(Wc ops l).Pairwise (fun a b=>W7 a b=false)
 |[],_=>by simp[Wc]
 | i ::l,h=>by
   have h':=NV.1 h;cases ho:ops[i]? with
   | none=>
     have:Wc ops (i::l)=Wc ops l:=by simp[Wc,ho]
     rw[this];exact WH hd l h'.2
   | some o=>
     rw[X4w ho];refine NV.2 ⟨fun p hp=>?_,WH hd l h'.2⟩;obtain⟨k,hk,hpk⟩:=X31.1 hp;exact((X23 hd hpk).2 i o (h'.1 k hk) ho).2.1
theorem X93 {listed:Array Bool} {i:Nat} (hsz:listed.size=ops.size) (hi:i∈Xy ops listed):
  ∃l1 l2,Xy ops listed=l1++i::l2/\Xy ops (listed.setIfInBounds i true)=l1++l2/\(∀j∈l1,j<i)/\(∀j∈l2,i<j):=by
 obtain⟨l1,l2,he⟩:=List.append_of_mem hi;have hs:=WA (ops:=ops) listed;rw[he]at hs;obtain⟨h1,h2,h3⟩:=List.pairwise_append.1 hs;have h2':=NV.1 h2;have hlt:∀j∈l1,j<i:=fun j hj=>h3 j hj i (by simp);refine⟨l1,l2,he,?_,hlt,h2'.1⟩;have hii:i<listed.size:=by rw[hsz];exact(QN.1 hi).1
 have:Xy ops (listed.setIfInBounds i true)=(Xy ops listed).filter (fun j=>decide (j≠i)):=by
  unfold Xy;rw[List.filter_filter];apply List.filter_congr;intro j hj;by_cases e:j=i
  .subst e;simp[hii]
  simp only[Nq,Ny (Ne.symm e)];simp[e]
 rw[this,he,Dp,List.filter_cons];simp only[ne_eq,not_true_eq_false,decide_false,Nz,NW];rw[Dl.2 fun j hj=>by simp;exact Nat.ne_of_lt (hlt j hj),Dl.2 fun j hj=>by simp;exact Nat.ne_of_gt (h2'.1 j hj)]
theorem XaP {hs:List (Nat×Nat)} {w0:World} {B:Nat->Prop} {U:Nat->Option Value} {K:HS->Prop} {Q:Exit->Act->World->Prop} (hd:X3P hs ops=true):∀(fuel:Nat) (listed:Array Bool) (s:HS) (F:Nat->Prop) (T:Nat->Value) (a:Act) (w:World),
  listed.size=ops.size->(∀i o,ops[i]? =some o->listed.getD i false=true->∀e∈o.after,Region.binds .any e=true->listed.getD e.on false=true)->
  (Xy ops listed).length<=fuel->(∀o∈Wc ops (Xy ops listed),QP s o)->Rel w0 B U F T s a w->X1D P ops hs (Wc ops (Xy ops listed)) s K->
  (∀s' F' T' a' w',K s'->(∀b,F b->F' b)->(∀b,F' b->F b\/¬B b)->Rel w0 B U F' T' s' a' w'->Q .normal a' w')->wpAny P .any ops Q fuel listed a w:=by
 -- where nothing can come up, nothing is left
 have done:∀(listed:Array Bool),listed.size=ops.size->Region.ready .any ops listed=[]->Xy ops listed=[]:=by
  intro listed hsz hr;cases hres:Xy ops listed with
  |nil=>rfl
  | cons i l=>
    exfalso;have hi:i∈Xy ops listed:=by rw[hres];simp
    obtain⟨hlt,hun⟩:=QN.1 hi
    have:i∈Region.ready .any ops listed:=by
     refine Zx.2 ⟨hlt,hun,ops[i],by simp[hlt],fun e he hb=>?_⟩;have hon:=(X23 hd (i:=i) (o:=ops[i]) (by simp[hlt])).1 e he hb
     have hnot:e.on∉Xy ops listed:=by
      intro hm;have hs:=WA (ops:=ops) listed;rw[hres]at hs hm;rcases Ni.1 hm with e'|hm
      .omega
      have:=(NV.1 hs).1 _ hm;omega
     rw[QN]at hnot;have hel:e.on<listed.size:=by omega
     rw[Nq,D5 hel]at hnot⊢;simp only[Option.getD_some,not_and,Bool.not_eq_false]at hnot⊢;exact hnot (by omega)
    rw[hr]at this;cases this
 intro fuel
 induction fuel with
 | zero=>
   intro listed s F T a w hsz hdc hlen hn hr hw hK;have h0:Xy ops listed=[]:=Np (by omega);refine⟨?_,?_⟩
   .cases hre:Region.ready .any ops listed with
    |nil=>rfl
    | cons i l=>
      exfalso;have hi:i∈Region.ready .any ops listed:=by rw[hre];simp
      obtain⟨h1,h2,_⟩:=Zx.1 hi;have:i∈Xy ops listed:=QN.2 ⟨h1,h2⟩;rw[h0]at this;cases this
   rw[h0]at hw;exact hK s F T a w hw (fun _ h=>h) (fun _ h=>.inl h) hr
 | succ fuel ih=>
   intro listed s F T a w hsz hdc hlen hn hr hw hK;refine⟨fun h0=>?_,fun i hi=>?_⟩
   .rw[done listed hsz h0]at hw;exact hK s F T a w hw (fun _ h=>h) (fun _ h=>.inl h) hr
   obtain⟨hlt,hun,o,ho,hpre⟩:=Zx.1 hi;have hir:i∈Xy ops listed:=QN.2 ⟨hlt,hun⟩;obtain⟨l1,l2,he,he',h1,h2⟩:=X93 hsz hir;have hsort:=WA (ops:=ops) listed;rw[he]at hw hn;rw[Zr,X4w ho]at hw hn
   have hx:∀p∈Wc ops l1,X2X hs ops p o=true/\W7 p o=false/\W7 o p=false:=by
    intro p hp;obtain⟨j,hj,hpj⟩:=X31.1 hp;have h3:=(X23 hd ho).2 j p (h1 j hj) hpj;refine⟨h3.1.resolve_left fun hpd=>?_,h3.2⟩;have hjl:=X3K hdc ops.size i j o ho hpre hpd;have hjr:j∈Xy ops listed:=by rw[he];simp[hj]
    have hjun:=(QN.1 hjr).2;have hjs:j<listed.size:=by rw[hsz];exact(QN.1 hjr).1
    rw[Nq,D5 hjs]at hjl hjun;simp only[Option.getD_some]at hjl hjun;rw[hjl]at hjun;cases hjun
   have hpw:(Wc ops l1++Wc ops l2).Pairwise (fun a b=>W7 a b=false):=by
    rw[<-Zr];refine WH hd _ ?_;rw[<-he'];exact WA _
   obtain⟨s',hst,_,hw',hn'⟩:=pull (P:=P) (ops:=ops) (hs:=hs) (oi:=o) (l2:=Wc ops l2) (K:=K) (Wc ops l1) s (fun p hp=>(hx p hp).1) (fun p hp=>⟨(hx p hp).2.2,(hx p hp).2.1⟩)
    (fun p hp=>by
     obtain⟨j,hj,hpj⟩:=X31.1 hp
     exact((X23 hd hpj).2 i o (h2 j hj) ho).2.1) hpw (hn o (by simp)) (fun p hp=>hn p (by
      rcases NC.1 hp with hp|hp
      .simp[hp]
      simp[hp])) hw
   refine X6X ho hr hst fun F' T' a' w' h3 h4 hr2=>?_;refine ih (listed.setIfInBounds i true) s' F' T' a' w' (by simpa using hsz) ?_ ?_ ?_ hr2 ?_ fun s3 F3 γ3 a3 w3 hk3 h5 h6 hr3=>?_
   .intro k p hp hk e hee hb
    have hmono:∀x,listed.getD x false=true->(listed.setIfInBounds i true).getD x false=true:=by
     intro x hx';by_cases ex:x=i
     .subst ex;simp[hsz,hlt]
     rw[Nq,Ny (Ne.symm ex),<-Array.getD_eq_getD_getElem?];exact hx'
    by_cases ek:k=i
    .subst ek;rw[ho]at hp;cases hp;exact hmono _ (hpre e hee hb)
    rw[Nq,Ny (Ne.symm ek),<-Array.getD_eq_getD_getElem?]at hk;exact hmono _ (hdc k p hp hk e hee hb)
   .rw[he'];rw[he]at hlen;simp only[Nt,List.length_cons]at hlen⊢;omega
   .rw[he',Zr];exact hn'
   .rw[he',Zr];exact hw'
   exact hK s3 F3 γ3 a3 w3 hk3 (fun b hb=>h5 b (h3 b hb)) (fun b hb=>(h6 b hb).elim (h4 b) .inr) hr3
theorem X63 {T:Type}:∀(l:List T),(List.range l.length).filterMap (l[·]?)=l
 |[]=>rfl
 | x::l=>by
   rw[List.length_cons,List.range_succ_eq_map,List.filterMap_cons];simp only[List.getElem?_cons_zero,List.filterMap_map];congr 1;exact X63 l
theorem X4Q {hs:List (Nat×Nat)} {id:Nat} {s:HS} {Q:Exit->HS->Prop} (hm:P.follows .mixedOrders=true) (hd:X3P hs ops=true) (hc:X1H ops.toList s=true)
  (h:ops.toList.Pairwise (fun a b=>W7 a b=false)->(∀o∈ops.toList,QP s o)->X1D P ops hs ops.toList s (Q .normal)):HT P (.region id ops true) s Q:=by
 intro w0 B U F T a w hr
 have hrest:Xy ops (Array.replicate ops.size false)=List.range ops.size:=by
  unfold Xy;refine Dl.2 fun i hi=>?_;have:i<ops.size:=by simpa using hi
  simp[this]
 have hopers:Wc ops (List.range ops.size)=ops.toList:=by
  unfold Wc;have:=X63 ops.toList;simpa using this
 have hok:∀o∈ops.toList,QP s o:=by
  intro o ho hn d hdd;unfold X1H at hc;rw[Nh]at hc;have:=hc o ho;simpa[hn,hdd]using this
 have hruns:X1D P ops hs ops.toList s (Q .normal):=by
  refine h ?_ hok;rw[<-hopers];exact WH hd _ List.pairwise_lt_range
 refine wp_region_any hm (XaP (P:=P) (ops:=ops) (hs:=hs) (w0:=w0) (B:=B) (U:=U) (K:=Q .normal) hd ops.size (Array.replicate ops.size false) s F T a {w with drawn:=w.drawn+1} (by simp) ?_ ?_ ?_ ?_ ?_ fun s' F' T' a' w' hk h1 h2 h3=>⟨s',F',T',hk,h1,h2,h3⟩)
 .intro i o ho hl;have hi:i<ops.size:=(NO.1 ho).1;simp[hi]at hl
 .rw[hrest];simp
 .rw[hrest,hopers];exact hok
 .exact⟨hr.heap.drew,hr.defers,hr.nt,fun k r hk=>(hr.regs k r hk).mono (w:=w) (w':={w with drawn:=w.drawn+1}) (fun _ h=>h) fun _ _=>rfl⟩
 rw[hrest,hopers];exact hruns
def drawB (ops:Array Oper):Bool:=X3P [] ops
theorem X9H {id:Nat} {s:HS} {Q:Exit->HS->Prop} (hm:P.follows .mixedOrders=true) (hd:drawB ops=true) (hc:X1H ops.toList s=true) (h:wpR P ops ops.toList s (Q .normal)):HT P (.region id ops true) s Q:=
 X4Q hm hd hc fun hp hok=>X3M _ _ hp hok h
theorem Q1 {id:Nat} {s s':HS} {Q:Exit->HS->Prop} (hm:P.follows .mixedOrders=true) (hd:drawB ops=true) (hc:X1H ops.toList s=true) (h:evs P ops ops.toList s=some s') (hq:Q .normal s'):HT P (.region id ops true) s Q:=
 X9H hm hd hc (X0G _ _ _ h hq)
theorem Xx {id:Nat} {s s':HS} {p:Prop} {Q:Exit->HS->Prop} (cs:List CR) (hm:P.follows .mixedOrders=true) (hd:drawB ops=true) (hc:X1H ops.toList s=true) (h:evc P ops ops.toList s cs=some (s',p)) (hp:p) (hq:Q .normal s'):HT P (.region id ops true) s Q:=
 X9H hm hd hc (Qn _ _ _ _ _ h hp hq)
theorem X2V {id:Nat} (hs:List (Nat×Nat)) {s s':HS} {Q:Exit->HS->Prop} (hm:P.follows .mixedOrders=true) (hd:X3P hs ops=true) (hc:X1H ops.toList s=true) (h:evsH P ops hs ops.toList s=some s') (hq:Q .normal s'):HT P (.region id ops true) s Q:=
 X4Q hm hd hc fun hp hok=>X2p _ _ _ hp hok h hq
end
def X5r:Nat->List (Nat×Nat×TypeId)->Option Nat
 |off,[]=>some off
 |off,(o,n,_)::l=>if o=off then X5r (off+n) l else none
def X74 (P:Program) (fs:Array Field):List (Nat×Nat×TypeId):=fs.toList.map fun f=>(f.offset,P.cellsOf f.type,f.type)
def segsA (P:Program) (n:Nat) (e:TypeId):List (Nat×Nat×TypeId):=(List.range n).map fun i=>(i*P.cellsOf e,P.cellsOf e,e)
def X3c (P:Program) (t:TypeId):Bool:=
 match P.underlying t with
 |some (.struct fs)=>X5r 0 (X74 P fs)==some (P.cellsOf t)&&(X74 P fs).all fun x=>decide (x.2.2<P.types.size)
 |some (.array n e)=>X5r 0 (segsA P n e)==some (P.cellsOf t)&&decide (e<P.types.size)
 |some (.slice e)=>decide (0<P.cellsOf e)&&decide (e<P.types.size)
 |_=>true
def X6V (P:Program):Prop:=∀t,t<P.types.size->X3c P t=true
def Qv (P:Program):Nat->TypeId->List CD->Prop
 |0,_,_=>False
 | k+1,t,ds=>match P.underlying t with
   |some .bool=>∃b,ds=[.lit (.bool b)]
   |some (.int k)=>∃n,ds=[.lit (.int k n)]/\(Lit.int k n).wf=true
   |some .string=>∃s,ds=[.lit (.string s)]/\s.size<=maxLen
   |some (.slice e)=>∃rows,ds=[.sl (P.cellsOf e) rows]/\(rows.length<=maxLen/\rows.length*P.bytesOf e<=reachBytes)/\∀r∈rows,r.length=P.cellsOf e/\Qv P k e r
   |some (.struct fs)=>ds.length=P.cellsOf t/\∀x∈X74 P fs,Qv P k x.2.2 ((ds.drop x.1).take x.2.1)
   |some (.array n e)=>ds.length=P.cellsOf t/\∀x∈segsA P n e,Qv P k x.2.2 ((ds.drop x.1).take x.2.1)
   |_=>True
section
variable {P:Program} {H:Type} {enc:TypeId×Value->H} {w:World} {base:Nat} {spare:Nat->Bool} {held:Bool}
def inMem (w:World):Nat->Prop:=fun b=>b<w.heap.size
structure Reads (P:Program) (w:World) (k:Nat) (t:TypeId) (cs:List Value) (ds:List CD):Prop where
 len:ds.length=cs.length
 rel:∀(j:Nat) d u,ds[j]? =some d->cs[j]? =some u->CRel (inMem w) w d u
 one:∀u∈cs,u.oneCell'=true
 shape:Qv P k t ds
theorem X1i {k:Nat} {t:TypeId} {v:Value} (h1:v.oneCell'=true) (hs:Qv P k t [.lit v]):Reads P w k t [v] [.lit v]:=
 ⟨rfl,fun j d u hd hu=>by
  cases j with
  |zero=>cases hd;cases hu;exact .lit _
  |succ j=>simp at hd,by simpa using h1,hs⟩
theorem X02 {T Y:Type} {f:T->Option Y}:∀{l:List T} {ys:List Y},l.mapM f=some ys->ys.length=l.length/\∀(i:Nat) x,l[i]? =some x->∃y,ys[i]? =some y/\f x=some y
 |[],ys,h=>by cases h;simp
 | x::l,ys,h=>by
   rw[List.mapM_cons]at h;simp only[Option.bind_eq_bind,Option.bind_eq_some_iff,Option.pure_def,Option.some.injEq]at h;obtain⟨y,hy,ys',hys,rfl⟩:=h;obtain⟨h1,h2⟩:=X02 hys;refine⟨by simp[h1],fun i z hz=>?_⟩;cases i with
   |zero=>cases hz;exact⟨y,rfl,hy⟩
   |succ i=>exact h2 i z hz
theorem X8V {a:Addr} {n:Nat} {cs:List Value} (h:w.cells? base a n=some cs):cs.length=n/\∀i,i<n->∃u,cs[i]? =some u/\w.cell? (a.add i)=some u:=by
 unfold World.cells? at h;split at h
 .obtain⟨h1,h2⟩:=X02 h;refine⟨by simpa using h1,fun i hi=>?_⟩;exact h2 i i (by simp[hi])
 cases h
theorem X8N {a:Addr} {u:Value} (h:w.cell? a=some u):a.block<w.heap.size/\a.spot=none:=by
 unfold World.cell? at h;split at h
 .rename_i c e fr hb;refine⟨?_,?_⟩
  .rcases Nat.lt_or_ge a.block w.heap.size with h|h
   .exact h
   simp[Array.getElem?_eq_none h]at hb
  cases hs:a.spot with
  |none=>rfl
  |some x=>simp[hs]at h
 cases h
theorem X5k {k:Nat} {cs:List Value}:∀(l:List (Nat×Nat×TypeId)) (off total:Nat),X5r off l=some total->cs.length=total->
  (∀x∈l,∃ds,Reads P w k x.2.2 ((cs.drop x.1).take x.2.1) ds)->
  off<=total/\∃ds:List CD,ds.length=total - off/\(∀(j:Nat) d u,ds[j]? =some d->cs[off+j]? =some u->CRel (inMem w) w d u)/\(∀(j:Nat) u,off<=j->cs[j]? =some u->u.oneCell'=true)/\
   ∀x∈l,off<=x.1/\Qv P k x.2.2 ((ds.drop (x.1 - off)).take x.2.1)
 | [],off,total,h,hl,_=>by
   cases h;refine⟨ND _,[],by simp,by simp,fun j u hj hu=>?_,by simp⟩;rw[NB (by omega)]at hu;cases hu
 | (o, n,t)::l,off,total,h,hl,hx=>by
   unfold X5r at h;split at h
   .rename_i ho;subst ho;obtain⟨hle,ds2,h1,h2,h3,h4⟩:=X5k l _ _ h hl fun x hxl=>hx x (by simp[hxl]);obtain⟨ds1,r1,r2,r3,r4⟩:=hx (o,n,t) (by simp);simp only at r1 r2 r3 r4;have hn:ds1.length=n:=by rw[r1,Ns,D2];omega
    refine⟨by omega,ds1++ds2,by rw[Nt,h1,hn];omega,fun j d u hd hu=>?_,fun j u hj hu=>?_,fun x hxl=>?_⟩
    .by_cases hj:j<n
     .rw[Nm (by omega)]at hd;refine r2 j d u hd ?_;rw[Nv,N9 hj,No];exact hu
     rw[Nl (by omega),hn]at hd;refine h2 _ d u hd ?_;rw[<-hu];congr 1;omega
    .by_cases hj':j<o+n
     .refine r3 u ?_;refine N3 (i:=j - o) ?_;rw[Nv,N9 (by omega),No,<-hu];congr 1;omega
     exact h3 j u (by omega) hu
    rcases Ni.1 hxl with rfl|hxl
    .refine⟨ND _,?_⟩;simp only[Nat.sub_self,List.drop_zero];rw[List.take_append_of_le_length (by omega),List.take_of_length_le (by omega)];exact r4
    obtain⟨h5,h6⟩:=h4 x hxl;refine⟨by omega,?_⟩;rw[List.drop_append,List.drop_of_length_le (by omega),List.nil_append,hn];rw[show x.1 - o - n=x.1 - (o+n) by omega];exact h6
   cases h
theorem X4D {k:Nat} {t:TypeId} {cs:List Value} {l:List (Nat×Nat×TypeId)} (ht:X5r 0 l=some (P.cellsOf t)) (hl:cs.length=P.cellsOf t)
  (hx:∀x∈l,∃ds,Reads P w k x.2.2 ((cs.drop x.1).take x.2.1) ds) (hs:∀ds:List CD,ds.length=P.cellsOf t->(∀x∈l,Qv P k x.2.2 ((ds.drop x.1).take x.2.1))->Qv P (k+1) t ds):∃ds,Reads P w (k+1) t cs ds:=by
 obtain⟨_,ds,h1,h2,h3,h4⟩:=X5k l 0 _ ht hl hx;simp only[Nat.zero_add,Nat.sub_zero]at h1 h2 h4;refine⟨ds,h1.trans hl.symm,h2,fun u hu=>?_,hs ds h1 fun x hx=>(h4 x hx).2⟩;obtain⟨j,hj⟩:=Nu.1 hu;exact h3 j u (Nc _) hj
theorem X0Y {e:TypeId} {n:Nat}:∀{l:List (DataW H)} {d:DataW H},d∈l->n∈d.weights P e->n∈DataW.weightsAll P e l
 | x::l,d,hd,hn=>by
   simp only[DataW.weightsAll,NC];rcases Ni.1 hd with rfl|hd
   .exact .inl hn
   exact .inr (X0Y hd hn)
theorem X3x {n:Nat}:∀{ts us:List TypeId} {ds gs:List (DataW H)},n∈DataW.weightsEach P ts ds->n∈DataW.weightsEach P (ts++us) (ds++gs)
 |[],_,_,_,h=>by simp[DataW.weightsEach]at h
 |t::ts,us,[],_,h=>by simp[DataW.weightsEach]at h
 | t::ts,us,d::ds,gs,h=>by
   simp only[DataW.weightsEach,List.cons_append,NC]at h⊢;exact h.imp id X3x
theorem Z6 (hT:X6V P):∀(k:Nat) (t:TypeId) (cs:List Value) (x:DataW H×List MemPlace),t<P.types.size->DataW.trod enc P w base spare held k t cs=some x->(∀n∈x.1.weights P t,n<=reachBytes)->∃ds,Reads P w k t cs ds
 |0,_,_,_,_,h,_=>by cases h
 | k + 1, t,cs,x,htt,h,hz=>by
   unfold DataW.trod at h
   have other:∀v:Value,v.oneCell'=true->cs=[v]->(match P.underlying t with
     |some .bool=>false
     |some (.int _)=>false
     |some .string=>false
     |some (.slice _)=>false
     |some (.struct _)=>false
     |some (.array _ _)=>false
     |_=>true)=true->∃ds,Reads P w (k+1) t cs ds:=by
    intro v h1 hcs hk;subst hcs;refine⟨_,X1i h1 ?_⟩;unfold Qv;split<;>rename_i hu<;>first|(rw[hu]at hk;cases hk)|trivial
   split at h
   .rename_i b hu;exact⟨_,X1i rfl (by unfold Qv;rw[hu];exact⟨b,rfl⟩)⟩
   .rename_i k' k2 n hu;split at h
    .rename_i hw;obtain⟨rfl,hw⟩:=hw;exact⟨_,X1i rfl (by unfold Qv;rw[hu];exact⟨n,rfl,hw⟩)⟩
    cases h
   .rename_i k' k2 b hu;exact other _ rfl rfl (by rw[hu])
   .rename_i s hu;split at h
    .rename_i hw;exact⟨_,X1i rfl (by unfold Qv;rw[hu];exact⟨s,rfl,hw⟩)⟩
    cases h
   .rename_i hu;exact other _ rfl rfl (by rw[hu])
   .rename_i hu;exact other _ rfl rfl (by rw[hu])
   .rename_i e hu;refine⟨[.sl (P.cellsOf e) []],rfl,fun j d u hd hu'=>?_,by simp[Value.oneCell'],?_⟩
    .cases j with
     |zero=>cases hd;cases hu';exact .nil _
     |succ j=>simp at hd
    unfold Qv;rw[hu];exact⟨[],rfl,by simp,by simp⟩
   .-- a slice
    rename_i e a len cap hu;simp only at h;split at h
    .rename_i hb;obtain⟨hb1,hb2,hb3⟩:=hb;simp only[Option.bind_eq_some_iff,N8]at h;obtain⟨elems,hel,Xy,_,rfl⟩:=h;obtain⟨hl,hget⟩:=X02 hel
     have hz1:len*P.bytesOf e<=reachBytes:=by
      have:=hz ((elems.length+Xy.length)*P.bytesOf e) (by simp[DataW.weights,hu]);have hle:elems.length=len:=by simpa using hl
      exact Dj (NI _ (by omega)) this
     have hz2:∀y∈elems,∀n∈y.1.weights P e,n<=reachBytes:=by
      intro y hy n hn;refine hz n ?_;simp only[DataW.weights,hu,Ni,NC];exact .inr (.inl (X0Y (NN.2 ⟨y,hy,rfl⟩) hn))
     have hin:e<P.types.size:=by
      have ht:=hT t htt;unfold X3c at ht;rw[hu]at ht;simp only[N4,N7]at ht;exact ht.2
     have hrow:∀i,i<len->∃row,Reads P w k e (((List.range (P.cellsOf e)).map fun j=>(w.cell? (a.add (i*P.cellsOf e+j))).getD undef)) row/\
       ∀j,j<P.cellsOf e->(w.cell? (a.add (i*P.cellsOf e+j))).isSome=true/\a.block<w.heap.size/\(i*P.cellsOf e+j=0->a.spot=none):=by
      intro i hi;obtain⟨y,hye,hy⟩:=hget i i (by simp[hi]);simp only[Option.bind_eq_some_iff]at hy;obtain⟨cs',hcs',htr⟩:=hy;obtain⟨h1,h2⟩:=X8V hcs'
      have hcell:∀j,j<P.cellsOf e->∃u,cs'[j]? =some u/\w.cell? (a.add (i*P.cellsOf e+j))=some u:=by
       intro j hj;obtain⟨u,hu1,hu2⟩:=h2 j hj;refine⟨u,hu1,?_⟩;rw[<-hu2];congr 1;unfold Addr.add;by_cases e1:i*P.cellsOf e=0<;>by_cases e2:j=0<;>simp[e1,e2,Df]
      have hcs'':cs'=(List.range (P.cellsOf e)).map fun j=>(w.cell? (a.add (i*P.cellsOf e+j))).getD undef:=by
       apply NP;intro j;by_cases hj:j<P.cellsOf e
       .obtain⟨u,hu1,hu2⟩:=hcell j hj;simp[hj,hu1,hu2]
       rw[NB (by omega),NB (by simp;omega)]
      obtain⟨row,hrd⟩:=Z6 hT k e cs' y hin htr (hz2 y (N3 hye));rw[hcs'']at hrd;refine⟨row,hrd,fun j hj=>?_⟩;obtain⟨u,_,hu2⟩:=hcell j hj;have hbk:=X8N hu2;refine⟨by rw[hu2];rfl,?_,fun h0=>?_⟩
      .have:(a.add (i*P.cellsOf e+j)).block=a.block:=by unfold Addr.add;split<;>rfl
       rw[<-this];exact hbk.1
      have:a.add (i*P.cellsOf e+j)=a:=by rw[h0];rfl
      rw[this]at hbk;exact hbk.2
     have hex:∃rows:List (List CD),rows.length=len/\∀i row,rows[i]? =some row->Reads P w k e (((List.range (P.cellsOf e)).map fun j=>(w.cell? (a.add (i*P.cellsOf e+j))).getD undef)) row:=by
      have:∀n,n<=len->∃rows:List (List CD),rows.length=n/\∀i row,rows[i]? =some row->Reads P w k e (((List.range (P.cellsOf e)).map fun j=>(w.cell? (a.add (i*P.cellsOf e+j))).getD undef)) row:=by
       intro n
       induction n with
       |zero=>exact fun _=>⟨[],rfl,by simp⟩
       | succ n ih=>
         intro hn;obtain⟨rows,h1,h2⟩:=ih (by omega);obtain⟨row,h3,_⟩:=hrow n (by omega);refine⟨rows++[row],by simp[h1],fun i r hr=>?_⟩;by_cases hi:i<n
         .rw[Nm (by omega)]at hr;exact h2 i r hr
         by_cases hi2:i=n
         .subst hi2;rw[Nl (by omega),h1,Nat.sub_self]at hr;cases hr;exact h3
         rw[NB (by simp;omega)]at hr;cases hr
      exact this len (ND _)
     obtain⟨rows,hrl,hrows⟩:=hex;refine⟨[.sl (P.cellsOf e) rows],rfl,fun j d u hd hu'=>?_,by simp[Value.oneCell'],?_⟩
     .cases j with
      |succ j=>simp at hd
      | zero=>
        cases hd;cases hu'
        have hrs:∀r∈rows,r.length=P.cellsOf e:=by
         intro r hr;obtain⟨i,hi⟩:=Nu.1 hr;rw[(hrows i r hi).len];simp
        have hpos:0<P.cellsOf e:=by
         have ht:=hT t htt;unfold X3c at ht;rw[hu]at ht;simp only[N4,N7]at ht;exact ht.1
        by_cases h0:rows=[]
        .subst h0;have:len=0:=hrl.symm;subst this;exact .emp _ a cap
        have hlen:0<len:=by
         rw[<-hrl];exact List.length_pos_iff.2 h0
        obtain⟨_,_,h00⟩:=hrow 0 hlen;have hsp:a.spot=none:=(h00 0 hpos).2.2 (by omega);have hbk:a.block<w.heap.size:=(h00 0 hpos).2.1;have ha:a=⟨a.block,a.off,none⟩:=by rw[<-hsp]
        rw[ha,<-hrl]
        have hadd:∀n,a.add n=⟨a.block,a.off+n,none⟩:=fun n=>by
         have:=QI a.block a.off n;rw[<-ha]at this;exact this
        refine .sl _ rows a.block a.off cap (fun i j=>(w.cell? (a.add (i*P.cellsOf e+j))).getD undef) hbk (by rw[hrl];exact hb2) hb3 hrs ?_ ?_ ?_
        .intro i j d hd;obtain⟨hi,hj⟩:=Wq hrs hd;obtain⟨_,_,hc⟩:=hrow i (by rw[<-hrl];exact hi);have:=(hc j hj).1;rw[hadd]at this⊢;obtain⟨u,hu'⟩:=Option.isSome_iff_exists.1 this;rw[hu'];rfl
        .intro i j d hd;obtain⟨hi,hj⟩:=Wq hrs hd;have hr:rows[i]? =some rows[i]:=Nr hi;exact(hrows i _ hr).one _ (NN.2 ⟨j,by simpa using hj,rfl⟩)
        intro i j d hd;obtain⟨hi,hj⟩:=Wq hrs hd;have hr:rows[i]? =some rows[i]:=Nr hi
        have hd':rows[i][j]? =some d:=by
         unfold XV at hd;rw[hr]at hd;exact hd
        exact(hrows i _ hr).rel j d _ hd' (by simp[hj])
     unfold Qv;rw[hu];refine⟨rows,rfl,⟨by rw[hrl];omega,by rw[hrl];exact hz1⟩,fun r hr=>?_⟩;obtain⟨i,hi⟩:=Nu.1 hr;exact⟨by rw[(hrows i r hi).len];simp,(hrows i r hi).shape⟩
    cases h
   .-- a struct
    rename_i fs hu;split at h
    .rename_i hl;simp only[N8]at h;obtain⟨xs,hxs,rfl⟩:=h;obtain⟨_,hget⟩:=X02 hxs;have ht:=hT t htt;unfold X3c at ht;rw[hu]at ht;simp only[N4,beq_iff_eq,Nh,N7]at ht;refine X4D ht.1 hl (fun x hx=>?_) fun ds hd hs=>?_
     .have hxs:=ht.2 x hx;obtain⟨f,hf,rfl⟩:=NN.1 hx;obtain⟨i,hi⟩:=Nu.1 hf;obtain⟨y,hye,hy⟩:=hget i f hi;refine Z6 hT k _ _ y hxs hy fun n hn=>hz n ?_;simp only[DataW.weights,hu];exact DataW.weights_mem_each (j:=i) (t:=f.type) (d:=y.1) (by rw[Nf,hi];rfl) (by rw[Nf,hye];rfl) n hn
     unfold Qv;rw[hu];exact⟨hd,hs⟩
    cases h
   .-- an array
    rename_i n e hu;split at h
    .rename_i hl;simp only[N8]at h;obtain⟨xs,hxs,rfl⟩:=h;obtain⟨_,hget⟩:=X02 hxs;have ht:=hT t htt;unfold X3c at ht;rw[hu]at ht;simp only[N4,beq_iff_eq,N7]at ht;refine X4D ht.1 hl (fun x hx=>?_) fun ds hd hs=>?_
     .obtain⟨i,hi,rfl⟩:=NN.1 hx;have hi':i<n:=by simpa using hi
      obtain⟨y,hye,hy⟩:=hget i i (by simp[hi']);refine Z6 hT k _ _ y ht.2 hy fun n hn=>hz n ?_;simp only[DataW.weights,hu];exact X0Y (NN.2 ⟨y,N3 hye,rfl⟩) hn
     unfold Qv;rw[hu];exact⟨hd,hs⟩
    cases h
   .rename_i hu;exact other _ rfl rfl (by rw[hu])
   .rename_i hu;exact other _ rfl rfl (by rw[hu])
   .rename_i hu;exact other _ rfl rfl (by rw[hu])
   .rename_i hu;exact other _ rfl rfl (by rw[hu])
   .rename_i hu;exact other _ rfl rfl (by rw[hu])
   .rename_i hu;exact other _ rfl rfl (by rw[hu])
   .rename_i hu;exact other _ rfl rfl (by rw[hu])
   .rename_i hu;exact other _ rfl rfl (by rw[hu])
   .rename_i hu;exact other _ rfl rfl (by rw[hu])
   .rename_i hu;exact other _ rfl rfl (by rw[hu])
   cases h
end
end Go.Hl
namespace Go.Hl
open Go Go.RowKit Go.ChangeShapes
def aggT (P:Program) (t:TypeId):Bool:=
 match P.underlying t with
 |some (.struct _)=>true
 |some (.array _ _)=>true
 |_=>false
def tvOf (P:Program) (t:TypeId) (ds:List CD):TV:=
 if aggT P t then .agg (ds.map .c)else match ds with
  |[d]=>.one (.c d)
  |_=>.one .any
def X2b (P:Program):List TypeId->List (List CD)->List TV
 |t::ts,ds::dss=>tvOf P t ds::X2b P ts dss
 |_,_=>[]
def X2q (P:Program):List TypeId->List (List CD)->Prop
 |[],[]=>True
 |t::ts,ds::dss=>(∃k,Qv P k t ds)/\X2q P ts dss
 |_,_=>False
section
variable {P:Program} {H:Type} {enc:TypeId×Value->H} {W W':World}
theorem X1z (hl:laidOutB P=true) (hb:Below W.heap.size W W'):∀{ts:List TypeId} {vs:List Value} {ds:List (DataW H)} {ps:List MemPlace},(∀t∈ts,P.readableRec t=true/\t<P.types.size)->
  (∀x∈ps,x.block<W.heap.size)->DataW.TrodAll enc P W 0 (fun _=>true) true ts vs ds ps->DataW.TrodAll enc P W' 0 (fun b=>decide (b<W.heap.size)) true ts vs ds ps
 |[],[],[],ps,_,_,h=>h
 | t::ts,v::vs,d::ds,ps,hr,hlt,h=>by
   obtain⟨p,q,h1,h2,rfl⟩:=h;exact⟨p,q,Below.trod hl (hr t (by simp)).1 (hr t (by simp)).2 h1 hb (fun x hx=>hlt x (by simp[hx])),X1z hl hb (fun t ht=>hr t (by simp[ht])) (fun x hx=>hlt x (by simp[hx])) h2,rfl⟩
 |[],_::_,_,_,_,_,h=>h.elim
 |[],[],_::_,_,_,_,h=>h.elim
 |_::_,[],_,_,_,_,h=>h.elim
 |_::_,_::_,[],_,_,_,h=>h.elim
theorem X88 {t:TypeId} {vs:Array Value} {base:Nat} {r:Reach} (h:Cell.okWide P W r base t (.agg vs)):False:=by
 unfold Cell.okWide at h;cases hu:P.underlying t with
 |none=>rw[hu]at h;unfold Cell.ok at h;rw[hu]at h;exact h
 |some d=>rw[hu]at h;cases d<;>(unfold Cell.ok at h;rw[hu]at h;exact h)
theorem X5O (hT:X6V P) {base:Nat}:∀{ts:List TypeId} {vs:List Value} {ds:List (DataW H)} {ps:List MemPlace},(∀t∈ts,t<P.types.size)->DataW.TrodAll enc P W 0 (fun _=>true) true ts vs ds ps->(∀n∈DataW.weightsEach P ts ds,n<=reachBytes)->
  (∀(j:Nat) t v,ts[j]? =some t->vs[j]? =some v->Value.okWide P W .any base t v)->
  ds.length=ts.length/\vs.length=ts.length/\∃dss,X2q P ts dss/\(X2b P ts dss).length=vs.length/\∀(j:Nat) t u,(X2b P ts dss)[j]? =some t->vs[j]? =some u->XJ (inMem W) noγ W t u
 |[],[],[],ps,_,h,_,_=>⟨rfl,rfl,[],trivial,rfl,by simp[X2b]⟩
 | t :: ts,v::vs,d::ds,ps,hts,h,hz,hok=>by
   obtain⟨p,q,⟨fuel,h1⟩,h2,rfl⟩:=h;obtain⟨e1,e2,dss,h3,h4,h5⟩:=X5O hT (fun t ht=>hts t (Nx _ ht)) h2 (fun n hn=>hz n (by simp only[DataW.weightsEach,NC];exact .inr hn)) fun j t v ht hv=>hok (j+1) t v ht hv;obtain⟨cs,hcs⟩:=Z6 hT fuel t _ _ (hts t (by simp)) h1 (fun n hn=>hz n (by simp only[DataW.weightsEach,NC];exact .inl hn));refine⟨by simp[e1],by simp[e2],cs::dss,⟨⟨fuel,hcs.shape⟩,h3⟩,by simp[X2b,h4],fun j t' u ht hu=>?_⟩;cases j with
   |succ j=>exact h5 j t' u ht hu
   | zero=>
     cases hu;simp only[X2b,List.getElem?_cons_zero,Option.some.injEq]at ht;subst ht;have hv:=hok 0 t v rfl rfl;unfold tvOf;by_cases ha:aggT P t=true
     .rw[N9 ha]
      have:∃vs,v=.agg vs:=by
       unfold aggT at ha;unfold Value.okWide at hv;split at ha
       .rename_i hu;rw[hu]at hv;obtain⟨vs,e,_⟩:=hv;exact⟨vs,e⟩
       .rename_i hu;rw[hu]at hv;obtain⟨vs,e,_⟩:=hv;exact⟨vs,e⟩
       cases ha
      obtain⟨vs',rfl⟩:=this;refine⟨vs',rfl,?_,fun j x u hx hu=>?_⟩
      .have:=hcs.len;simp[Value.cells]at this;simp[this]
      rw[Nf]at hx;simp only[N8]at hx;obtain⟨c,hc,rfl⟩:=hx;exact hcs.rel j c u hc (by simpa[Value.cells]using hu)
     rw[N6 ha]
     have hna:∀vs,v≠ .agg vs:=by
      rintro vs rfl;unfold aggT at ha;unfold Value.okWide at hv;split at hv
      .rename_i hu;rw[hu]at ha;exact ha rfl
      .rename_i hu;rw[hu]at ha;exact ha rfl
      exact X88 hv
     have hcell:v.cells= #[v]:=by cases v<;>first|rfl|exact absurd rfl (hna _)
     rw[hcell]at hcs;have hl:=hcs.len
     match cs,hl with
     |[c],_=>exact hcs.rel 0 c v rfl rfl
 |[],_::_,_,_,_,h,_,_=>h.elim
 |[],[],_::_,_,_,h,_,_=>h.elim
 |_::_,[],_,_,_,h,_,_=>h.elim
 |_::_,_::_,[],_,_,h,_,_=>h.elim
end
end Go.Hl
namespace Go.Hl
open Go Go.RowKit
theorem tiled_mk {P:Program} (h:(List.range P.types.size).all (X3c P)=true):X6V P:=by
 intro t ht;rw[Nh]at h;exact h t (by simpa using ht)
section
variable {P:Program} {k:Nat} {t:TypeId} {ds:List CD}
theorem Xal {ik:IntKind} (hu:P.underlying t=some (.int ik)) (h:Qv P k t ds):∃n,ds=[.lit (.int ik n)]/\(Lit.int ik n).wf=true:=by
 cases k with
 |zero=>exact h.elim
 |succ k=>unfold Qv at h;rw[hu]at h;exact h
theorem Xb8 (hu:P.underlying t=some .string) (h:Qv P k t ds):∃s,ds=[.lit (.string s)]/\s.size<=maxLen:=by
 cases k with
 |zero=>exact h.elim
 |succ k=>unfold Qv at h;rw[hu]at h;exact h
theorem X7V {T:Type} {enc:T->List CD}:∀{rows:List (List CD)},(∀r∈rows,∃x,r=enc x)->∃xs:List T,rows=xs.map enc
 |[],_=>⟨[],rfl⟩
 | r::rows,h=>by
   obtain⟨x,hx⟩:=h r (by simp);obtain⟨xs,hxs⟩:=X7V fun r hr=>h r (Nx _ hr);exact⟨x::xs,by simp[hx,hxs]⟩
theorem tvOf_agg (ha:aggT P t=true):tvOf P t ds=.agg (ds.map .c):=by
 unfold tvOf;rw[N9 ha]
end
def X7p (P:Program) (f:FuncId) (cs:List CD) (args:List TV) (r:RV) (cs':List CD):Prop:=
 XZ P f=true/\∀(F:Nat->Prop) (w:World) (b:Nat) (e:TypeId) (vs0 vs:Array Value),(∀b,F b->b<w.heap.size)->¬F b->w.heap[b]? =some (.cells vs0 e (0,0))->Xi F noγ w (cs.map .c) vs0->
  vs.size=args.length->(∀(T:Nat->Value) (j:Nat) t u,args[j]? =some t->vs[j]? =some u->XJ F T w t u)->
  Calls P f (#[.pointer (some ⟨b,0,none⟩)]++vs) w fun x w'=>∃(v:Value) (N:Nat->Prop) (T':Nat->Value) (e':TypeId) (vs1:Array Value),x=.returned v/\Kept (fun k=>k<w.heap.size/\k≠b) w w'/\
   (∀c,N c->w.heap.size<=c/\c<w'.heap.size)/\X9 (fun c=>F c\/N c) T' w' r v/\w'.heap[b]? =some (.cells vs1 e' (0,0))/\Xi (fun c=>F c\/N c) noγ w' (cs'.map .c) vs1
section
variable {P:Program} {F:Nat->Prop} {T T':Nat->Value} {w w' w0:World} {B:Nat->Prop} {U:Nat->Option Value}
theorem Xi.data {ds:List CD} {vs:Array Value} (h:Xi F T w (ds.map .c) vs):Xi F T' w (ds.map .c) vs:=by
 refine⟨h.1,fun j x u hx hu=>?_⟩;have:=h.2 j x u hx hu;rw[Nf]at hx;simp only[N8]at hx;obtain⟨d,_,rfl⟩:=hx;exact this
theorem X2L {f:FuncId} {fn:Func} {c:Code} {cs cs':List CD} {args:List TV} {r:RV} (hf:P.funcs[f]? =some fn) (hb:fn.body=some c) (hcall:XZ P f=true) (hnt:args.length+1<=fn.ntmps)
  (h:HT P c ⟨fn.ntmps,(0,.v (.one (.at_ 1000000 0)))::Wx 1 args,[(1000000,.box (cs.map .c))]⟩ (fun e s'=>(e=.normal\/e=.ret)/\∃s2,le s' s2/\(∃ts,X0Z P s2 fn.results.toList=some ts/\r=Xl ts)/\
   lkp s2.objs 1000000=some (.box (cs'.map .c)))):X7p P f cs args r cs':=by
 refine⟨hcall,fun F w b e vs0 vs hF hFb hbk hcells hsz hargs=>?_⟩;have hbl:b<w.heap.size:=Wr hbk
 let γ0:Nat->Value:=fun n=>if n=1000000 then .pointer (some ⟨b,0,none⟩)else .nilFunc
 let B0:Nat->Prop:=fun k=>k<w.heap.size/\k≠b
 let π0:Nat->Option Value:=fun n=>if n=1000000 then some (.pointer (some ⟨b,0,none⟩))else none
 have hγ0:γ0 1000000=.pointer (some ⟨b,0,none⟩):=rfl
 have hrel:Rel w B0 π0 F γ0 ⟨fn.ntmps,(0,.v (.one (.at_ 1000000 0)))::Wx 1 args,[(1000000,.box (cs.map .c))]⟩ {tmps:=(#[.pointer (some ⟨b,0,none⟩)]++vs)++Array.replicate (fn.ntmps - (#[Value.pointer (some ⟨b,0,none⟩)]++vs).size) undef,defers:=[]} w:=by
  refine⟨⟨Kept.refl _ _,fun _ h=>h.1,hF,fun n o hl=>?_,fun n o hl c hc=>?_,fun n m on om hn hm hne=>?_,fun n v hv=>?_⟩,rfl,by simp;omega,fun k r hl=>?_⟩
  .simp only[lkp]at hl;split at hl
   .rename_i e';cases hl;subst e';exact⟨b,e,vs0,hγ0,fun hx=>hx.2 rfl,hbk,hcells.data⟩
   cases hl
  .simp only[lkp]at hl;split at hl
   .rename_i e';subst e';cases hc;exact hFb
   cases hl
  .simp only[lkp]at hn hm;split at hn
   .split at hm
    .rename_i e1 e2;exact absurd (e1.symm.trans e2) hne
    cases hm
   cases hn
  .simp only[π0]at hv;split at hv
   .rename_i e';cases hv;subst e';exact⟨ND _,rfl⟩
   cases hv
  simp only[lkp]at hl;split at hl
  .rename_i e';cases hl;subst e';refine⟨b,rfl,?_⟩;rw[Nq,NQ (by simp;omega),NQ (by simp)];rfl
  obtain⟨h1,t,ht,rfl⟩:=WC args 1 k r hl;have hk:k - 1<vs.size:=by rw[hsz];exact(N5.1 ht).1
  have hv:((#[Value.pointer (some ⟨b,0,none⟩)]++vs)++Array.replicate (fn.ntmps - (#[Value.pointer (some ⟨b,0,none⟩)]++vs).size) undef).getD k undef=vs[k - 1]:=by
   rw[Nq,NQ (by simp;omega),Array.getElem?_append_right (by simp;omega)];simp[hk]
  rw[hv];exact hargs γ0 (k - 1) t vs[k - 1] ht (by simp[hk])
 refine calls_of_wp hf hb (wp_mono (h w B0 π0 F γ0 _ w hrel) ?_);rintro x a' w' ⟨s',F1,γ1,⟨he,s2,hle,⟨ts,hts,rfl⟩,hbox⟩,h1,h2,hr'⟩;obtain⟨F2,γ2,h3,h4,hr2⟩:=hle w B0 π0 F1 γ1 a' w' hr';obtain⟨us,hus,hul,huc⟩:=Z0 hr2 hts;have hpin:γ2 1000000=.pointer (some ⟨b,0,none⟩):=(hr2.heap.pin 1000000 _ (by simp[π0])).2;obtain⟨b',e',vs1,hγb,_,hh',hc'⟩:=hr2.heap.ob _ _ hbox;rw[hpin]at hγb;cases hγb;have hFb2:¬F2 b:=hr2.heap.apart _ _ hbox b (by rw[hpin];rfl)
 have hFF:∀c,F2 c->F c\/(F2 c/\w.heap.size<=c):=by
  intro c hc
  have key:¬B0 c->F c\/(F2 c/\w.heap.size<=c):=by
   intro hx;refine .inr ⟨hc,D4 fun hlt=>hx ⟨hlt,fun e=>hFb2 (e▸hc)⟩⟩
  rcases h4 c hc with h5|h5
  .rcases h2 c h5 with h6|h6
   .exact .inl h6
   exact key h6
  exact key h5
 have hres:∃v,(results fn a'.tmps).run P w'=.ok v w'/\X9 F2 γ2 w' (Xl ts) v:=by
  rw[ZG,Sem.run_bind,hus,Result.andThen_ok];refine⟨_,rfl,?_⟩
  match ts,us,hul,huc with
  |[],[],_,_=>exact⟨#[],rfl,rfl,by simp⟩
  |[t],[u],_,hc=>exact hc 0 t u rfl rfl
  |t1::t2::ts,u1::u2::us,hl,hc=>exact⟨(u1::u2::us).toArray,by simp,by simpa using hl,fun j t u ht hu=>hc j t u ht (by simpa using hu)⟩
 obtain⟨v,hv,hvr⟩:=hres
 have key:a'.defers=[]/\∃v,(results fn a'.tmps).run P w'=.ok v w'/\∃(v2:Value) (N:Nat->Prop) (T':Nat->Value) (e':TypeId) (vs1:Array Value),Ending.returned v=.returned v2/\Kept (fun k=>k<w.heap.size/\k≠b) w w'/\
   (∀c,N c->w.heap.size<=c/\c<w'.heap.size)/\X9 (fun c=>F c\/N c) T' w' (Xl ts) v2/\w'.heap[b]? =some (.cells vs1 e' (0,0))/\Xi (fun c=>F c\/N c) noγ w' (cs'.map .c) vs1:=
  ⟨hr2.defers,v,hv,v,fun c=>F2 c/\w.heap.size<=c,γ2,e',vs1,rfl,hr2.heap.below,fun c hc=>⟨hc.2,hr2.heap.fsz c hc.1⟩,hvr.mono hFF fun _ _=>rfl,hh',(hc'.mono hFF fun _ _=>rfl).data⟩
 rcases he with rfl|rfl
 .exact key
 exact key
theorem X9F {objs:List (Nat×Ob)} {x y:CV} (h:brw objs x=some y) {v:Value} {T':Nat->Value} (hr:Xo F noγ w y v):Xo F T' w y v:=by
 unfold brw at h;split at h
 .cases h;exact trivial
 .cases h;exact hr
 .cases h;obtain⟨vs,hv,hl,_⟩:=hr;exact⟨vs,hv,hl,by simp⟩
 simp only[N8]at h;obtain⟨d,_,rfl⟩:=h;exact hr
theorem brwT_any {objs:List (Nat×Ob)} (hh:HeapRel w0 B U F T objs w) {r:RV} {t:TV} (h:X3k objs r=some t) {v:Value} {T':Nat->Value} (hr:XJ F noγ w t v):XJ F T' w t v:=by
 unfold X3k at h;split at h
 .split at h
  .rename_i y hy;cases h;exact X9F hy hr
  cases h
 .split at h
  .rename_i xs _ ys hy;cases h;obtain⟨vs,rfl,hs,hc⟩:=hr;obtain⟨h1,h2⟩:=X0D hh hy;refine⟨vs,rfl,hs,fun j y u hyj hu=>?_⟩;obtain⟨x,hx,hb⟩:=h2 j y hyj;exact X9F hb (hc j y u hyj hu)
  cases h
 cases h
theorem HeapRel.calledIO {objs:List (Nat×Ob)} (h:HeapRel w0 B U F T objs w) {n b:Nat} {cs cs':List CD} {e':TypeId} {vs1:Array Value} (hn:lkp objs n=some (.box (cs.map .c))) (hb:T n=.pointer (some ⟨b,0,none⟩))
  (hk:Kept (fun k=>k<w.heap.size/\k≠b) w w') {N:Nat->Prop} (hN:∀c,N c->w.heap.size<=c/\c<w'.heap.size) (hcell:w'.heap[b]? =some (.cells vs1 e' (0,0))) (hrel:Xi (fun c=>F c\/N c) noγ w' (cs'.map .c) vs1):
  HeapRel w0 B U (fun c=>F c\/N c) T (ins n (.box (cs'.map .c)) objs) w':=by
 have hBn:Blk (T n) b:=by rw[hb];rfl
 have hob:=h.ob n _ hn;have hbB:¬B b:=(hob.blk_lt hBn).1;have hF:∀c,F c->w'.heap[c]? =w.heap[c]? :=fun c hc=>hk.block c ⟨h.fsz c hc,fun e=>h.apart n _ hn b hBn (e▸hc)⟩
 have hlk:∀m o,lkp (ins n (.box (cs'.map .c)) objs) m=some o->(m=n/\o=.box (cs'.map .c))\/(m≠n/\lkp objs m=some o):=by
  intro m o hl;rw[Qb]at hl;split at hl
  .rename_i e;cases hl;exact .inl ⟨e,rfl⟩
  rename_i e;exact .inr ⟨e,hl⟩
 have hex:∀m o,lkp (ins n (.box (cs'.map .c)) objs) m=some o->∃o',lkp objs m=some o':=by
  intro m o hl;rcases hlk m o hl with⟨rfl,_⟩|⟨_,h2⟩
  .exact⟨_,hn⟩
  exact⟨_,h2⟩
 exact {
  below:=h.below.trans ⟨hk.os,hk.tape,hk.output,hk.size,fun c hc=>hk.block c ⟨h.hB c hc,fun e=>hbB (e▸hc)⟩⟩
  hB:=fun c hc=>NA (h.hB c hc) hk.size
  fsz:=fun c hc=>by
   rcases hc with hc|hc
   .exact NA (h.fsz c hc) hk.size
   exact(hN c hc).2
  ob:=fun m o hl=>by
   rcases hlk m o hl with⟨rfl,rfl⟩|⟨hne,hl'⟩
   .exact⟨b,e',vs1,hb,hbB,hcell,hrel.data⟩
   have h1:=h.ob m o hl';exact h1.mono (fun _ h=>.inl h) hF fun c hc=>hk.block c ⟨(h1.blk_lt hc).2,fun e=>h.sep m n _ _ hl' hn hne c hc (e▸hBn)⟩
  apart:=fun m o hl c hc hFc=>by
   obtain⟨o',ho'⟩:=hex m o hl;rcases hFc with hFc|hFc
   .exact h.apart m o' ho' c hc hFc
   have:=((h.ob m o' ho').blk_lt hc).2;have:=(hN c hFc).1;omega
  sep:=fun m k om ok hm hk' hne=>by
   obtain⟨o1,h1⟩:=hex m om hm;obtain⟨o2,h2⟩:=hex k ok hk';exact h.sep m k o1 o2 h1 h2 hne
  pin:=h.pin}
def ioOf (s:HS) (o:Oper):Option (FuncId×Nat×List CD×List TV×Nat):=
 match o.guard,o.op,o.dst with
 | none, .call {callee:=.value x,args:=args, .. },some d=>match opd s.regs x,args.toList with
   | .v (.one (.fn f [])),a0::Xy=>match opd s.regs a0,X1w s.objs (opd s.regs) Xy with
     | .v (.one (.at_ n 0)),some ts=>match lkp s.objs n with
       | some (.box xs)=>match WG xs with
         |some cs=>if(Xy.any fun x=>(opd s.regs x).ownB)=false/\Q3 s (some d)=true then some (f,n,cs,ts,d)else none
         |none=>none
       |_=>none
     |_,_=>none
   |_,_=>none
 |_,_,_=>none
theorem io_sound {s:HS} {a:Act} {ops:Array Oper} {i:Nat} {o:Oper} {f:FuncId} {n d:Nat} {cs cs':List CD} {ts:List TV} {r:RV} {Kc:Act->World->Prop} {Q:Exit->Act->World->Prop} (hi:ops[i]? =some o) (h:Rel w0 B U F T s a w) (hc:ioOf s o=some (f,n,cs,ts,d)) (hcon:X7p P f cs ts r cs')
  (honly:r.onlyB false 0=true)
  (hK:∀F' a' w',(∀b,F b->F' b)->(∀b,F' b->F b\/¬B b)->Rel w0 B U F' T (({s with objs:=ins n (.box (cs'.map .c)) s.objs}:HS).put (some d) r) a' w'->Kc a' w'):wpOp P ops Q i Kc a w:=by
 unfold ioOf at hc;split at hc
 .rename_i x args ts0 d0 hgd ho hd;split at hc
  .rename_i f0 a0 Xy hf hargs;split at hc
   .rename_i n0 ts1 hg0 hts;split at hc
    .rename_i xs hl;split at hc
     .rename_i cs0 hdo;split at hc
      .rename_i hcond;cases hc;obtain⟨hown,hok⟩:=hcond;have hxs:=Zh _ _ hdo;subst hxs;obtain⟨hcall,hcon⟩:=hcon;have hx:=h.opd x;rw[hf]at hx;obtain⟨cvs,hv,hcl,_⟩:=hx;have:cvs=[]:=Np (by simpa using hcl);subst this;have hv':a.eval x=.func (.func f) #[] #[]:=hv;have hx0:=h.opd a0;rw[hg0]at hx0;obtain⟨b,hb,hv0⟩:=hx0;have harr:args=(a0::Xy).toArray:=by rw[<-hargs]
       have hrun:(execOp a.eval o).run P w=.ok (.enter f (#[.pointer (some ⟨b,0,none⟩)]++(Xy.map a.eval).toArray)) w:=by
        unfold XZ at hcall;split at hcall
        .rename_i fn hfn;simp only[N4,Nk]at hcall;have hnm:¬fn.name= "runtime.NumGoroutine" :=by simpa using hcall.1
         have hnb:¬fn.body=none:=by
          intro hb;rw[hb]at hcall;cases hcall.2
         have e1:args.map a.eval= #[.pointer (some ⟨b,0,none⟩)]++(Xy.map a.eval).toArray:=by rw[harr];simp[hv0]
         simp[execOp,ho,resolve,hv',Deferred.ofValue,invoke,callFunc,hfn,hnm,hnb,e1]
        cases hcall
       unfold wpOp;rw[hi];simp only;have hwant:Region.wanted o (yielded ops a.tmps)=true:=by unfold Region.wanted;rw[hgd]
       rw[hwant];simp only[NG];refine .inl ?_;unfold Oper.wp;rw[hrun,Oper.upon_enter];have hBn:Blk (T n) b:=by rw[hb];rfl
       obtain⟨b',e,vs0,hγ,hB,hh',hcr⟩:=h.heap.ob n _ hl;rw[hb]at hγ;cases hγ;obtain⟨hlen,hts'⟩:=X1X hts;refine(hcon F w b e vs0 (Xy.map a.eval).toArray h.heap.fsz (h.heap.apart n _ hl b hBn) hh' hcr.data (by simp[hlen]) fun T' j t u ht hu=>?_).mono ?_
       .obtain⟨y,hy,hbr⟩:=hts' j t ht
        have hu':u=a.eval y:=by
         simp only[List.getElem?_toArray,Nf,hy,Option.map_some,Option.some.injEq]at hu;exact hu.symm
        rw[hu'];refine brwT_any h.heap hbr (X5S h.heap ?_ hbr (h.opd y));rw[Du]at hown;simpa using hown y (N3 hy)
       rintro x w' ⟨v,N,T',e',vs1,rfl,hk,hN,hr,hcell,hrel⟩;have hh2:=h.heap.calledIO hl hb hk hN hcell hrel;have hFk:∀c,F c->w'.heap[c]? =w.heap[c]? :=fun c hc=>hk.block c ⟨h.heap.fsz c hc,fun e=>h.heap.apart n _ hl b hBn (e▸hc)⟩;refine hK (fun c=>F c\/N c) _ _ (fun _ h=>.inl h) (fun c hc=>hc.imp id fun hc hx=>?_) ?_
       .have:=h.heap.hB c hx;have:=(hN c hc).1;omega
       rw[hd];exact h.step (objs':=ins n (.box (cs'.map .c)) s.objs) hok hh2 (hr.only (ob:=false) (d:=0) honly (by simp)) fun k r v _ hr=>hr.mono (fun _ h=>.inl h) hFk
      cases hc
     cases hc
    cases hc
   cases hc
  cases hc
 cases hc
theorem QS {ops:Array Oper} {K:HS->Prop} {Q:Exit->Act->World->Prop} {Xy:List Nat}:∀(l:List Oper) (k:Nat) (s:HS) (F:Nat->Prop) (T:Nat->Value) (a:Act) (w:World),(∀j o,l[j]? =some o->ops[k+j]? =some o)->
  Rel w0 B U F T s a w->wpR P ops l s K->
  (∀s' F' T' a' w',K s'->(∀b,F b->F' b)->(∀b,F' b->F b\/¬B b)->Rel w0 B U F' T' s' a' w'->wpOps P ops Q Xy a' w')->
  wpOps P ops Q (List.range' k l.length++Xy) a w
 |[],k,s,F,T,a,w,_,h,hw,hK=>hK s F T a w hw (fun _ h=>h) (fun _ h=>.inl h) h
 | o::l,k,s,F,T,a,w,hd,h,hw,hK=>by
   have hi:ops[k]? =some o:=hd 0 o rfl;rw[List.length_cons,List.range'_succ,List.cons_append,wpOps_cons];refine X1Y hi h hw fun s' F' T' a' w' hw' h1 h2 hr=>?_;refine QS l (k+1) s' F' T' a' w' (fun j o' hj=>by have:=hd (j+1) o' hj;rwa [show k+1+j=k+(j+1) by omega]) hr hw' fun s2 F2 γ2 a2 w2 hk2 h3 h4 hr2=>?_;refine hK s2 F2 γ2 a2 w2 hk2 (fun b hb=>h3 b (h1 b hb)) (fun b hb=>?_) hr2;rcases h4 b hb with h|h
   .exact h2 b h
   exact .inr h
theorem X0r {id:Nat} {ops:Array Oper} (k:Nat) (r:RV) (cs':List CD) {s s1 s3:HS} {o:Oper} {f:FuncId} {n d:Nat} {cs:List CD} {ts:List TV} {Q:Exit->HS->Prop} (ho:ops[k]? =some o) (hpre:evs P ops (ops.toList.take k) s=some s1)
  (hio:ioOf s1 o=some (f,n,cs,ts,d)) (hcon:X7p P f cs ts r cs') (honly:r.onlyB false 0=true)
  (hpost:evs P ops (ops.toList.drop (k+1)) (({s1 with objs:=ins n (.box (cs'.map .c)) s1.objs}:HS).put (some d) r)=some s3) (hq:Q .normal s3):HT P (.region id ops false) s Q:=by
 intro w0 B U F T a w hr;refine wp_region ?_;have hlt:k<ops.size:=(NO.1 ho).1
 have hsplit:List.range ops.size=List.range' 0 (ops.toList.take k).length++(k::List.range' (k+1) (ops.toList.drop (k+1)).length):=by
  rw[List.range_eq_range',Ns,D2,Array.length_toList,Nat.min_eq_left (by omega)];apply NP;intro j;by_cases hj:j<k
  .rw[Nm (by simpa using hj)];simp[hj,show j<ops.size by omega]
  rw[Nl (by simp;omega)];simp only[List.length_range'];by_cases hjk:j=k
  .subst hjk;simp[hlt]
  rw[show j - k=(j - (k+1))+1 by omega,List.getElem?_cons_succ];by_cases hjs:j<ops.size
  .rw[D0 (by omega),D0 (by omega)];congr 1;omega
  rw[NB (by simp;omega),NB (by simp;omega)]
 rw[hsplit];refine QS (ops.toList.take k) 0 s F T a w (fun j o' hj=>?_) hr (X0G _ _ _ hpre rfl:wpR P ops (ops.toList.take k) s (fun t=>t=s1)) fun s' F1 γ1 a1 w1 hs' h1 h2 hr1=>?_
 .rw[Nv]at hj;split at hj
  .rw[Nat.zero_add];simpa using hj
  cases hj
 subst hs';rw[wpOps_cons];refine io_sound ho hr1 hio hcon honly fun F2 a2 w2 h3 h4 hr2=>?_
 have:=QS (Q:=fun e a' w'=>∃(s':HS) (F':Nat->Prop) (T':Nat->Value),Q e s'/\(∀b,F b->F' b)/\(∀b,F' b->F b\/¬B b)/\Rel w0 B U F' T' s' a' w') (Xy:=[]) (ops.toList.drop (k+1)) (k+1) _ F2 γ1 a2 w2 (fun j o' hj=>by
   rw[No]at hj;simpa using hj) hr2 (X0G _ _ _ hpost rfl:wpR P ops (ops.toList.drop (k+1)) _ (fun t=>t=s3)) fun s4 F4 γ4 a4 w4 hs4 h5 h6 hr4=>?_
 .simpa using this
 subst hs4;exact⟨s4,F4,γ4,hq,fun b hb=>h5 b (h3 b (h1 b hb)),fun b hb=>(h6 b hb).elim (fun hb=>(h4 b hb).elim (h2 b) .inr) .inr,hr4⟩
def evcS (P:Program) (ops:Array Oper):List Oper->HS->List (Option CR)->Option (HS×Prop)
 |[],s,_=>some (s,True)
 | o :: l,s,cs=>match Q9 o.op with
   | .call=>match cs with
     | some c::cs=>match evc P ops [o] s [c] with
       | some (s',p)=>match evcS P ops l s' cs with
         |some (s'',q)=>some (s'',p/\q)
         |none=>none
       |none=>none
     | none::cs=>match o.guard,ZV ops o s with
       |some _,some b=>if b=false/\Q3 s o.dst=true then evcS P ops l (s.put o.dst (.v (.one .any))) cs else none
       |_,_=>none
     |[]=>none
   | _ =>match evc P ops [o] s [] with
     | some (s',p)=>match evcS P ops l s' cs with
       |some (s'',q)=>some (s'',p/\q)
       |none=>none
     |none=>none
theorem wpR_one {ops:Array Oper} {o:Oper} {l:List Oper} {s:HS} {K:HS->Prop} (h:wpR P ops [o] s (fun t=>wpR P ops l t K)):wpR P ops (o::l) s K:=by
 simp only[wpR]at h⊢;exact h
theorem X5c {ops:Array Oper} {K:HS->Prop}:∀(l:List Oper) (s s':HS) (cs:List (Option CR)) (p:Prop),evcS P ops l s cs=some (s',p)->p->K s'->wpR P ops l s K
 |[],s,s',_,p,h,_,hk=>by cases h;exact hk
 | o :: l,s,s',cs,p,h,hp,hk=>by
   have step:∀(cs1:List CR) (cs2:List (Option CR)),(match evc P ops [o] s cs1 with
     | some (s1,p)=>match evcS P ops l s1 cs2 with
       |some (s'',q)=>some (s'',p/\q)
       |none=>none
     |none=>none)=some (s',p)->wpR P ops (o::l) s K:=by
    intro cs1 cs2 h;split at h
    .rename_i s1 p1 he;split at h
     .rename_i s2 q he2;cases h;exact wpR_one (Qn _ _ _ _ _ he hp.1 (X5c l s1 s' cs2 q he2 hp.2 hk))
     cases h
    cases h
   unfold evcS at h;split at h
   .rename_i hc;split at h
    .exact step _ _ h
    .split at h
     .rename_i q b hg hgd;split at h
      .rename_i hb;simp only[wpR,hg,hgd,hc];refine .inl ⟨hb.1,hb.2,?_⟩;exact X5c l _ s' _ p h hp hk
      cases h
     cases h
    cases h
   exact step _ _ h
theorem WI {id:Nat} {ops:Array Oper} {s s':HS} {p:Prop} {Q:Exit->HS->Prop} (cs:List (Option CR)) (h:evcS P ops ops.toList s cs=some (s',p)) (hp:p) (hq:Q .normal s'):HT P (.region id ops false) s Q:=
 X3i (X5c _ _ _ _ _ h hp hq)
end
section
variable {P:Program}
theorem HT_runF {id:Nat} {ops:Array Oper} (k:Nat) (cs1 cs2:List CR) {s s1 s2 s3:HS} {p q:Prop} {Q:Exit->HS->Prop} (hpre:evc P ops (ops.toList.take k) s cs1=some (s1,p)) (hp:p) (hle:le s1 s2)
  (hpost:evc P ops (ops.toList.drop k) s2 cs2=some (s3,q)) (hq':q) (hq:Q .normal s3):HT P (.region id ops false) s Q:=by
 intro w0 B U F T a w hr;refine wp_region ?_
 have hsplit:List.range ops.size=List.range' 0 (ops.toList.take k).length++List.range' (min k ops.size) (ops.toList.drop k).length:=by
  rw[List.range_eq_range',Ns,D2,Array.length_toList];apply NP;intro j;by_cases hj:j<min k ops.size
  .rw[Nm (by simpa using hj),D0 (by omega),D0 (by omega)]
  rw[Nl (by simp;omega)];simp only[List.length_range'];by_cases hjs:j<ops.size
  .rw[D0 (by omega),D0 (by omega)];congr 1;omega
  rw[NB (by simp;omega),NB (by simp;omega)]
 rw[hsplit];refine QS (ops.toList.take k) 0 s F T a w (fun j o' hj=>?_) hr (Qn _ _ _ _ _ hpre hp rfl:wpR P ops (ops.toList.take k) s (fun t=>t=s1)) fun s' F1 γ1 a1 w1 hs' h1 h2 hr1=>?_
 .rw[Nv]at hj;split at hj
  .rw[Nat.zero_add];simpa using hj
  cases hj
 subst hs';obtain⟨F2,γ2,h3,h4,hr2⟩:=hle w0 B U F1 γ1 a1 w1 hr1
 have:=QS (Q:=fun e a' w'=>∃(s':HS) (F':Nat->Prop) (T':Nat->Value),Q e s'/\(∀b,F b->F' b)/\(∀b,F' b->F b\/¬B b)/\Rel w0 B U F' T' s' a' w') (Xy:=[]) (ops.toList.drop k) (min k ops.size) _ F2 γ2 a1 w1 (fun j o' hj=>by
   rw[No]at hj;have:k+j<ops.toList.length:=(N5.1 hj).1;rw[Array.length_toList]at this;rw[Nat.min_eq_left (by omega)]
   simpa using hj) hr2 (Qn _ _ _ _ _ hpost hq' rfl:wpR P ops (ops.toList.drop k) _ (fun t=>t=s3)) fun s4 F4 γ4 a4 w4 hs4 h5 h6 hr4=>?_
 .simpa using this
 subst hs4;exact⟨s4,F4,γ4,hq,fun b hb=>h5 b (h3 b (h1 b hb)),fun b hb=>(h6 b hb).elim (fun hb=>(h4 b hb).elim (h2 b) .inr) .inr,hr4⟩
end
end Go.Hl
