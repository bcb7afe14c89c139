/- HmM: part of an evaluator of Go code over abstract states, proved sound over the model; used by the proof of the claimed statement. Conditions: none. -/
import Derived.Test.YtdajceakaakdoaaGreatHmL
import Derived.Deep.LoopGhost
set_option linter.unusedSimpArgs false
set_option linter.unusedVariables false
namespace Go.Hl
open Go Go.RowKit
def wpR (P:Program) (ops:Array Oper):List Oper→HS→(HS→Prop)→Prop
 |[],s,K=>K s
 | o :: l,s,K=>match o.guard with
   | none=>(match Q7 o.op with
     | .call=>X9S P s o (fun s'=>wpR P ops l s' K)
     | _=>match X3R P s o with
       |some s'=>wpR P ops l s' K
       |none=>False)
   | some _=>match Za ops o s with
     | some b=>(match Q7 o.op with
       | .call=>(b=false∧XJ s o.dst=true∧wpR P ops l (s.put o.dst (.v (.one .any))) K)∨callG P s b o (fun s'=>wpR P ops l s' K)
       | _=>match stpG P s b o with
         |some s'=>wpR P ops l s' K
         |none=>False)
     |none=>False
def HT (P:Program) (c:Code) (s:HS) (Q:Exit→HS→Prop):Prop:=
 ∀(w0:World) (B:Nat→Prop) (π:Nat→Option Value) (F:Nat→Prop) (γ:Nat→Value) (a:Act) (w:World),Rel w0 B π F γ s a w→
  c.wp P (fun e a' w'=>∃(s':HS) (F':Nat→Prop) (γ':Nat→Value),Q e s'∧(∀b,F b→F' b)∧(∀b,F' b→F b∨¬B b)∧Rel w0 B π F' γ' s' a' w') a w
def le (s s':HS):Prop:=
 ∀(w0:World) (B:Nat→Prop) (π:Nat→Option Value) (F:Nat→Prop) (γ:Nat→Value) (a:Act) (w:World),Rel w0 B π F γ s a w→
  ∃(F':Nat→Prop) (γ':Nat→Value),(∀b,F b→F' b)∧(∀b,F' b→F b∨¬B b)∧Rel w0 B π F' γ' s' a w
section
variable {P:Program} {F:Nat→Prop} {γ:Nat→Value} {w w' w0:World} {B:Nat→Prop} {π:Nat→Option Value}
def boolV:Value→Option Bool
 | .bool c=>some c
 |_=>none
theorem X1c {ops:Array Oper} {j d:Nat} {a:Act} (hd:(ops[j]?).bind (·.dst)=some d) {v:Value} (hv:a.tmps.getD d undef=v):yielded ops a.tmps j=boolV v:=by
 subst hv;unfold yielded;rw[hd];simp only[Option.bind_some];rw[Array.getD_eq_getD_getElem?];cases hx:a.tmps[d]? with
 |none=>simp[undef,boolV]
 |some u=>simp only[Option.getD_some];cases u<;>rfl
theorem X02 {ops:Array Oper} {o:Oper} {s:HS} {a:Act} {b:Bool} (h:Rel w0 B π F γ s a w) (hg:Za ops o s=some b):Region.wanted o (yielded ops a.tmps)=b:=by
 unfold Za at hg;unfold Region.wanted;split at hg
 · rename_i hn;rw[hn];cases hg;rfl
 rename_i j want hn;rw[hn];split at hg
 · rename_i d hd;split at hg
   · rename_i c hl;have hv:a.tmps.getD d undef=.bool c:=X9.lit_eq rfl (h.regs d _ hl);simp only[X1c hd hv];simp only[Option.some.injEq]at hg;subst hg;cases c<;>cases want<;>rfl
   · rename_i b' c hl;have hx:=h.regs d _ hl;simp only[Option.some.injEq]at hg;cases b' with
     | true=>
       have hv:a.tmps.getD d undef=.bool c:=by
        have h2:CRel F w (.lit (.bool c)) (a.tmps.getD d undef):=hx.1 rfl;generalize a.tmps.getD d undef=u at h2;cases h2;rfl
       simp only[X1c hd hv];subst hg;cases c<;>cases want<;>rfl
     | false=>
       have hv:a.tmps.getD d undef=undef:=hx.2 rfl;simp only[X1c hd hv];subst hg;rfl
   · rename_i hl;have hx:=h.regs d _ hl;simp only[Option.some.injEq]at hg;have hv:a.tmps.getD d undef=undef:=hx.2 rfl;simp only[X1c hd hv];subst hg;rfl
   cases hg
 cases hg
theorem X2s {ops:Array Oper} {i:Nat} {o:Oper} {l:List Oper} {s:HS} {a:Act} {K:HS→Prop} {Kc:Act→World→Prop} {Q:Exit→Act→World→Prop} (hi:ops[i]? =some o)
  (h:Rel w0 B π F γ s a w) (hw:wpR P ops (o::l) s K)
  (hK:∀s' F' γ' a' w',wpR P ops l s' K→(∀b,F b→F' b)→(∀b,F' b→F b∨¬B b)→Rel w0 B π F' γ' s' a' w'→Kc a' w'):wpOp P ops Q i Kc a w:=by
 unfold wpOp;rw[hi];simp only
 -- passed W6: the slot holds nothing
 have skip:∀r:RV,XJ s o.dst=true→X9 F γ w r undef→wpR P ops l (s.put o.dst r) K→Kc (a.put o.dst undef) w:=by
  intro r hok hr hk;refine hK _ F γ _ _ hk (fun _ h=>h) (fun _ h=>.inl h) ?_;have:=h.step (dst:=o.dst) (r:=r) (v:=undef) (objs':=s.objs) hok h.heap hr (fun _ _ _ _ h=>h);exact this
 have exec:∀{s'},X3R P s o=some s'→wpR P ops l s' K→o.wp P a w Kc Q:=by
  intro s' hs hk;unfold X3R at hs;split at hs
  · rename_i r objs' he;split at hs
    · rename_i hok;cases hs;obtain⟨nx,v,w',γ',hrun,hnx,hh,hr,hkeep⟩:=X5i h he;have hrel:=h.step hok hh hr hkeep;unfold Oper.wp;rw[hrun];rcases hnx with rfl|⟨rfl,rfl⟩
      · exact hK _ F γ' _ _ hk (fun _ h=>h) (fun _ h=>.inl h) hrel
      exact hK _ F γ' _ _ hk (fun _ h=>h) (fun _ h=>.inl h) hrel
    cases hs
  cases hs
 simp only[wpR]at hw;split at hw
 · rename_i hn;have hwant:Region.wanted o (yielded ops a.tmps)=true:=by unfold Region.wanted;rw[hn]
   rw[hwant];simp only[if_true];refine .inl ?_;split at hw
   · exact X7q h hw hK
   split at hw
   · rename_i s' hs;exact exec hs hw
   exact hw.elim
 split at hw
 · rename_i b hg;rw[X02 h hg]
   have seen:∀{r:RV},b=true→XJ s o.dst=true→wpR P ops l (s.put o.dst (gdR b r)) K→(∃v,(execOp a.eval o).run P w=.ok (.value v) w∧X9 F γ w r v)→o.wp P a w Kc Q:=by
    rintro r hb hok hk ⟨v,hrun,hr⟩;unfold Oper.wp;rw[hrun];refine hK _ F γ _ _ hk (fun _ h=>h) (fun _ h=>.inl h) ?_;have:=h.step (dst:=o.dst) (r:=gdR b r) (v:=v) (objs':=s.objs) hok h.heap (X17 (fun _=>hr) (fun hf=>by rw[hb]at hf;cases hf)) (fun _ _ _ _ h=>h);exact this
   split at hw
   · cases b with
     | true=>
       simp only[if_true];refine .inl ?_;rcases hw with⟨h0,_⟩|hw
       · cases h0
       exact X89 h hw hK
     | false=>
       simp only[Bool.false_eq_true,if_false];rcases hw with⟨_,hok,hk⟩|hw
       · exact skip (.v (.one .any)) hok trivial hk
       obtain⟨r,hok,hk⟩:=Xah hw;exact skip _ hok (X17 (by simp) fun _=>rfl) hk
   split at hw
   · rename_i s' hs;unfold stpG at hs;split at hs
     · rename_i hok;split at hs
       · split at hs
         · rename_i r x he;cases hs;cases b with
           | true=>
             simp only[if_true];obtain⟨_,v,hrun,hr⟩:=X2a (F:=F) (γ:=γ) (w:=w) (fun x=>X1W rfl (h.opd x)) he;exact .inl (seen rfl hok hw ⟨v,hrun,hr⟩)
           | false=>
             simp only[Bool.false_eq_true,if_false];exact skip _ hok (X17 (by simp) fun _=>rfl) hw
         split at hs
         · rename_i hb;cases hs;subst hb;simp only[Bool.false_eq_true,if_false];exact skip (.v (.one .any)) hok trivial hw
         cases hs
       · split at hs
         · rename_i r he;cases hs;cases b with
           | true=>
             simp only[if_true];obtain⟨v,hrun,hr⟩:=X0T h.heap (fun x=>X1W rfl (h.opd x)) he;exact .inl (seen rfl hok hw ⟨v,hrun,hr⟩)
           | false=>
             simp only[Bool.false_eq_true,if_false];exact skip _ hok (X17 (by simp) fun _=>rfl) hw
         split at hs
         · rename_i hb;cases hs;subst hb;simp only[Bool.false_eq_true,if_false];exact skip (.v (.one .any)) hok trivial hw
         cases hs
       cases b with
       | true=>
         simp only[if_true];exact .inl (exec hs hw)
       | false=>
         cases hs;simp only[Bool.false_eq_true,if_false];exact skip (.v (.one .any)) hok trivial hw
     cases hs
   exact hw.elim
 exact hw.elim
theorem XaQ {ops:Array Oper} {K:HS→Prop} {Q:Exit→Act→World→Prop}:∀(l:List Oper) (k:Nat) (s:HS) (F:Nat→Prop) (γ:Nat→Value) (a:Act) (w:World),ops.toList.drop k=l→
  Rel w0 B π F γ s a w→wpR P ops l s K→
  (∀s' F' γ' a' w',K s'→(∀b,F b→F' b)→(∀b,F' b→F b∨¬B b)→Rel w0 B π F' γ' s' a' w'→Q .normal a' w')→
  wpOps P ops Q ((List.range' k l.length)) a w
 |[],k,s,F,γ,a,w,_,h,hw,hK=>hK s F γ a w hw (fun _ h=>h) (fun _ h=>.inl h) h
 | o::l,k,s,F,γ,a,w,hd,h,hw,hK=>by
   have hi:ops[k]? =some o:=by
    have:(ops.toList.drop k)[0]? =some o:=by rw[hd];rfl
    rw[List.getElem?_drop]at this;simpa using this
   rw[List.length_cons,List.range'_succ,wpOps_cons];refine X2s hi h hw fun s' F' γ' a' w' hw' h1 h2 hr=>?_;refine XaQ l (k+1) s' F' γ' a' w' ?_ hr hw' fun s2 F2 γ2 a2 w2 hk2 h3 h4 hr2=>?_
   · rw[←List.drop_drop,hd];rfl
   refine hK s2 F2 γ2 a2 w2 hk2 (fun b hb=>h3 b (h1 b hb)) (fun b hb=>?_) hr2;rcases h4 b hb with h|h
   · exact h2 b h
   exact .inr h
theorem X3T {id:Nat} {ops:Array Oper} {s:HS} {Q:Exit→HS→Prop} (h:wpR P ops ops.toList s (Q .normal)):HT P (.region id ops false) s Q:=by
 intro w0 B π F γ a w hr;refine wp_region ?_
 have:=XaQ (Q:=fun e a' w'=>∃(s':HS) (F':Nat→Prop) (γ':Nat→Value),Q e s'∧(∀b,F b→F' b)∧(∀b,F' b→F b∨¬B b)∧Rel w0 B π F' γ' s' a' w') ops.toList 0 s F γ a w (by simp) hr h
  fun s' F' γ' a' w' hk h1 h2 h3=>⟨s',F',γ',hk,h1,h2,h3⟩
 rw[List.range_eq_range'];simpa using this
def evs (P:Program) (ops:Array Oper):List Oper→HS→Option HS
 |[],s=>some s
 | o ::l,s=>match o.guard with
   | none=>match X3R P s o with
     |some s'=>evs P ops l s'
     |none=>none
   | some _=>match Za ops o s with
     | some b=>match stpG P s b o with
       |some s'=>if Q7 o.op=.call then none else evs P ops l s'
       |none=>none
     |none=>none
theorem X11 {ops:Array Oper} {K:HS→Prop}:∀(l:List Oper) (s s':HS),evs P ops l s=some s'→K s'→wpR P ops l s K
 |[],s,s',h,hk=>by cases h;exact hk
 | o :: l,s,s',h,hk=>by
   cases hgd:o.guard with
   | none=>
     simp only[evs,hgd]at h;simp only[wpR,hgd];split at h
     · rename_i s1 hs
       have hc:Q7 o.op≠ .call:=by
        intro hc;simp only[X3R,evOp,hc]at hs;cases hs
       split
       · rename_i e;exact absurd e hc
       exact X11 l s1 s' h hk
     cases h
   | some p=>
     simp only[evs,hgd]at h;simp only[wpR,hgd];cases hg:Za ops o s with
     |none=>rw[hg]at h;cases h
     | some b=>
       rw[hg]at h;simp only at h⊢;split at h
       · rename_i s1 hs;split at h
         · cases h
         rename_i hc;split
         · rename_i e;exact absurd e hc
         exact X11 l s1 s' h hk
       cases h
structure CR where
 fresh:Bool
 r:RV
 ob:Option Ob
def X61 (s:HS) (d:Nat) (own:Bool) (c:CR):Bool:=
 (c.fresh|| !own)&&(!c.ob.isSome||QY d s)&&c.r.onlyB c.ob.isSome d&&(match c.ob with|some o=>o.flat|none=>true)&&XJ s (some d)
def evc (P : Program) (ops:Array Oper):List Oper→HS→List CR→Option (HS×Prop)
 |[],s,_=>some (s,True)
 | o :: l, s, cs=>match o.guard with
   | none => (match Q7 o.op with
     | .call =>match cs with
       | c ::cs=>(match o.op,o.dst with
         | .call {callee:=.value x,args:=args, .. },some d=>match Wn s.objs (opd s.regs x),X1s s.objs (opd s.regs) args.toList with
           | some (f,own,es),some ts=>if X61 s d (own||args.toList.any fun x=>(opd s.regs x).ownB) c=true then
             (match evc P ops l ((s.made d c.ob).put (some d) c.r) cs with
             |some (s',p)=>some (s',Con P f c.fresh (ts++es) c.r c.ob d∧p)
             |none=>none)
             else none
           |_,_=>none
         |_,_=>none)
       |[]=>none
     | _=>match X3R P s o with
       |some s'=>evc P ops l s' cs
       |none=>none)
   | some _ => match Za ops o s with
     | some b =>(match Q7 o.op with
       | .call =>match cs with
         | c ::cs=>(match o.op,o.dst with
           | .call {callee:=.value x,args:=args, .. },some d=>match Wn s.objs (ZH b (opd s.regs x)),X1s s.objs (fun x=>ZH b (opd s.regs x)) args.toList with
             | some (f,own,es),some ts=>if X61 s d (own||args.toList.any fun x=>(ZH b (opd s.regs x)).ownB) c=true∧c.ob.isNone=true then
               (match evc P ops l (s.put (some d) (gdR b c.r)) cs with
               |some (s',p)=>some (s',Con P f c.fresh (ts++es) c.r c.ob d∧p)
               |none=>none)
               else none
             |_,_=>none
           |_,_=>none)
         |[]=>none
       | _=>match stpG P s b o with
         |some s'=>evc P ops l s' cs
         |none=>none)
     |none=>none
theorem X5G {s:HS} {d:Nat} {own:Bool} {c:CR} (h:X61 s d own c=true):(c.fresh=true∨own=false)∧(c.ob.isSome=true→QY d s=true)∧c.r.onlyB c.ob.isSome d=true∧(∀o,c.ob=some o→o.flat=true)∧XJ s (some d)=true:=by
 unfold X61 at h;simp only[Bool.and_eq_true,Bool.or_eq_true,Bool.not_eq_true']at h;obtain⟨⟨⟨⟨h1,h2⟩,h3⟩,h4⟩,h5⟩:=h;refine⟨h1,fun hs=>h2.resolve_left (by rw[hs];simp),h3,fun o ho=>?_,h5⟩;rw[ho]at h4;exact h4
theorem QK {ops:Array Oper} {K:HS→Prop}:∀(l:List Oper) (s s':HS) (cs:List CR) (p:Prop),evc P ops l s cs=some (s',p)→p→K s'→wpR P ops l s K
 |[],s,s',_,p,h,_,hk=>by cases h;exact hk
 | o :: l, s, s',cs,p,h,hp,hk=>by
   cases hgd:o.guard with
   | none =>
     simp only[evc,hgd]at h;simp only[wpR,hgd];split at h
     · rename_i hc;split at h
       · rename_i c cs;split at h
         · rename_i x args ts d ho hd;split at h
           · rename_i f own es tvs hf hts;split at h
             · rename_i hok;obtain⟨h1,h2,h3,h4,h5⟩:=X5G hok;split at h
               · rename_i s2 p2 hev;cases h;unfold X9S X1q;rw[ho,hd];simp only[hf,hts];exact⟨c.fresh,c.r,c.ob,hp.1,h1,h2,h3,h4,h5,QK l _ _ cs _ hev hp.2 hk⟩
               cases h
             cases h
           cases h
         cases h
       cases h
     rename_i hc;split at h
     · rename_i s1 hs;exact QK l s1 s' cs p h hp hk
     cases h
   | some q =>
     simp only[evc,hgd]at h;simp only[wpR,hgd];cases hg:Za ops o s with
     |none=>rw[hg]at h;cases h
     | some b =>
       rw[hg]at h;simp only at h⊢;split at h
       · rename_i hc;split at h
         · rename_i c cs;split at h
           · rename_i x args ts d ho hd;split at h
             · rename_i f own es tvs hf hts;split at h
               · rename_i hok;obtain⟨h1,h2,h3,h4,h5⟩:=X5G hok.1;split at h
                 · rename_i s2 p2 hev;cases h;refine .inr ?_;unfold callG X1q;rw[ho,hd];simp only[hf,hts];exact⟨c.fresh,c.r,c.ob,hp.1,h1,h2,h3,h4,h5,by simpa using hok.2,QK l _ _ cs _ hev hp.2 hk⟩
                 cases h
               cases h
             cases h
           cases h
         cases h
       rename_i hc;split at h
       · rename_i s1 hs;exact QK l s1 s' cs p h hp hk
       cases h
theorem W7 {id:Nat} {ops:Array Oper} {s s':HS} {p:Prop} {Q:Exit→HS→Prop} (cs:List CR) (h:evc P ops ops.toList s cs=some (s',p)) (hp:p) (hq:Q .normal s'):HT P (.region id ops false) s Q:=
 X3T (QK _ _ _ _ _ h hp hq)
theorem Xq {id:Nat} {ops:Array Oper} {s s':HS} {Q:Exit→HS→Prop} (h:evs P ops ops.toList s=some s') (hq:Q .normal s'):HT P (.region id ops false) s Q:=
 X3T (X11 _ _ _ h hq)
theorem XH {c:Code} {s s':HS} {Q:Exit→HS→Prop} (hl:le s s') (h:HT P c s' Q):HT P c s Q:=by
 intro w0 B π F γ a w hr;obtain⟨F',γ',h1,h2,hr'⟩:=hl w0 B π F γ a w hr;refine wp_mono (h w0 B π F' γ' a w hr') ?_;rintro e a' w' ⟨s2,F2,γ2,hq,h3,h4,hr2⟩;exact⟨s2,F2,γ2,hq,fun b hb=>h3 b (h1 b hb),fun b hb=>(h4 b hb).elim (h2 b) .inr,hr2⟩
theorem HT_mono {c:Code} {s:HS} {Q Q':Exit→HS→Prop} (h:HT P c s Q) (hq:∀e s',Q e s'→Q' e s'):HT P c s Q':=by
 intro w0 B π F γ a w hr;refine wp_mono (h w0 B π F γ a w hr) ?_;rintro e a' w' ⟨s2,F2,γ2,hq',h3⟩;exact⟨s2,F2,γ2,hq e s2 hq',h3⟩
def X7W (P:Program) (c:Code) (Q:Exit→HS→Prop):Exit→HS→Prop
 | .normal,s=>HT P c s Q
 |e,s=>Q e s
def X9Y (id:Nat) (Q:Exit→HS→Prop):Exit→HS→Prop
 | .exit k,s=>if k=id then Q .normal s else Q (.exit k) s
 |e,s=>Q e s
def X8L (I:HS→Prop) (Q:Exit→HS→Prop):Exit→HS→Prop
 | .normal,s=>I s
 |e,s=>Q e s
theorem X0 {x y:Code} {s:HS} {Q:Exit→HS→Prop} (h:HT P x s (X7W P y Q)):HT P (.seq x y) s Q:=by
 intro w0 B π F γ a w hr;refine wp_seq (wp_mono (h w0 B π F γ a w hr) ?_);rintro e a' w' ⟨s',F',γ',hq,h1,h2,hr'⟩;cases e with
 | normal=>
   refine wp_mono (hq w0 B π F' γ' a' w' hr') ?_;rintro e2 a2 w2 ⟨s2,F2,γ2,hq2,h3,h4,hr2⟩;exact⟨s2,F2,γ2,hq2,fun b hb=>h3 b (h1 b hb),fun b hb=>(h4 b hb).elim (h2 b) .inr,hr2⟩
 |_=>exact⟨s',F',γ',hq,h1,h2,hr'⟩
theorem HT_cut {σ:Type} {x y:Code} {s:HS} {Q:Exit→HS→Prop} (M:σ→HS) (J:σ→Prop) (h:HT P x s (X8L (fun s'=>∃z,J z∧le s' (M z)) Q)) (h2:∀z,J z→HT P y (M z) Q):HT P (.seq x y) s Q:=by
 refine X0 (HT_mono h ?_);intro e s' hq;cases e with
 |normal=>obtain⟨z,hj,hl⟩:=hq;exact XH hl (h2 z hj)
 |_=>exact hq
theorem X3 {id:Nat} {c:Code} {s:HS} {Q:Exit→HS→Prop} (h:HT P c s (X9Y id Q)):HT P (.block id c) s Q:=by
 intro w0 B π F γ a w hr;refine wp_block (wp_mono (h w0 B π F γ a w hr) ?_);rintro e a' w' ⟨s',F',γ',hq,h1,h2,hr'⟩;cases e with
 | exit k=>
   simp only[Exit.inBlock];simp only[X9Y]at hq;split
   · rename_i e;rw[if_pos e]at hq;exact⟨s',F',γ',hq,h1,h2,hr'⟩
   rename_i e;rw[if_neg e]at hq;exact⟨s',F',γ',hq,h1,h2,hr'⟩
 |_=>exact⟨s',F',γ',hq,h1,h2,hr'⟩
theorem Xb {s:HS} {Q:Exit→HS→Prop} (h:Q .normal s):HT P .skip s Q:=
 fun _ _ _ F γ _ _ hr=>wp_skip ⟨s,F,γ,h,fun _ h=>h,fun _ h=>.inl h,hr⟩
theorem Qm {s:HS} {Q:Exit→HS→Prop} (h:Q .ret s):HT P .ret s Q:=
 fun _ _ _ F γ _ _ hr=>wp_ret ⟨s,F,γ,h,fun _ h=>h,fun _ h=>.inl h,hr⟩
theorem Xg {id:Nat} {s:HS} {Q:Exit→HS→Prop} (h:Q (.exit id) s):HT P (.exit id) s Q:=
 fun _ _ _ F γ _ _ hr=>wp_exit ⟨s,F,γ,h,fun _ h=>h,fun _ h=>.inl h,hr⟩
theorem X7 {c:Operand} {x y:Code} {s:HS} {Q:Exit→HS→Prop} {t:Bool} (hc:opd s.regs c=.v (.one (.c (.lit (.bool t)))))
  (ht:t=true→HT P x s Q) (hf:t=false→HT P y s Q):HT P (.cond c x y) s Q:=by
 intro w0 B π F γ a w hr;have hx:=hr.opd c;rw[hc]at hx;have hv:a.eval c=.bool t:=X9.lit_eq rfl hx;exact wp_cond_split hv (fun e=>ht e w0 B π F γ a w hr) (fun e=>hf e w0 B π F γ a w hr)
theorem HT_loop {σ:Type} {c:Code} {s:HS} {Q:Exit→HS→Prop} (S:σ→HS) (J:σ→Prop) (μ:σ→Nat) (x0:σ) (j0:J x0) (h0:le s (S x0))
  (round:∀x,J x→HT P c (S x) (X8L (fun s'=>∃x',J x'∧μ x'<μ x∧le s' (S x')) Q)):HT P (.loop c) s Q:=by
 intro w0 B π F γ a w hr;obtain⟨F0,γ0,h1,h2,hr0⟩:=h0 w0 B π F γ a w hr;refine wp_loop_ghost (fun n a w=>∃x F' γ',J x∧μ x=n∧(∀b,F b→F' b)∧(∀b,F' b→F b∨¬B b)∧Rel w0 B π F' γ' (S x) a w) (μ x0) ⟨x0,F0,γ0,j0,rfl,h1,h2,hr0⟩ ?_;rintro n a w ⟨x,F',γ',hj,rfl,h3,h4,hr'⟩;refine wp_mono (round x hj w0 B π F' γ' a w hr') ?_;rintro e a' w' ⟨s',F2,γ2,hq,h5,h6,hr2⟩;cases e with
 | normal=>
   obtain⟨x',hj',hlt,hle⟩:=hq;obtain⟨F3,γ3,h7,h8,hr3⟩:=hle w0 B π F2 γ2 a' w' hr2;exact⟨μ x',hlt,x',F3,γ3,hj',rfl,fun b hb=>h7 b (h5 b (h3 b hb)),fun b hb=>(h8 b hb).elim (fun h=>(h6 b h).elim (h4 b) .inr) .inr,hr3⟩
 |_=>exact⟨s',F2,γ2,hq,fun b hb=>h5 b (h3 b hb),fun b hb=>(h6 b hb).elim (h4 b) .inr,hr2⟩
end
end Go.Hl
