/- HmL: part of an evaluator of Go code over abstract states, proved sound over the model; used by the proof of the claimed statement. Conditions: none. -/
import Derived.Test.YtdajceakaakdoaaGreatHmK
set_option linter.unusedSimpArgs false
set_option linter.unusedVariables false
namespace Go.Hl
open Go Go.RowKit
def noγ:Nat→Value:=fun _=>.nilFunc
def Res (fresh:Bool) (F N:Nat→Prop):Nat→Prop:=fun b=>N b∨(fresh=false∧F b)
def XU (P:Program) (f:FuncId):Bool:=
 match P.funcs[f]? with
 |some fn=> !(fn.name== "runtime.NumGoroutine")&&fn.body.isSome
 |none=>false
def Con (P:Program) (f:FuncId) (fresh:Bool) (args:List TV) (r:RV) (ob:Option Ob) (d:Nat):Prop:=
 XU P f=true∧∀(F:Nat→Prop) (w:World) (vs:Array Value),(∀b,F b→b<w.heap.size)→vs.size=args.length→
  (∀(j:Nat) t u,args[j]? =some t→vs[j]? =some u→XD F noγ w t u)→
  Calls P f vs w fun e w'=>∃(v:Value) (N:Nat→Prop) (γ':Nat→Value),e=.returned v∧Below w.heap.size w w'∧(∀b,N b→w.heap.size≤b∧b<w'.heap.size)∧
   X9 (Res fresh F N) γ' w' r v∧∀o,ob=some o→XT (Res fresh F N) γ' w' (fun b=>b<w.heap.size) (γ' d) o∧∀b,Blk (γ' d) b→¬N b
def X4G (s:Nat):Option (List (List CD))→CD
 |none=>.lit XW
 |some rs=>.sl s rs
def mpC:Option (List (Value×CD))→CD
 |none=>.lit (.map none)
 |some l=>.mp l
mutual
def Zj:Nat→List (Nat×Ob)→CV→Option CD
 |0,_,_=>none
 | k + 1,objs,x=>match x with
   | .c d=>some d
   | .own n=>match lkp objs n with
     |some (.row _ s rows)=>some (.sl s rows)
     |some (.mp l)=>some (.mp l)
     |some (.mat _ _ s rows)=>some (.sl 1 (rows.map fun r=>[X4G s r]))
     |some (.mps _ ms)=>some (.sl 1 (ms.map fun r=>[mpC r]))
     |_=>none
   | .at_ n off=>match lkp objs n with
     | some (.box cs)=>match X3Z k objs cs with
       |some ds=>some (.ptr (ds.drop off))
       |none=>none
     |_=>none
   | .fn f caps=>match X1t k objs caps with
     |some ds=>some (.fn f ds)
     |none=>none
   |_=>none
 termination_by k _ _=>(k,0)
def X3Z:Nat→List (Nat×Ob)→List CV→Option (List CD)
 |_,_,[]=>some []
 | k,objs,x::l=>match Zj k objs x,X3Z k objs l with
   |some d,some ds=>if d.cell=true then some (d::ds)else none
   |_,_=>none
 termination_by k _ l=>(k,l.length+1)
def X1t:Nat→List (Nat×Ob)→List (Nat×Nat)→Option (List CD)
 |_,_,[]=>some []
 | k,objs,(n,off)::l=>match Zj k objs (.at_ n off),X1t k objs l with
   |some d,some ds=>some (d::ds)
   |_,_=>none
 termination_by k _ l=>(k,l.length+1)
end
def brw (objs:List (Nat×Ob)):CV→Option CV
 | .any=>some .any
 | .c d=>some (.c d)
 | .fn f []=>some (.fn f [])
 |x=>(Zj 4 objs x).map .c
def Wn (objs:List (Nat×Ob)):RV→Option (FuncId×Bool×List TV)
 | .v (.one (.fn f caps))=>match X1t 4 objs caps with
   |some ds=>some (f,!caps.isEmpty,ds.map fun d=>.one (.c d))
   |none=>none
 | .v (.one (.c (.fn f ds)))=>some (f,false,ds.map fun d=>.one (.c d))
 |_=>none
def brwL (objs:List (Nat×Ob)):List CV→Option (List CV)
 |[]=>some []
 | x::l=>match brw objs x,brwL objs l with
   |some y,some m=>some (y::m)
   |_,_=>none
def X1B (objs:List (Nat×Ob)):RV→Option TV
 | .v (.one x)=>match brw objs x with
   |some y=>some (.one y)
   |none=>none
 | .v (.agg xs)=>match brwL objs xs with
   |some ys=>some (.agg ys)
   |none=>none
 | .tup _=>none
def X1s (objs:List (Nat×Ob)) (g:Operand→RV):List Operand→Option (List TV)
 |[]=>some []
 | x::l=>match X1B objs (g x),X1s objs g l with
   |some t,some ts=>some (t::ts)
   |_,_=>none
def CV.ownB:CV→Bool
 | .own _=>true
 | .at_ _ _=>true
 | .fn _ caps=> !caps.isEmpty
 |_=>false
def RV.ownB:RV→Bool
 | .v (.one x)=>x.ownB
 | .v (.agg xs)=>xs.any CV.ownB
 | .tup _=>true
def CV.onlyB (ob:Bool) (d:Nat):CV→Bool
 | .own n=>ob&&n==d
 | .at_ n _=>ob&&n==d
 | .el n _ _ _=>ob&&n==d
 | .sub n _=>ob&&n==d
 | .el2 n _ _ _ _=>ob&&n==d
 | .fn _ caps=>caps.isEmpty
 | .gd _ _=>false
 |_=>true
def TV.onlyB (ob:Bool) (d:Nat):TV→Bool
 | .one x=>x.onlyB ob d
 | .agg xs=>xs.all (CV.onlyB ob d)
def RV.onlyB (ob:Bool) (d:Nat):RV→Bool
 | .v t=>t.onlyB ob d
 | .tup ts=>ts.all (TV.onlyB ob d)
def Ob.flat:Ob→Bool
 | .box cs=>cs.all (CV.onlyB false 0)
 | .refs _ _=>false
 | .mps _ _=>false
 | .it _ _=>false
 |_=>true
def HS.made (s:HS) (d:Nat) (ob:Option Ob):HS:=
 match ob with
 |some o=>{s with objs:=ins d o s.objs}
 |none=>s
def X1q (P:Program) (s:HS) (g:Operand→RV) (o:Oper) (K:Nat→RV→Option Ob→Prop):Prop:=
 match o.op,o.dst with
 | .call {callee:=.value x,args:=args, .. },some d=>match Wn s.objs (g x),X1s s.objs g args.toList with
   | some (f,own,es),some ts=>∃(fresh:Bool) (r:RV) (ob:Option Ob),Con P f fresh (ts++es) r ob d∧(fresh=true∨(own||args.toList.any fun x=>(g x).ownB)=false)∧
     (ob.isSome=true→QY d s=true)∧r.onlyB ob.isSome d=true∧(∀o,ob=some o→o.flat=true)∧XJ s (some d)=true∧K d r ob
   |_,_=>False
 |_,_=>False
def X9S (P:Program) (s:HS) (o:Oper) (K:HS→Prop):Prop:=X1q P s (opd s.regs) o fun d r ob=>K ((s.made d ob).put (some d) r)
def callG (P:Program) (s:HS) (b:Bool) (o:Oper) (K:HS→Prop):Prop:=X1q P s (fun x=>ZH b (opd s.regs x)) o fun d r ob=>ob=none∧K (s.put (some d) (gdR b r))
section
variable {P:Program} {F:Nat→Prop} {γ:Nat→Value} {w w' w0:World} {B:Nat→Prop} {π:Nat→Option Value}
def X1P (γ:Nat→Value) (objs:List (Nat×Ob)):Nat→Prop:=fun b=>∃n o,lkp objs n=some o∧Blk (γ n) b
theorem X5p {e:TypeId} {s:Nat} {rows:List (List CD)} {x:Value} {G:Nat→Prop} (h:Xr F w B e s x rows) (hF:∀b,F b→G b) (hx:∀b,blk x=some b→G b):CRel G w (.sl s rows) x:=by
 obtain⟨h0,hss,xs,hown,h1,hc⟩:=h;rcases hown.2 with⟨rfl,hn⟩|⟨b,oo,cap,cur,rfl,hB,hh,hcap,hmax,hsz,htake⟩
 · have:rows=[]:=List.eq_nil_of_length_eq_zero hn;subst this;exact .nil s
 refine .sl s rows b oo cap (fun i j=>xs.getD (i*s+j) undef) (hx b rfl) hcap hmax hss ?_ ?_ ?_
 · intro i j d hd;obtain⟨u,hu,hr⟩:=hc i j d hd;have:=hown.cells _ u hu;rw[QW]at this;rw[this];simp[List.getD,hu]
 · intro i j d hd;obtain⟨u,hu,hr⟩:=hc i j d hd;simp only[List.getD,hu,Option.getD_some];exact h1 u (List.mem_of_getElem? hu)
 intro i j d hd;obtain⟨u,hu,hr⟩:=hc i j d hd;simp only[List.getD,hu,Option.getD_some];exact hr.mono hF fun _ _=>rfl
theorem X5F {e e':TypeId} {s:Nat} {rows:List (Option (List (List CD)))} {x:Value} {G:Nat→Prop} (h:XT F γ w B x (.mat e e' s rows)) (hF:∀b,F b→G b) (hx:∀b,Blk x b→G b):
  CRel G w (.sl 1 (rows.map fun r=>[X4G s r])) (Hl.hd x):=by
 obtain⟨o,is,rfl,h0,hlen,⟨xs,hown,hxs⟩,hin,hd1,hd2⟩:=h;show CRel G w _ o;have hG:∀b,blk o=some b→G b:=fun b hb=>hx b ⟨o,by simp,hb⟩
 have hlen1:∀r∈rows.map (fun r=>[X4G s r]),r.length=1:=by
  intro r hr;obtain⟨q,_,rfl⟩:=List.mem_map.1 hr;rfl
 have get:∀i j d,XG (rows.map fun r=>[X4G s r]) i j=some d→∃r v,j=0∧rows[i]? =some r∧is[i]? =some v∧d=X4G s r∧xs[i]? =some (ZV v r):=by
  intro i j d hd;have hj:=(WO hlen1 hd).2;have hj0:j=0:=by omega
  subst hj0;unfold XG at hd;rw[List.getElem?_map]at hd;cases hr:rows[i]? with
  |none=>simp[hr]at hd
  | some r=>
    simp only[hr,Option.map_some,Option.bind_some,List.getElem?_cons_zero,Option.some.injEq]at hd;have hil:i<is.length:=by rw[hlen];exact(List.getElem?_eq_some_iff.1 hr).1
    exact⟨r,is[i],rfl,rfl,by simp[hil],hd.symm,hxs i _ r (by simp[hil]) hr⟩
 have rel:∀(i:Nat) r v,rows[i]? =some r→is[i]? =some v→CRel G w (X4G s r) (ZV v r)∧(ZV v r).oneCell'=true:=by
  intro i r v hr hv;have:=hin i v r hv hr;cases r with
  |none=>exact⟨CRel.lit _,rfl⟩
  | some rs=>
    have hro:Xr F w B e' s v rs:=this;refine⟨X5p hro hF fun b hb=>hx b ⟨v,by simp[List.mem_of_getElem? hv],hb⟩,?_⟩;obtain⟨_,_,_,rfl⟩:=hro.sl;rfl
 rcases hown.2 with⟨rfl,hn⟩|⟨b,oo,cap,cur,rfl,hB,hh,hcap,hmax,hsz,htake⟩
 · have:rows=[]:=List.eq_nil_of_length_eq_zero hn;subst this;exact .nil 1
 have:=CRel.sl (F:=G) (w:=w) 1 (rows.map fun r=>[X4G s r]) b oo cap (fun i _=>xs.getD i undef) (hG b rfl) (by simpa using hcap) hmax hlen1 ?_ ?_ ?_
 · simpa using this
 · intro i j d hd;obtain⟨r,v,rfl,hr,hv,rfl,hx⟩:=get i j d hd;have:=hown.cells _ _ hx;rw[QW]at this;simp only[Nat.mul_one,Nat.add_zero,List.getD,hx,Option.getD_some];exact this
 · intro i j d hd;obtain⟨r,v,rfl,hr,hv,rfl,hx⟩:=get i j d hd;simp only[List.getD,hx,Option.getD_some];exact(rel i r v hr hv).2
 intro i j d hd;obtain⟨r,v,rfl,hr,hv,rfl,hx⟩:=get i j d hd;simp only[List.getD,hx,Option.getD_some];exact(rel i r v hr hv).1
theorem X8k {e:TypeId} {rows:List (Option (List (Value×CD)))} {x:Value} {G:Nat→Prop} (h:XT F γ w B x (.mps e rows)) (hF:∀b,F b→G b) (hx:∀b,Blk x b→G b):
  CRel G w (.sl 1 (rows.map fun r=>[mpC r])) (Hl.hd x):=by
 obtain⟨o,is,rfl,hlen,⟨xs,hown,hxs⟩,hin,hd1,hd2⟩:=h;show CRel G w _ o;have hG:∀b,blk o=some b→G b:=fun b hb=>hx b ⟨o,by simp,hb⟩
 have hlen1:∀r∈rows.map (fun r=>[mpC r]),r.length=1:=by
  intro r hr;obtain⟨q,_,rfl⟩:=List.mem_map.1 hr;rfl
 have get:∀i j d,XG (rows.map fun r=>[mpC r]) i j=some d→∃r v,j=0∧rows[i]? =some r∧is[i]? =some v∧d=mpC r∧xs[i]? =some (X0s v r):=by
  intro i j d hd;have hj:=(WO hlen1 hd).2;have hj0:j=0:=by omega
  subst hj0;unfold XG at hd;rw[List.getElem?_map]at hd;cases hr:rows[i]? with
  |none=>simp[hr]at hd
  | some r=>
    simp only[hr,Option.map_some,Option.bind_some,List.getElem?_cons_zero,Option.some.injEq]at hd;have hil:i<is.length:=by rw[hlen];exact(List.getElem?_eq_some_iff.1 hr).1
    exact⟨r,is[i],rfl,rfl,by simp[hil],hd.symm,hxs i _ r (by simp[hil]) hr⟩
 have rel:∀(i:Nat) r v,rows[i]? =some r→is[i]? =some v→CRel G w (mpC r) (X0s v r)∧(X0s v r).oneCell'=true:=by
  intro i r v hr hv;have:=hin i v r hv hr;cases r with
  |none=>exact⟨CRel.lit _,rfl⟩
  | some rs=>
    obtain⟨b,es,clock,rfl,hB,hb,hk,hn,hr⟩:=(show X1h F w B v rs from this);exact⟨.mp rs b es clock (hx b ⟨.map (some b),by simp[List.mem_of_getElem? hv],rfl⟩) hb hk hn fun j k d e h1 h2=>(hr j k d e h1 h2).mono hF fun _ _=>rfl,rfl⟩
 rcases hown.2 with⟨rfl,hn⟩|⟨b,oo,cap,cur,rfl,hB,hh,hcap,hmax,hsz,htake⟩
 · have:rows=[]:=List.eq_nil_of_length_eq_zero hn;subst this;exact .nil 1
 have:=CRel.sl (F:=G) (w:=w) 1 (rows.map fun r=>[mpC r]) b oo cap (fun i _=>xs.getD i undef) (hG b rfl) (by simpa using hcap) hmax hlen1 ?_ ?_ ?_
 · simpa using this
 · intro i j d hd;obtain⟨r,v,rfl,hr,hv,rfl,hx⟩:=get i j d hd;have:=hown.cells _ _ hx;rw[QW]at this;simp only[Nat.mul_one,Nat.add_zero,List.getD,hx,Option.getD_some];exact this
 · intro i j d hd;obtain⟨r,v,rfl,hr,hv,rfl,hx⟩:=get i j d hd;simp only[List.getD,hx,Option.getD_some];exact(rel i r v hr hv).2
 intro i j d hd;obtain⟨r,v,rfl,hr,hv,rfl,hx⟩:=get i j d hd;simp only[List.getD,hx,Option.getD_some];exact(rel i r v hr hv).1
def Owns (F:Nat→Prop) (γ:Nat→Value) (objs:List (Nat×Ob)):Nat→Prop:=fun b=>F b∨X1P γ objs b
theorem X6m {objs:List (Nat×Ob)} (hh:HeapRel w0 B π F γ objs w):∀(k:Nat),(∀x d v,Zj k objs x=some d→Xn F γ w x v→CRel (Owns F γ objs) w d v)∧
  (∀(xs:List CV) ds,X3Z k objs xs=some ds→ds.length=xs.length∧∀(j:Nat) d,ds[j]? =some d→d.cell=true∧∃x,xs[j]? =some x∧∀v,Xn F γ w x v→CRel (Owns F γ objs) w d v)∧
  (∀(ps:List (Nat×Nat)) ds,X1t k objs ps=some ds→ds.length=ps.length∧∀(j:Nat) d,ds[j]? =some d→∃p:Nat×Nat,ps[j]? =some p∧∀v,Xn F γ w (.at_ p.1 p.2) v→CRel (Owns F γ objs) w d v):=by
 have hL :∀k,(∀x d v,Zj k objs x=some d→Xn F γ w x v→CRel (Owns F γ objs) w d v)→
   (∀(xs:List CV) ds,X3Z k objs xs=some ds→ds.length=xs.length∧∀(j:Nat) d,ds[j]? =some d→d.cell=true∧∃x,xs[j]? =some x∧∀v,Xn F γ w x v→CRel (Owns F γ objs) w d v)∧
   (∀(ps:List (Nat×Nat)) ds,X1t k objs ps=some ds→ds.length=ps.length∧∀(j:Nat) d,ds[j]? =some d→∃p:Nat×Nat,ps[j]? =some p∧∀v,Xn F γ w (.at_ p.1 p.2) v→CRel (Owns F γ objs) w d v):=by
  intro k hC;refine⟨fun xs=>?_,fun ps=>?_⟩
  · induction xs with
    |nil=>intro ds h;unfold X3Z at h;cases h;simp
    | cons x xs ih=>
      intro ds h;unfold X3Z at h;split at h
      · rename_i d ds' hd hds;split at h
        · rename_i hc;cases h;obtain⟨h1,h2⟩:=ih ds' hds;refine⟨by simp[h1],fun j d' hj=>?_⟩;cases j with
          |zero=>cases hj;exact⟨hc,x,rfl,fun v hv=>hC x d v hd hv⟩
          |succ j=>exact h2 j d' hj
        cases h
      cases h
  induction ps with
  |nil=>intro ds h;unfold X1t at h;cases h;simp
  | cons p ps ih=>
    obtain⟨n,off⟩:=p;intro ds h;unfold X1t at h;split at h
    · rename_i d ds' hd hds;cases h;obtain⟨h1,h2⟩:=ih ds' hds;refine⟨by simp[h1],fun j d' hj=>?_⟩;cases j with
      |zero=>cases hj;exact⟨(n,off),rfl,fun v hv=>hC _ d v hd hv⟩
      |succ j=>exact h2 j d' hj
    cases h
 intro k
 induction k with
 | zero=>
   have h0:∀x d v,Zj 0 objs x=some d→Xn F γ w x v→CRel (Owns F γ objs) w d v:=by
    intro x d v h;unfold Zj at h;cases h
   exact⟨h0,hL 0 h0⟩
 | succ k ih=>
   obtain⟨_,ihL,ihP⟩:=ih
   have hC :∀x d v,Zj (k+1) objs x=some d→Xn F γ w x v→CRel (Owns F γ objs) w d v:=by
    intro x d v h hv;unfold Zj at h;split at h
    · cases h;exact CRel.mono (fun _ h=>.inl h) (fun _ _=>rfl) hv
    · rename_i n;obtain⟨hv1,_⟩:=hv;split at h
      · rename_i e s rows hl;cases h;have hro:Xr F w B e s (γ n) rows:=hh.ob n _ hl;rw[hv1,Zc hro.sl];exact X5p hro (fun _ h=>.inl h) fun b hb=>.inr ⟨n,_,hl,(W5 hro.sl).2 hb⟩
      · rename_i l hl;cases h;obtain⟨b,es,clock,hγ,hB,hb,hk,hn,hr⟩:=hh.ob n _ hl;rw[hv1,hγ];exact .mp l b es clock (.inr ⟨n,_,hl,by rw[hγ];rfl⟩) hb hk hn fun j k d e h1 h2=>(hr j k d e h1 h2).mono (fun _ h=>.inl h) fun _ _=>rfl
      · rename_i e e' s rows hl;cases h;rw[hv1];exact X5F (hh.ob n _ hl) (fun _ h=>.inl h) fun b hb=>.inr ⟨n,_,hl,hb⟩
      · rename_i e ms hl;cases h;rw[hv1];exact X8k (hh.ob n _ hl) (fun _ h=>.inl h) fun b hb=>.inr ⟨n,_,hl,hb⟩
      cases h
    · rename_i n off;obtain⟨b,hb,rfl⟩:=hv;split at h
      · rename_i cs hl;split at h
        · rename_i ds hds;cases h;obtain⟨h1,h2⟩:=ihL cs ds hds;obtain⟨b',e,vs,hγ,hB,hh',hc⟩:=hh.ob n _ hl;rw[hb]at hγ;cases hγ
          have hlt:∀j d,(ds.drop off)[j]? =some d→off+j<vs.size:=by
           intro j d hj;rw[List.getElem?_drop]at hj;rw[hc.1,←h1];exact(List.getElem?_eq_some_iff.1 hj).1
          refine .ptr _ b off (fun j=>vs.getD (off+j) undef) (.inr ⟨n,_,hl,by rw[hb];rfl⟩) (fun j d hj=>?_) (fun j d hj=>?_) (fun j d hj=>?_)
          · have:=hlt j d hj;rw[cell_of_row w b _ vs e (0,0) hh'];simp[this]
          · have hlt':=hlt j d hj;rw[List.getElem?_drop]at hj;obtain⟨hcell,x,hx,hr⟩:=h2 _ d hj;have hr':=hr _ (hc.2 _ x vs[off+j] hx (by simp[hlt']));have:(vs.getD (off+j) undef)=vs[off+j]:=by simp[hlt']
            rw[this];exact Xn.one (x:=.c d) (γ:=γ) hcell hr'
          have hlt':=hlt j d hj;rw[List.getElem?_drop]at hj;obtain⟨hcell,x,hx,hr⟩:=h2 _ d hj;have hr':=hr _ (hc.2 _ x vs[off+j] hx (by simp[hlt']));have:(vs.getD (off+j) undef)=vs[off+j]:=by simp[hlt']
          rw[this];exact hr'
        cases h
      cases h
    · rename_i f caps;split at h
      · rename_i ds hds;cases h;obtain⟨h1,h2⟩:=ihP caps ds hds;obtain⟨vs,rfl,hl,hc⟩:=hv;refine .fn f ds vs (by rw[hl,h1]) fun j d u hd hu=>?_;obtain⟨p,hp,hr⟩:=h2 j d hd;exact hr u (hc j p u hp hu)
      cases h
    cases h
   exact⟨hC,hL _ hC⟩
theorem X6d {objs:List (Nat×Ob)} (hh:HeapRel w0 B π F γ objs w) {x y:CV} {v:Value} (h:brw objs x=some y) (hr:Xn F γ w x v):
  Xn (fun b=>F b∨X1P γ objs b) noγ w y v:=by
 unfold brw at h;split at h
 · cases h;exact trivial
 · cases h;exact CRel.mono (fun _ h=>.inl h) (fun _ _=>rfl) hr
 · cases h;obtain⟨vs,hv,hl,_⟩:=hr;exact⟨vs,hv,hl,by simp⟩
 simp only[Option.map_eq_some_iff]at h;obtain⟨d,hd,rfl⟩:=h;exact(X6m hh 4).1 x d v hd hr
theorem ZY {objs:List (Nat×Ob)} (hh:HeapRel w0 B π F γ objs w):∀{xs ys:List CV},brwL objs xs=some ys→ys.length=xs.length∧∀(j:Nat) (y:CV),ys[j]? =some y→∃x,xs[j]? =some x∧brw objs x=some y
 |[],ys,h=>by cases h;simp
 | x ::xs,ys,h=>by
   simp only[brwL]at h;split at h
   · rename_i y m hy hm;cases h;obtain⟨h1,h2⟩:=ZY hh hm;refine⟨by simp[h1],fun j z hz=>?_⟩;cases j with
     |zero=>cases hz;exact⟨x,rfl,hy⟩
     |succ j=>exact h2 j z hz
   cases h
theorem X2x {objs:List (Nat×Ob)} (hh:HeapRel w0 B π F γ objs w) {r:RV} {t:TV} {v:Value} (h:X1B objs r=some t) (hr:X9 F γ w r v):
  XD (fun b=>F b∨X1P γ objs b) noγ w t v:=by
 unfold X1B at h;split at h
 · split at h
   · rename_i y hy;cases h;exact X6d hh hy hr
   cases h
 · split at h
   · rename_i xs _ ys hy;cases h;obtain⟨vs,rfl,hs,hc⟩:=hr;obtain⟨h1,h2⟩:=ZY hh hy;refine⟨vs,rfl,by rw[hs,h1],fun j y u hyj hu=>?_⟩;obtain⟨x,hx,hb⟩:=h2 j y hyj;exact X6d hh hb (hc j x u hx hu)
   cases h
 cases h
theorem X9b {objs:List (Nat×Ob)} {x y:CV} {v:Value} (hx:x.ownB=false) (h:brw objs x=some y) (hr:Xn F γ w x v):Xn F noγ w y v:=by
 unfold brw at h;split at h
 · cases h;exact trivial
 · cases h;exact hr
 · cases h;obtain⟨vs,hv,hl,_⟩:=hr;exact⟨vs,hv,hl,by simp⟩
 simp only[Option.map_eq_some_iff]at h;obtain⟨d,hd,rfl⟩:=h;cases x with
 |own n=>cases hx
 |at_ n off=>cases hx
 | fn f caps=>
   simp only[CV.ownB,Bool.not_eq_false',List.isEmpty_iff]at hx;subst hx;unfold Zj X1t at hd;cases hd;obtain⟨vs,rfl,hl,_⟩:=hr;exact CRel.fn f [] vs hl (by simp)
 |c d'=>unfold Zj at hd;cases hd;exact hr
 |_=>unfold Zj at hd;cases hd
theorem X4l {objs:List (Nat×Ob)} (hh:HeapRel w0 B π F γ objs w) {r:RV} {t:TV} {v:Value} (hx:r.ownB=false) (h:X1B objs r=some t) (hr:X9 F γ w r v):XD F noγ w t v:=by
 unfold X1B at h;split at h
 · split at h
   · rename_i y hy;cases h;exact X9b hx hy hr
   cases h
 · split at h
   · rename_i xs _ ys hy;cases h;obtain⟨vs,rfl,hs,hc⟩:=hr;obtain⟨h1,h2⟩:=ZY hh hy;refine⟨vs,rfl,by rw[hs,h1],fun j y u hyj hu=>?_⟩;obtain⟨x,hxj,hb⟩:=h2 j y hyj;refine X9b ?_ hb (hc j x u hxj hu);simp only[RV.ownB]at hx;rw[List.any_eq_false]at hx;simpa using hx x (List.mem_of_getElem? hxj)
   cases h
 cases h
theorem X0Z {objs:List (Nat×Ob)} {g:Operand→RV}:∀{xs:List Operand} {ts:List TV},X1s objs g xs=some ts→ts.length=xs.length∧∀(j:Nat) (t:TV),ts[j]? =some t→∃x,xs[j]? =some x∧X1B objs (g x)=some t
 |[],ts,h=>by cases h;simp
 | x ::xs,ts,h=>by
   simp only[X1s]at h;split at h
   · rename_i y m hy hm;cases h;obtain⟨h1,h2⟩:=X0Z hm;refine⟨by simp[h1],fun j z hz=>?_⟩;cases j with
     |zero=>cases hz;exact⟨x,rfl,hy⟩
     |succ j=>exact h2 j z hz
   cases h
theorem Xn.only {ob:Bool} {d:Nat} {γ':Nat→Value} {x:CV} {v:Value} (h:x.onlyB ob d=true) (hd:ob=true→γ' d=γ d) (hr:Xn F γ w x v):Xn F γ' w x v:=by
 cases x with
 |any=>trivial
 |gd b x=>cases h
 |c d=>exact hr
 | own n=>
   simp only[CV.onlyB,Bool.and_eq_true,beq_iff_eq]at h;obtain⟨h1,rfl⟩:=h;simp only[Xn]at*;rw[hd h1];exact hr
 | at_ n off=>
   simp only[CV.onlyB,Bool.and_eq_true,beq_iff_eq]at h;obtain⟨h1,rfl⟩:=h;simp only[Xn]at*;rw[hd h1];exact hr
 | el n s i off=>
   simp only[CV.onlyB,Bool.and_eq_true,beq_iff_eq]at h;obtain⟨h1,rfl⟩:=h;simp only[Xn]at*;rw[hd h1];exact hr
 | sub n i=>
   simp only[CV.onlyB,Bool.and_eq_true,beq_iff_eq]at h;obtain⟨h1,rfl⟩:=h;simp only[Xn]at*;rw[hd h1];exact hr
 | el2 n s i j off=>
   simp only[CV.onlyB,Bool.and_eq_true,beq_iff_eq]at h;obtain⟨h1,rfl⟩:=h;simp only[Xn]at*;rw[hd h1];exact hr
 | fn f caps=>
   simp only[CV.onlyB,List.isEmpty_iff]at h;subst h;obtain⟨vs,hv,hl,_⟩:=hr;exact⟨vs,hv,hl,by simp⟩
theorem XD.only {ob:Bool} {d:Nat} {γ':Nat→Value} {x:TV} {v:Value} (h:x.onlyB ob d=true) (hd:ob=true→γ' d=γ d) (hr:XD F γ w x v):XD F γ' w x v:=by
 cases x with
 |one x=>exact Xn.only h hd hr
 | agg xs=>
   obtain⟨vs,rfl,hs,hc⟩:=hr;simp only[TV.onlyB,List.all_eq_true]at h;exact⟨vs,rfl,hs,fun j x u hx hu=>(hc j x u hx hu).only (h x (List.mem_of_getElem? hx)) hd⟩
theorem X9.only {ob:Bool} {d:Nat} {γ':Nat→Value} {x:RV} {v:Value} (h:x.onlyB ob d=true) (hd:ob=true→γ' d=γ d) (hr:X9 F γ w x v):X9 F γ' w x v:=by
 cases x with
 |v t=>exact XD.only h hd hr
 | tup ts=>
   obtain⟨vs,rfl,hs,hc⟩:=hr;simp only[RV.onlyB,List.all_eq_true]at h;exact⟨vs,rfl,hs,fun j x u hx hu=>(hc j x u hx hu).only (h x (List.mem_of_getElem? hx)) hd⟩
theorem XT.only {γ':Nat→Value} {o:Ob} {x:Value} (h:o.flat=true) (hr:XT F γ w B x o):XT F γ' w B x o:=by
 cases o with
 | box cs=>
   obtain⟨b,e,vs,rfl,hB,hh,hs,hc⟩:=hr;simp only[Ob.flat,List.all_eq_true]at h;exact⟨b,e,vs,rfl,hB,hh,hs,fun j x u hx hu=>(hc j x u hx hu).only (h x (List.mem_of_getElem? hx)) (by simp)⟩
 |row e s rows=>exact hr
 |mp l=>exact hr
 |mat e e' s rows=>exact hr
 |refs e ns=>cases h
 |mps e ms=>cases h
 |it l seen=>cases h
theorem HeapRel.called {objs:List (Nat×Ob)} (h:HeapRel w0 B π F γ objs w) (hb:Below w.heap.size w w') {N:Nat→Prop} (hN:∀b,N b→w.heap.size≤b∧b<w'.heap.size):
  HeapRel w0 B π (fun b=>F b∨N b) γ objs w' where
 below:=h.below.trans (Kept.of_below hb h.hB)
 hB:=fun b hx=>Nat.lt_of_lt_of_le (h.hB b hx) hb.size
 fsz b hF:=by
  rcases hF with hF|hF
  · exact Nat.lt_of_lt_of_le (h.fsz b hF) hb.size
  exact(hN b hF).2
 ob n o ho:=by
  have h1:=h.ob n o ho;exact h1.mono (fun _ h=>.inl h) (fun b hF=>hb.block b (h.fsz b hF)) fun b hbk=>hb.block b (h1.blk_lt hbk).2
 apart n o ho b hbk hF:=by
  rcases hF with hF|hF
  · exact h.apart n o ho b hbk hF
  have:=(h.ob n o ho).blk_lt hbk;have:=hN b hF;omega
 sep:=h.sep
 pin:=h.pin
theorem Qy.low {B B':Nat→Prop} {e:TypeId} {s n:Nat} {x:Value} {xs:List Value} (hB:∀b,B b→B' b) (h:Qy w B' e s x n xs):Qy w B e s x n xs:=by
 refine⟨h.1,?_⟩;rcases h.2 with h|⟨b,oo,cap,cur,h1,h2,h3⟩
 · exact .inl h
 exact .inr ⟨b,oo,cap,cur,h1,fun hx=>h2 (hB _ hx),h3⟩
theorem Xr.low {B B':Nat→Prop} {e:TypeId} {s:Nat} {x:Value} {rows:List (List CD)} (hB:∀b,B b→B' b) (h:Xr F w B' e s x rows):Xr F w B e s x rows:=by
 obtain⟨h0,hs,xs,hown,h3⟩:=h;exact⟨h0,hs,xs,hown.low hB,h3⟩
theorem X1y {objs:List (Nat×Ob)} (hh:HeapRel w0 B π F γ objs w) {r:RV} {f:FuncId} {own:Bool} {es:List TV} {v:Value} (h:Wn objs r=some (f,own,es)) (hr:X9 F γ w r v):
  ∃us:List Value,v=.func (.func f) #[] us.toArray∧us.length=es.length∧(∀(j:Nat) t u,es[j]? =some t→us[j]? =some u→XD (fun b=>F b∨X1P γ objs b) noγ w t u)∧
   (own=false→∀(j:Nat) t u,es[j]? =some t→us[j]? =some u→XD F noγ w t u):=by
 unfold Wn at h;split at h
 · rename_i f caps;split at h
   · rename_i ds hds;cases h;obtain⟨h1,h2⟩:=(X6m hh 4).2.2 caps ds hds;obtain⟨vs,rfl,hl,hc⟩:=hr;refine⟨vs,rfl,by simp[hl,h1],fun j t u ht hu=>?_,fun ho j t u ht hu=>?_⟩
     · rw[List.getElem?_map]at ht;simp only[Option.map_eq_some_iff]at ht;obtain⟨d,hd,rfl⟩:=ht;obtain⟨p,hp,hr⟩:=h2 j d hd;exact hr u (hc j p u hp hu)
     simp only[Bool.not_eq_false',List.isEmpty_iff]at ho;subst ho;have:ds=[]:=List.eq_nil_of_length_eq_zero (by simpa using h1);subst this;simp at ht
   cases h
 · rename_i f ds;cases h;have hr':CRel F w (.fn f ds) v:=hr;cases hr' with
   | fn _ _ vs hl hc=>
     have key:∀(j:Nat) t u,(ds.map fun d=>TV.one (.c d))[j]? =some t→vs[j]? =some u→XD F noγ w t u:=by
      intro j t u ht hu;rw[List.getElem?_map]at ht;simp only[Option.map_eq_some_iff]at ht;obtain⟨d,hd,rfl⟩:=ht;exact hc j d u hd hu
     exact⟨vs,rfl,by simp[hl],fun j t u ht hu=>(key j t u ht hu).mono (fun _ h=>.inl h) fun _ _=>rfl,fun _=>key⟩
 cases h
theorem X1F {s:HS} {a:Act} {o:Oper} {g:Operand→RV} {K:Nat→RV→Option Ob→Prop} (h:Rel w0 B π F γ s a w) (hg:∀x,X9 F γ w (g x) (a.eval x)) (hc:X1q P s g o K) {Kc:Act→World→Prop} {Q:Exit→Act→World→Prop}
  (hK:∀d r ob F' γ' v w',o.dst=some d→XJ s (some d)=true→K d r ob→(∀b,F b→F' b)→(∀b,F' b→F b∨¬B b)→Rel w0 B π F' γ' (s.made d ob) a w'→X9 F' γ' w' r v→Kc (a.put o.dst v) w')
  :o.wp P a w Kc Q:=by
 unfold X1q at hc;split at hc
 · rename_i x args ts d ho hd;split at hc
   · rename_i f own es tvs hf hts;obtain⟨fresh,r,ob,⟨hcall,hcon⟩,hown,hunm,honly,hflat,hok,hk⟩:=hc;obtain⟨us,hv',hul,hes,hesd⟩:=X1y h.heap hf (hg x)
     have hrun:(execOp a.eval o).run P w=.ok (.enter f (args.map a.eval++us.toArray)) w:=by
      unfold XU at hcall;split at hcall
      · rename_i fn hfn;simp only[Bool.and_eq_true,Bool.not_eq_true']at hcall;have hnm:¬fn.name= "runtime.NumGoroutine" :=by simpa using hcall.1
        have hnb:¬fn.body=none:=by
         intro hb;rw[hb]at hcall;cases hcall.2
        simp[execOp,ho,resolve,hv',Deferred.ofValue,invoke,callFunc,hfn,hnm,hnb]
      cases hcall
     unfold Oper.wp;rw[hrun,Oper.upon_enter];obtain⟨hl,hts'⟩:=X0Z hts
     -- the set of blocks that the callee may look at
     have hcase:∃F2:Nat→Prop,(∀b,F2 b→b<w.heap.size)∧(fresh=false→∀b,F2 b→F b)∧
       ∀(j:Nat) t u,(tvs++es)[j]? =some t→(args.map a.eval++us.toArray)[j]? =some u→XD F2 noγ w t u:=by
      have hget:∀(j:Nat) x u,args.toList[j]? =some x→(args.map a.eval)[j]? =some u→u=a.eval x:=by
       intro j x u hx hu;have hx':args[j]? =some x:=by simpa using hx
       rw[Array.getElem?_map,hx']at hu;simpa using hu.symm
      have hsz:(args.map a.eval).size=tvs.length:=by rw[Array.size_map,hl,Array.length_toList]
      have both:∀G:Nat→Prop,(∀(j:Nat) t u,tvs[j]? =some t→(args.map a.eval)[j]? =some u→XD G noγ w t u)→(∀(j:Nat) t u,es[j]? =some t→us[j]? =some u→XD G noγ w t u)→
        ∀(j:Nat) t u,(tvs++es)[j]? =some t→(args.map a.eval++us.toArray)[j]? =some u→XD G noγ w t u:=by
       intro G h1 h2 j t u ht hu;by_cases hj:j<tvs.length
       · rw[List.getElem?_append_left hj]at ht;rw[Array.getElem?_append_left (by omega)]at hu;exact h1 j t u ht hu
       rw[List.getElem?_append_right (Nat.le_of_not_lt hj)]at ht;rw[Array.getElem?_append_right (by omega),hsz]at hu;exact h2 _ t u ht (by simpa using hu)
      rcases hown with rfl|hown
      · refine⟨fun b=>F b∨X1P γ s.objs b,?_,by simp,both _ ?_ hes⟩
        · rintro b (hb|⟨n,o',hl',hb⟩)
          · exact h.heap.fsz b hb
          exact((h.heap.ob n o' hl').blk_lt hb).2
        intro j t u ht hu;obtain⟨y,hy,hbr⟩:=hts' j t ht;rw[hget j y u hy hu];exact X2x h.heap hbr (hg y)
      simp only[Bool.or_eq_false_iff]at hown;refine⟨F,h.heap.fsz,fun _ _ h=>h,both _ ?_ (hesd hown.1)⟩;intro j t u ht hu;obtain⟨y,hy,hbr⟩:=hts' j t ht;rw[hget j y u hy hu];refine X4l h.heap ?_ hbr (hg y);have hown2:=hown.2;rw[List.any_eq_false]at hown2;simpa using hown2 y (List.mem_of_getElem? hy)
     obtain⟨F2,hF2,hF2F,hargs⟩:=hcase;refine(hcon F2 w (args.map a.eval++us.toArray) hF2 (by simp[hl,hul]) hargs).mono ?_;rintro e w' ⟨v,N,γ',rfl,hb,hN,hr,hobj⟩
     have hres:∀b,Res fresh F2 N b→F b∨N b:=by
      rintro b (hb|⟨hfr,hb⟩)
      · exact .inr hb
      exact .inl (hF2F hfr b hb)
     have hheap:=h.heap.called hb hN;have hFk:∀b,F b→w'.heap[b]? =w.heap[b]? :=fun b hF=>hb.block b (h.heap.fsz b hF)
     have hNB:∀b,(F b∨N b)→F b∨¬B b:=by
      rintro b (hb|hb)
      · exact .inl hb
      exact .inr fun hx=>Nat.lt_irrefl _ (Nat.lt_of_lt_of_le (h.heap.hB b hx) (hN b hb).1)
     cases ob with
     | none=>
       refine hK d r none (fun b=>F b∨N b) γ v w' hd hok hk (fun _ h=>.inl h) hNB ?_ ((hr.mono hres fun _ _=>rfl).only honly (by simp));exact⟨hheap,h.defers,h.nt,fun k r hl=>(h.regs k r hl).mono (fun _ h=>.inl h) hFk⟩
     | some o'=>
       obtain⟨ho1,ho2⟩:=hobj o' rfl;have hun:=hunm rfl;have hnew:∀b,Blk (γ' d) b→w.heap.size≤b:=fun b hb=>Nat.le_of_not_lt (ho1.blk_lt hb).1;have hfl:=hflat o' rfl;have hob':XT (fun b=>F b∨N b) (upd γ d (γ' d)) w' (fun b=>b<w.heap.size) (γ' d) o':=(ho1.mono hres (fun _ _=>rfl) (fun _ _=>rfl)).only hfl
       have hobB:XT (fun b=>F b∨N b) (upd γ d (γ' d)) w' B (γ' d) o':=by
        cases o' with
        |box cs=>obtain⟨b,e,vs,h1,h2,h3⟩:=hob';exact⟨b,e,vs,h1,fun hx=>h2 (h.heap.hB _ hx),h3⟩
        |row e' s' rows=>exact Xr.low (fun b hx=>h.heap.hB b hx) hob'
        |mp l=>obtain⟨b,es,clock,h1,h2,h3⟩:=hob';exact⟨b,es,clock,h1,fun hx=>h2 (h.heap.hB _ hx),h3⟩
        | mat e e' s' rows=>
          obtain⟨o,is,h1,h2,h3,⟨xs,h4,h5⟩,h6,h7⟩:=hob';refine⟨o,is,h1,h2,h3,⟨xs,h4.low (fun b hx=>h.heap.hB b hx),h5⟩,fun i v r hv hr=>?_,h7⟩;have:=h6 i v r hv hr;cases r with
          |none=>exact this
          |some rr=>exact Xr.low (fun b hx=>h.heap.hB b hx) this
        |refs e ns=>cases hfl
        |mps e ms=>cases hfl
        |it l seen=>cases hfl
       have hheap':HeapRel w0 B π (fun b=>F b∨N b) (upd γ d (γ' d)) (ins d o' s.objs) w':={
        below:=hheap.below
        hB:=hheap.hB
        fsz:=hheap.fsz
        ob:=fun n o ho=>by
         rw[XL]at ho;split at ho
         · rename_i e;cases ho;subst e;rw[Xo];exact hobB
         rename_i e;rw[Xd _ e];exact(hheap.ob n o ho).upd (Ww hun n o ho).2
        apart:=fun n o ho b hbk hF=>by
         rw[XL]at ho;split at ho
         · rename_i e;rw[e,Xo]at hbk;rcases hF with hF|hF
           · have:=hnew b hbk;have:=h.heap.fsz b hF;omega
           exact ho2 b hbk hF
         rename_i e;rw[Xd _ e]at hbk;exact hheap.apart n o ho b hbk hF
        sep:=fun n m on om hn hm hne b hbn hbm=>by
         rw[XL]at hn hm;split at hn
         · rename_i e;rw[e,Xo]at hbn;split at hm
           · rename_i e';exact hne (e.trans e'.symm)
           rename_i e';rw[Xd _ e']at hbm;have h1:=hnew b hbn;have h2:=(h.heap.ob m om hm).blk_lt hbm;omega
         rename_i e;rw[Xd _ e]at hbn;split at hm
         · rename_i e';rw[e',Xo]at hbm;have h1:=hnew b hbm;have h2:=(h.heap.ob n on hn).blk_lt hbn;omega
         rename_i e';rw[Xd _ e']at hbm;exact h.heap.sep n m on om hn hm hne b hbn hbm
        pin:=fun n v hv=>by
         obtain⟨h1,h2⟩:=h.heap.pin n v hv;have:=ZW hun
         exact⟨h1,by rw[Xd _ (by omega)];exact h2⟩}
       refine hK d r (some o') (fun b=>F b∨N b) (upd γ d (γ' d)) v w' hd hok hk (fun _ h=>.inl h) hNB ?_ ((hr.mono hres fun _ _=>rfl).only honly (fun _=>by rw[Xo]));exact⟨hheap',h.defers,h.nt,fun k r hl=>((h.regs k r hl).mono (fun _ h=>.inl h) hFk).upd (WT hun hl)⟩
   exact hc.elim
 exact hc.elim
theorem X7q {s:HS} {a:Act} {o:Oper} {K:HS→Prop} (h:Rel w0 B π F γ s a w) (hc:X9S P s o K) {Kc:Act→World→Prop} {Q:Exit→Act→World→Prop}
  (hK:∀s' F' γ' a' w',K s'→(∀b,F b→F' b)→(∀b,F' b→F b∨¬B b)→Rel w0 B π F' γ' s' a' w'→Kc a' w')
  :o.wp P a w Kc Q:=by
 refine X1F h h.opd hc fun d r ob F' γ' v w' hd hok hk h1 h2 hr hv=>?_;refine hK _ F' γ' _ _ hk h1 h2 ?_;rw[hd];have hok':XJ (s.made d ob) (some d)=true:=by cases ob<;>exact hok
 exact hr.step (objs':=(s.made d ob).objs) hok' hr.heap hv fun _ _ _ _ h=>h
theorem X89 {s:HS} {a:Act} {o:Oper} {K:HS→Prop} (h:Rel w0 B π F γ s a w) (hc:callG P s true o K) {Kc:Act→World→Prop} {Q:Exit→Act→World→Prop}
  (hK:∀s' F' γ' a' w',K s'→(∀b,F b→F' b)→(∀b,F' b→F b∨¬B b)→Rel w0 B π F' γ' s' a' w'→Kc a' w')
  :o.wp P a w Kc Q:=by
 refine X1F h (fun x=>X1W rfl (h.opd x)) hc fun d r ob F' γ' v w' hd hok hk h1 h2 hr hv=>?_;obtain⟨rfl,hk⟩:=hk;refine hK _ F' γ' _ _ hk h1 h2 ?_;rw[hd];exact hr.step (s:=s) (objs':=s.objs) hok hr.heap (X17 (fun _=>hv) (by simp)) fun _ _ _ _ h=>h
theorem Xah {s:HS} {b:Bool} {o:Oper} {K:HS→Prop} (hc:callG P s b o K):∃r,XJ s o.dst=true∧K (s.put o.dst (gdR b r)):=by
 unfold callG X1q at hc;split at hc
 · rename_i x args ts d ho hd;split at hc
   · obtain⟨fresh,r,ob,_,_,_,_,_,hok,rfl,hk⟩:=hc;rw[hd];exact⟨r,hok,hk⟩
   exact hc.elim
 exact hc.elim
end
end Go.Hl
