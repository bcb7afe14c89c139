/- Part of an evaluator that is sound over the model. Conditions: none. -/
import Derived.Test.YtdccocolnaklkaaGreatDoorH5
set_option linter.unusedSimpArgs false
set_option linter.unusedVariables false
namespace Go.Hl
open Go Go.RowKit
section
variable {P:Program} {F:Nat->Prop} {T:Nat->Value} {w w0:World} {B:Nat->Prop} {U:Nat->Option Value}
theorem Xm.cut {e:TypeId} {s:Nat} {rows:List (List CD)} {v:Value} (h:Xm F w B e s v rows) {l hi:Nat} (hl:l<=hi) (hh:hi<=rows.length):
  ∃(a:Option Addr) (cap:Nat),v=.slice a rows.length cap/\rows.length<=cap/\Xm F w B e s (.slice (if cap=l then a else a.map fun a=>a.add (l*s)) (hi - l) (cap - l)) ((rows.take hi).drop l):=by
 obtain⟨h0,hs,xs,⟨hxl,hown⟩,h1,hc⟩:=h;have hlen:((rows.take hi).drop l).length=hi - l:=by simp[Nat.min_eq_left hh]
 have hs':∀r∈(rows.take hi).drop l,r.length=s:=fun r hr=>hs r (Dd (D8 hr))
 have hm1:(hi - l)*s+l*s<=rows.length*s:=by
  rw[<-Nat.add_mul];exact NI _ (by omega)
 have hxs':((xs.drop (l*s)).take ((hi - l)*s)).length=(hi - l)*s:=by
  rw[Ns,D2,hxl];omega
 have hc':∀i j d,XV ((rows.take hi).drop l) i j=some d->∃u,((xs.drop (l*s)).take ((hi - l)*s))[i*s+j]? =some u/\CRel F w d u:=by
  intro i j d hd;have hlt:=Wq hs' hd;rw[hlen]at hlt
  have hlt2:i*s+j<(hi - l)*s:=by
   have:(i+1)*s<=(hi - l)*s:=NI _ hlt.1;rw[NJ]at this;omega
  have hd':XV rows (l+i) j=some d:=by
   unfold XV at hd⊢;rw[No,Nv]at hd;split at hd
   .exact hd
   cases hd
  obtain⟨u,hu,hr⟩:=hc _ _ _ hd';refine⟨u,?_,hr⟩;rw[Nv,N9 hlt2,No,<-hu];congr 1;rw[NJ];omega
 have hone:∀u∈(xs.drop (l*s)).take ((hi - l)*s),u.oneCell'=true:=fun u hu=>h1 u (D8 (Dd hu));rcases hown with⟨rfl,hn⟩|⟨g,o,cap,cur,rfl,hB,hg,hcap,hmax,hsz,htake⟩
 .refine⟨none,0,by rw[hn],by omega,h0,hs',_,⟨by rw[hlen];exact hxs',.inl ⟨?_,by rw[hlen];omega⟩⟩,hone,hc'⟩;rw[show hi - l=0 by omega,Nat.zero_sub];split<;>rfl
 refine⟨some ⟨g,o,none⟩,cap,rfl,hcap,h0,hs',_,⟨by rw[hlen];exact hxs',.inr ⟨g,if cap=l then o else o+l*s,cap - l,cur,?_,hB,hg,by rw[hlen];omega,by omega,?_,?_⟩⟩,hone,hc'⟩
 .rw[hlen];split
  .rfl
  simp only[Option.map_some,QI]
 .have:(cap - l)*s+l*s=cap*s:=by rw[<-Nat.add_mul];congr 1;omega
  split<;>omega
 rw[hlen];by_cases e':cap=l
 .have:hi - l=0:=by omega
  simp[this]
 rw[N6 e',<-htake];apply NP;intro k;rw[Nv,Nv,No,No,Nv,No];by_cases hk:k<(hi - l)*s
 .rw[N9 hk,N9 hk,N9 (by omega),Df]
 rw[N6 hk,N6 hk]
theorem Qs.cutR {ops:Array Oper} {k:Nat} {o:Oper} {s:HS} {d n l hi sz:Nat} {t e:TypeId} {ti:TI} {x:Operand} {low high:Option Operand} {rows:List (List CD)} (hop:ops[k]? =some o) (hg:o.guard=none) (hd:o.dst=some d) (ho:o.op=.slice t x low high none) (hu:QV d s=true) (hok:Q3 s (some d)=true)
  (hx:opd s.regs x=.v (.one (.own n))) (hl:lkp s.objs n=some (.row e sz rows)) (he:Z4 P t=some e) (hti:Q8 P e=some ti) (hsz:ti.size=sz) (h1:X0C (opd s.regs) 0 low=some l) (h2:X0C (opd s.regs) rows.length high=some hi) (hlh:l<=hi) (hh:hi<=rows.length):
  Qs P ops k 1 s (fun u=>u=({s with objs:=ins d (.row e sz ((rows.take hi).drop l)) (del n s.objs)}:HS).put (some d) (.v (.one (.own d)))):=by
 intro w0 B U F T a w Q Xy hr hK;subst hsz;have hro:Xm F w B e ti.size (T n) rows:=hr.heap.ob n _ hl;have hsl:=hro.sl;have hxv:=hr.opd x;rw[hx]at hxv;have hv:a.eval x=T n:=by rw[hxv.1,X09 hsl]
 obtain⟨ad,cap,hva,hcap,hrow⟩:=hro.cut hlh hh;obtain⟨i,td,z,hi',htd,hz,e1,e2,e3,e4,e5⟩:=XD hti;have hb:=Wv (P:=P) (w:=w) (b:=true) hr.opd h1 h2 hlh hh hcap;show wpOps P ops Q (k::Xy) a w;rw[wpOps_cons];unfold wpOp;rw[hop];simp only;have hwant:Region.wanted o (yielded ops a.tmps)=true:=by unfold Region.wanted;rw[hg]
 rw[hwant];simp only[NG];refine .inl ?_;unfold Oper.wp
 have hrun:(execOp a.eval o).run P w=.ok (.value (.slice (if cap=l then ad else ad.map fun a=>a.add (l*ti.size)) (hi - l) (cap - l))) w:=by
  unfold execOp;rw[ho];simp[hv,hva,Instr.sliceAt,Instr.slice,run_underlying (Qq he),hb,XC hi',e1]
 rw[hrun,Oper.upon_value,hd]
 have hHR:HeapRel w0 B U F (upd T d (.slice (if cap=l then ad else ad.map fun a=>a.add (l*ti.size)) (hi - l) (cap - l))) (ins d (.row e ti.size ((rows.take hi).drop l)) (del n s.objs)) w:=by
  refine hr.heap.moved (ns:=[n]) (by simp[hl]) (fun m o hm=>by obtain⟨h1,h2⟩:=Qg hm;exact⟨by simpa using h1,h2⟩) (ZF hu) hr.heap.below (ND _) (fun _ _ _=>rfl) (fun b hb=>.inr ⟨n,by simp,(W6 hsl).2 ?_⟩) (X1b hu) hrow;rw[hva];cases ad with
  |none=>simp[Blk,blk]at hb
  | some ad=>
    simp only[Blk]at hb;split at hb
    .exact hb
    simp only[Option.map_some,blk]at hb⊢;rw[<-hb];simp only[Addr.add];split<;>rfl
 refine hK _ F (upd T d (.slice (if cap=l then ad else ad.map fun a=>a.add (l*ti.size)) (hi - l) (cap - l))) (a.put (some d) _) w rfl (fun _ h=>h) (fun _ h=>.inl h) ?_;exact hr.step (dst:=some d) hok hHR ⟨by rw[XH];rfl,rfl⟩ fun k r v hl2 hr2=>(hr.heap.keepR (fun _ _=>rfl) hr2).upd (Zz hu hl2)
theorem RunsN.cutR {ops:Array Oper} {l0:List Oper} {o:Oper} {s:HS} {K:HS->Prop} {d n l hi sz:Nat} {t e:TypeId} {ti:TI} {x:Operand} {low high:Option Operand} {rows:List (List CD)} (hg:o.guard=none) (hd:o.dst=some d) (ho:o.op=.slice t x low high none) (hu:QV d s=true) (hok:Q3 s (some d)=true)
  (hx:opd s.regs x=.v (.one (.own n))) (hl:lkp s.objs n=some (.row e sz rows)) (he:Z4 P t=some e) (hti:Q8 P e=some ti) (hsz:ti.size=sz) (h1:X0C (opd s.regs) 0 low=some l) (h2:X0C (opd s.regs) rows.length high=some hi) (hlh:l<=hi) (hh:hi<=rows.length)
  (hr:RunsN P ops l0 (({s with objs:=ins d (.row e sz ((rows.take hi).drop l)) (del n s.objs)}:HS).put (some d) (.v (.one (.own d)))) K):RunsN P ops (o::l0) s K:=by
 refine .many (M:=fun u=>u=_) 1 (fun k hk=>?_) fun u hu=>by rw[hu];exact hr
 exact Qs.cutR (hk 0 o rfl) hg hd ho hu hok hx hl he hti hsz h1 h2 hlh hh
end
section
variable {P:Program} {ops:Array Oper}
theorem HeapRel.drop {F:Nat->Prop} {T:Nat->Value} {w w' w0:World} {B:Nat->Prop} {U:Nat->Option Value} {objs:List (Nat×Ob)} {n:Nat} {on:Ob} (h:HeapRel w0 B U F T objs w) (hl:lkp objs n=some on) (hb:Kept B w0 w') (hsz:w.heap.size<=w'.heap.size)
  (hkeep:∀k,k<w.heap.size->¬Blk (T n) k->w'.heap[k]? =w.heap[k]?):HeapRel w0 B U F T (del n objs) w':=by
 have hF:∀k,F k->w'.heap[k]? =w.heap[k]? :=fun k hk=>hkeep k (h.fsz k hk) fun e=>h.apart n on hl k e hk
 exact {
  below:=hb
  hB:=fun b hb=>NA (h.hB b hb) hsz
  fsz:=fun k hk=>NA (h.fsz k hk) hsz
  ob:=fun m o ho=>by
   obtain⟨hne,ho'⟩:=Qg ho;have h1:=h.ob m o ho';exact h1.mono (fun _ h=>h) hF fun k hk=>hkeep k (h1.blk_lt hk).2 fun e=>h.sep m n _ _ ho' hl hne k hk e
  apart:=fun m o ho=>h.apart m o (Qg ho).2
  sep:=fun m k om ok hm hk=>h.sep m k om ok (Qg hm).2 (Qg hk).2
  pin:=h.pin}
section
variable {nx rd:List Nat->HS} {p n i d1 d2 sz:Nat} {e e':TypeId} {x y xm xi:Operand} {te:TI} {rows:List (Option (List (List CD)))} {rs more:List (List CD)} {O:List (Nat×Ob)} {sF:HS} {R:List Nat} {j:Nat}
end
end
section
variable {P:Program}
def ConE (P:Program) (f:FuncId):Prop:=
 XZ P f=true/\∀(w:World) (p:Option Addr) (cap:Nat),Calls P f #[.slice p 0 cap] w fun x w'=>x=.returned (.tuple #[])/\w'=w
def subEP (s:HS) (o:Oper):Option (FuncId×Nat):=
 match o.guard,o.op,o.dst with
 | none, .call {callee:=.value x,args:=args, .. },some d=>match capV (opd s.regs x),args.toList with
   | some (f,[]),[y]=>match opd s.regs y with
     | .v (.one (.sub n i))=>match lkp s.objs n with
       | some (.mat _ _ _ rows)=>match rows[i]? with
         |some (some [])=>if Q3 s (some d)=true then some (f,d)else none
         |_=>none
       |_=>none
     |_=>none
   |_,_=>none
 |_,_,_=>none
theorem Qs.subE {ops:Array Oper} {k:Nat} {s:HS} {o:Oper} {f:FuncId} {d:Nat} (h1:ops[k]? =some o) (h:subEP s o=some (f,d)) (hcon:ConE P f):Qs P ops k 1 s (fun u=>u=s.put (some d) (.tup [])):=by
 intro w0 B U F T a w Q Xy hr hK;unfold subEP at h;split at h
 .rename_i x as0 ats d1 hg ho hd1;split at h
  .rename_i f1 y hx has;split at h
   .rename_i n1 i1 hy;split at h
    .rename_i e1 e1' sz1 rows1 hl;split at h
     .rename_i hri;split at h
      .rename_i hok;cases h;have eas:as0= #[y]:=by obtain⟨l⟩:=as0;simpa using has
       subst eas;obtain⟨hcall,hcon⟩:=hcon;obtain⟨cvs,hv,hcl,_⟩:=WY hx (hr.opd x);have hcv:cvs=[]:=Np (by simpa using hcl);subst hcv;have hv':a.eval x=.func (.func f) #[] #[]:=hv;have hyv:=hr.opd y;rw[hy]at hyv;obtain⟨vs,hvs,hsub,hv1,hvu⟩:=hyv;obtain⟨o',is,hγ,h0,hlen,⟨xs,hown,hxs⟩,hin,hd1',hd2⟩:=hr.heap.ob _ _ hl;rw[hγ]at hvs;cases hvs;have hvi:is[i1]? =some (a.eval y):=by simpa using hsub
       have hro:Xm F w B e1' sz1 (a.eval y) []:=hin i1 _ (some []) hvi hri
       obtain⟨p,cap,hpv⟩:∃p cap,a.eval y=.slice p 0 cap:=by
        obtain⟨_,_,xs,hown,_⟩:=hro;rcases hown.2 with⟨hv,_⟩|⟨b,oo,cap,cur,hv,_⟩
        .exact⟨_,_,hv⟩
        exact⟨_,_,hv⟩
       have hrun:(execOp a.eval o).run P w=.ok (.enter f (#[y].map a.eval)) w:=by
        unfold XZ at hcall;split at hcall
        .rename_i fn hfn;simp only[N4,Nk]at hcall;have hnm:¬fn.name= "runtime.NumGoroutine" :=by simpa using hcall.1
         have hnb:¬fn.body=none:=by
          intro hb;rw[hb]at hcall;cases hcall.2
         simp[execOp,ho,resolve,hv',Deferred.ofValue,invoke,callFunc,hfn,hnm,hnb]
        cases hcall
       show wpOps P ops Q (k::Xy) a w;rw[wpOps_cons];unfold wpOp;rw[h1];simp only;have hwant:Region.wanted o (yielded ops a.tmps)=true:=by unfold Region.wanted;rw[hg]
       rw[hwant];simp only[NG];refine .inl ?_;unfold Oper.wp;rw[hrun,Oper.upon_enter];have hargs:(#[y].map a.eval:Array Value)= #[.slice p 0 cap]:=by simp[hpv]
       rw[hargs];refine(hcon w p cap).mono ?_;rintro z w' ⟨rfl,rfl⟩;refine hK _ F T _ _ rfl (fun _ h=>h) (fun _ h=>.inl h) ?_;rw[hd1];exact hr.step (dst:=some d) hok (F':=F) (T':=T) hr.heap ⟨#[],rfl,rfl,fun j t u h1 h2=>by simp at h1⟩ fun _ _ _ _ hv=>hv
      cases h
     cases h
    cases h
   cases h
  cases h
 cases h
theorem RunsN.subE {ops:Array Oper} {l:List Oper} {s:HS} {K:HS->Prop} {o:Oper} {f:FuncId} {d:Nat} (h:subEP s o=some (f,d)) (hcon:ConE P f) (hr:RunsN P ops l (s.put (some d) (.tup [])) K):RunsN P ops (o::l) s K:=by
 refine .many (M:=fun u=>u=_) 1 (fun k hk=>?_) fun u hu=>by rw[hu];exact hr
 exact Qs.subE (hk 0 o rfl) h hcon
end
abbrev D3:=Int×Int×Int
def d3V (x:D3):Value:=.agg #[.int .i64 x.1,.int .i64 x.2.1,.int .i64 x.2.2]
def d3C (x:D3):List CV:=[.c (.lit (.int .i64 x.1)),.c (.lit (.int .i64 x.2.1)),.c (.lit (.int .i64 x.2.2))]
def d3M (l:List D3):List (Value×CD):=l.map fun x=>(d3V x,.lit (.bool true))
def d3T (P:Program) (t:TypeId):Bool:=match P.underlying t with
 | some (.map k _)=>match X6W P k with
   |some [true,true,true]=>true
   |_=>false
 |_=>false
section
variable {P:Program} {F:Nat->Prop} {T T':Nat->Value} {w w' w0:World} {B:Nat->Prop} {U:Nat->Option Value}
theorem d3T_some {t:TypeId} (h:d3T P t=true):∃k e fs,P.underlying t=some (.map k e)/\P.underlying k=some (.struct fs)/\P.stoodInHeld k=false/\WW P fs.toList 0=some [true,true,true]:=by
 unfold d3T at h;split at h
 .rename_i k e hu;split at h
  .rename_i hf;unfold X6W at hf;split at hf
   .rename_i fs hk;split at hf
    .rename_i hc;exact⟨k,e,fs,hu,hk,hc.1,hf⟩
    cases hf
   cases hf
  cases h
 cases h
theorem d3_eqFs (a b:D3):eqFs [true,true,true] (d3C a) (d3C b)=some (decide (a=b)):=by
 obtain⟨a1,a2,a3⟩:=a;obtain⟨b1,b2,b3⟩:=b;simp only[d3C,eqFs,NG,Option.map_some,Option.some.injEq];rw[D9];simp
theorem d3_rel (a:D3):Xi F T w (d3C a) #[.int .i64 a.1,.int .i64 a.2.1,.int .i64 a.2.2]:=by
 refine⟨rfl,fun j x u hx hu=>?_⟩
 match j with
 |0=>cases hx;cases hu;exact CRel.lit _
 |1=>cases hx;cases hu;exact CRel.lit _
 |2=>cases hx;cases hu;exact CRel.lit _
 |j+3=>simp[d3C]at hx
theorem d3_equal {k:TypeId} {fs:Array Field} (hk:P.underlying k=some (.struct fs)) (hs:P.stoodInHeld k=false) (hf:WW P fs.toList 0=some [true,true,true]) (a b:D3):(Op.equal k (d3V a) (d3V b)).run P w=.ok (decide (a=b)) w:=by
 have hfo:P.fieldsOf k=fs:=by unfold Program.fieldsOf;rw[hk]
 have ha:=d3_rel (F:=fun _=>False) (T:=fun _=>undef) (w:=w) a;have hb:=d3_rel (F:=fun _=>False) (T:=fun _=>undef) (w:=w) b;show(Op.equalIn 10000 k (.agg _) (.agg _)).run P w=_;rw[show(10000:Nat)=(9998+1)+1 from rfl,run_equalIn_agg w (9998+1) k _ _ (by rw[hfo];exact hk) hs,hfo];exact X1M [true,true,true] (d3C a) (d3C b) _ fs.toList 0 _ _ hf (d3_eqFs a b) rfl rfl (fun j x u h1 h2=>ha.2 j x u h1 (by simpa using h2)) (fun j x u h1 h2=>hb.2 j x u h1 (by simpa using h2))
theorem X73 {k:TypeId} {fs:Array Field} (hk:P.underlying k=some (.struct fs)) (hf:WW P fs.toList 0=some [true,true,true]) (em:Bool) (a:D3):(Instr.checkKey em 10000 k (d3V a)).run P w=.ok () w:=by
 show(Instr.checkKey em (9998+1+1) k (d3V a)).run P w=_;generalize 9998=n;unfold Instr.checkKey;simp only[d3V,Sem.run_bind,run_underlying hk,Result.andThen_ok];rw[<-Array.forIn_toList]
 have key:∀(l:List Field) (ks:List Bool) (i:Nat),WW P l i=some ks->(∀j,j<l.length->∃m,(#[Value.int .i64 a.1,.int .i64 a.2.1,.int .i64 a.2.2]:Array Value)[i+j]? =some (.int .i64 m))->
   (forIn l PUnit.unit fun f _=>(if f.name≠ "_" then(do
     let v<-part f.type #[Value.int .i64 a.1,.int .i64 a.2.1,.int .i64 a.2.2] f.offset
     Instr.checkKey em (n+1) f.type v
     pure (ForInStep.yield PUnit.unit))else pure (ForInStep.yield PUnit.unit):Sem (ForInStep PUnit))).run P w=.ok PUnit.unit w:=by
  intro l
  induction l with
  |nil=>intro ks i _ _;simp
  | cons f l ih=>
    intro ks i hks hj;unfold WW at hks;split at hks
    .rename_i a' b' h1 h2
     have hih:=ih _ _ h2 fun j hj'=>by
      obtain⟨m,hm⟩:=hj (j+1) (by simp only[List.length_cons];omega);exact⟨m,by rw[<-hm];congr 1;omega⟩
     obtain⟨m,hm⟩:=hj 0 (by simp);rw[Nat.add_zero]at hm;unfold fkind at h1;split at h1
     .rename_i hn
      have hty:(∃q,P.underlying f.type=some (.int q))\/P.underlying f.type=some .string:=by
       split at h1
       .exact .inl ⟨_,by assumption⟩
       .exact .inr (by assumption)
       cases h1
      have hp:=X0g (P:=P) (w:=w) hty hm
      have hck:(Instr.checkKey em (n+1) f.type (.int .i64 m)).run P w=.ok () w:=by
       unfold Instr.checkKey;rcases hty with⟨q,hq⟩|hq<;>simp[run_underlying hq]
      simp only[List.forIn_cons,Sem.run_bind,ne_eq,hn.1,not_false_eq_true,NG,hn.2,hp,Result.andThen_ok,hck,Sem.run_pure];exact hih
     cases h1
    cases hks
 have hlen:fs.toList.length=3:=by
  have:∀(l:List Field) (ks:List Bool) (i:Nat),WW P l i=some ks->l.length=ks.length:=by
   intro l
   induction l with
   |nil=>intro ks i h;cases h;rfl
   | cons f l ih=>
     intro ks i h;unfold WW at h;split at h
     .rename_i a' b' h1 h2;cases h;simp[ih _ _ h2]
     cases h
  exact this _ _ _ hf
 have hcell:∀j,j<fs.toList.length->∃m,(#[Value.int .i64 a.1,.int .i64 a.2.1,.int .i64 a.2.2]:Array Value)[0+j]? =some (.int .i64 m):=by
  intro j hj;rw[hlen]at hj
  match j,hj with
  |0,_=>exact⟨_,rfl⟩
  |1,_=>exact⟨_,rfl⟩
  |2,_=>exact⟨_,rfl⟩
 rw[key fs.toList _ 0 hf hcell];rfl
theorem X9C {k:TypeId} {fs:Array Field} (hk:P.underlying k=some (.struct fs)) (hs:P.stoodInHeld k=false) (hf:WW P fs.toList 0=some [true,true,true]) (x:D3):∀(es:List MapEntry) (l:List D3) (i:Nat),es.map (·.key)=l.map d3V->
  (x∉l/\(Instr.findAsking k (d3V x) es i).run P w=.ok none w)\/(x∈l/\∃(j:Nat) (v:Value) (e:MapEntry),(Instr.findAsking k (d3V x) es i).run P w=.ok (some (i+j,v)) w/\es[j]? =some e/\e.key=d3V x)
 |[],[],i,_=>.inl ⟨by simp,by simp[Instr.findAsking]⟩
 | e::es,y::l,i,h=>by
   simp only[Na,List.cons.injEq]at h;have heq:=d3_equal (w:=w) hk hs hf x y;by_cases hxy:x=y
   .subst hxy;refine .inr ⟨by simp,0,e.val,e,?_,rfl,h.1⟩;unfold Instr.findAsking;simp[h.1,heq]
   rcases X9C hk hs hf x es l (i+1) h.2 with⟨h1,h2⟩|⟨h1,j,v,e',h2,h3,h4⟩
   .refine .inl ⟨by simp[hxy,h1],?_⟩;unfold Instr.findAsking;simp[h.1,heq,hxy,h2]
   refine .inr ⟨by simp[h1],j+1,v,e',?_,by simpa using h3,h4⟩;unfold Instr.findAsking;simp only[h.1,Sem.run_bind,heq,Result.andThen_ok,hxy,decide_false,Nz,NW,h2];congr 3;omega
 |[],_::_,_,h=>by simp at h
 |_::_,[],_,h=>by simp at h
theorem X8P {k:TypeId} {fs:Array Field} (hk:P.underlying k=some (.struct fs)) (hs:P.stoodInHeld k=false) (hf:WW P fs.toList 0=some [true,true,true]) (x:D3) (es:List MapEntry) (l:List D3) (h:es.map (·.key)=l.map d3V):
  (x∉l/\(Instr.findKey k (d3V x) es).run P w=.ok none w)\/(x∈l/\∃(j:Nat) (v:Value) (e:MapEntry),(Instr.findKey k (d3V x) es).run P w=.ok (some (j,v)) w/\es[j]? =some e/\e.key=d3V x):=by
 unfold Instr.findKey;simp only[Sem.run_bind,run_underlying hk,Result.andThen_ok];cases es with
 | nil=>
   cases l with
   |nil=>exact .inl ⟨by simp,by simp[Instr.findNow]⟩
   |cons _ _=>simp at h
 | cons e es=>
   have hn:Instr.findNow (.struct fs) (d3V x) (e::es) 0=none:=by simp[Instr.findNow,Instr.sameNow,d3V]
   rw[hn];rcases X9C (w:=w) hk hs hf x (e::es) l 0 h with h1|⟨h1,j,v,e',h2,h3⟩
   .exact .inl h1
   rw[Nat.zero_add]at h2;exact .inr ⟨h1,j,v,e',h2,h3⟩
def ins3 (l:List D3) (x:D3):List D3:=if x∈l then l else l++[x]
theorem Qs.upd3 {ops:Array Oper} {q:Nat} {o:Oper} {s:HS} {n:Nat} {t:TypeId} {m k v:Operand} {l:List D3} {x:D3} (hop:ops[q]? =some o) (hg:o.guard=none) (ho:o.op=.mapUpdate t m k v) (hok:Q3 s o.dst=true) (ht:d3T P t=true)
  (hm:opd s.regs m=.v (.one (.own n))) (hl:lkp s.objs n=some (.mp (d3M l))) (hk:opd s.regs k=.v (.agg (d3C x))) (hv:opd s.regs v=lit (.bool true)):
  Qs P ops q 1 s (fun u=>u=({s with objs:=ins n (.mp (d3M (ins3 l x))) s.objs}:HS).put o.dst (.v (.one .any))):=by
 intro w0 B U F T a w Q Xy hr hK;obtain⟨kt,e,fs,hu,hku,hst,hfk⟩:=d3T_some ht;obtain⟨b,es,clock,hγ,hB,hb,hkeys,hborn,hrel⟩:=hr.heap.ob n _ hl;have hmv:=hr.opd m;rw[hm]at hmv;have hvm:a.eval m=.map (some b):=by rw[hmv.1,hγ];rfl
 have hkv:=hr.opd k;rw[hk]at hkv
 have ek:a.eval k=d3V x:=by
  obtain⟨vs,h1,h2⟩:=hkv;rw[h1];unfold d3V;congr 1;have lit0:∀{v u:Value},Xo F T w (.c (.lit v)) u->u=v:=fun {v u} h=>X9.lit_eq (T:=T) (w:=w) (F:=F) (r:=lit v) rfl h;have hsz:vs.size=3:=h2.1;apply Array.ext (by rw[hsz];rfl);intro j h3 h4
  match j,h3 with
  |0,h3=>exact lit0 (h2.2 0 _ vs[0] rfl (by simp[h3]))
  |1,h3=>exact lit0 (h2.2 1 _ vs[1] rfl (by simp[h3]))
  |2,h3=>exact lit0 (h2.2 2 _ vs[2] rfl (by simp[h3]))
  |j+3,h3=>omega
 have ev:a.eval v=.bool true:=X9.lit_eq rfl (by have:=hr.opd v;rw[hv]at this;exact this);have hkeys':es.toList.map (·.key)=l.map d3V:=by rw[hkeys];simp[d3M]
 have hlen:es.size=l.length:=by have:=congrArg List.length hkeys';simpa using this
 have hlt:=Wr hb;have hBn:Blk (T n) b:=by rw[hγ];rfl
 have hck:=X73 (w:=w) hku hfk false x;show wpOps P ops Q (q::Xy) a w;rw[wpOps_cons];unfold wpOp;rw[hop];simp only;have hwant:Region.wanted o (yielded ops a.tmps)=true:=by unfold Region.wanted;rw[hg]
 rw[hwant];simp only[NG];refine .inl ?_;unfold Oper.wp
 have fin:∀(es':Array MapEntry) (clock':Nat),(execOp a.eval o).run P w=.ok .skip {w with heap:=w.heap.setIfInBounds b (.map es' clock')}->
   Q4 F T {w with heap:=w.heap.setIfInBounds b (.map es' clock')} B (.map (some b)) (.mp (d3M (ins3 l x)))->(execOp a.eval o).run P w=.ok .skip {w with heap:=w.heap.setIfInBounds b (.map es' clock')}/\o.upon P a (fun a w=>wpOps P ops Q Xy a w) Q (.ok .skip {w with heap:=w.heap.setIfInBounds b (.map es' clock')}):=by
  intro es' clock' hrun hob;refine⟨hrun,?_⟩;rw[Oper.upon_skip];have hkeep:∀c,c≠b->(w.heap.setIfInBounds b (.map es' clock'))[c]? =w.heap[c]? :=fun c hc=>by rw[Ny (Ne.symm hc)]
  have hFk:∀c,F c->(w.heap.setIfInBounds b (.map es' clock'))[c]? =w.heap[c]? :=fun c hc=>hkeep c fun e'=>hr.heap.apart n _ hl b hBn (e'▸hc);refine hK _ F T _ _ rfl (fun _ h=>h) (fun _ h=>.inl h) ?_;refine hr.step (dst:=o.dst) (r:=.v (.one .any)) hok (F':=F) (T':=T) (hr.heap.wrote hl (b:=b) hBn ⟨hr.heap.below.os,hr.heap.below.tape,hr.heap.below.output,by simpa using hr.heap.below.size,fun c hc=>(hkeep c fun e'=>hB (e'▸hc)).trans (hr.heap.below.block c hc)⟩ (by simp) (fun c _ hne=>hkeep c hne) (by rw[hγ];exact hob)) trivial fun _ _ _ _ hv=>hv.mono (fun _ h=>h) hFk
 rcases X8P (w:=w) hku hst hfk x es.toList l hkeys' with⟨hx,hfind⟩|⟨hx,j0,v0,e0,hfind,he0,hk0⟩
 .have hi3:ins3 l x=l++[x]:=by unfold ins3;rw[N6 hx]
  obtain⟨h1,h2⟩:=fin (es.push {key:=d3V x,val:=.bool true,born:=clock}) (clock+1) (by
   unfold execOp;rw[ho];simp only[hvm,ek,ev];simp[Instr.mapUpdate,run_underlying hu,MapKept.run_getObj_map hb,hck,hfind,MapKept.run_setObj_map _ hb]) (by
   refine⟨b,es.push {key:=d3V x,val:=.bool true,born:=clock},clock+1,rfl,hB,by simp[hlt],by simp[hkeys',hi3,d3M],hborn.push _ _,fun j k d e h1 h2=>?_⟩
   have hd:d=.lit (.bool true):=by
    simp only[d3M,Nf,N8]at h1;obtain⟨_,_,h1⟩:=h1;cases h1;rfl
   subst hd;rw[Array.getElem?_push]at h2;split at h2
   .cases h2;exact CRel.lit _
   rename_i hj;have hjl:j<l.length:=by rw[<-hlen];exact(NO.1 h2).1
   have h3:=hrel j (d3V l[j]) (.lit (.bool true)) e (by simp[d3M,hjl]) h2;rw[show e.val=.bool true from X9.lit_eq (T:=T) (w:=w) (F:=F) (r:=lit (.bool true)) rfl h3]
   exact CRel.lit _)
  rw[h1];exact h2
 have hi3:ins3 l x=l:=by unfold ins3;rw[N9 hx]
 have he0':es[j0]? =some e0:=by simpa using he0
 have hstay:(Instr.keyThatStays (((es[j0]?).map (·.key)).getD (d3V x)) (d3V x)).run P w=.ok (d3V x) w:=by
  rw[he0',Option.map_some,Option.getD_some,hk0]
  have:Instr.sameBits 10000 (d3V x) (d3V x)=true:=by
   show Instr.sameBits (9999+1) (d3V x) (d3V x)=true;simp[d3V,Instr.sameBits]
  simp[Instr.keyThatStays,this]
 obtain⟨h1,h2⟩:=fin (es.modify j0 fun e=>{e with key:=d3V x,val:=.bool true}) clock (by
  unfold execOp;rw[ho];simp only[hvm,ek,ev];simp[Instr.mapUpdate,run_underlying hu,MapKept.run_getObj_map hb,hck,hfind,hstay,MapKept.run_setObj_map _ hb]) (by
  refine⟨b,es.modify j0 fun e=>{e with key:=d3V x,val:=.bool true},clock,rfl,hB,by simp[hlt],?_,hborn.modify _ _ fun _=>rfl,fun j k d e h1 h2=>?_⟩
  .rw[hi3,show(d3M l).map (·.1)=l.map d3V by simp[d3M],<-hkeys'];apply NP;intro j;simp only[Nf,Dh,Dq];by_cases hj:j0=j
   .subst hj;rw[N9 rfl,he0'];simp[hk0]
   rw[N6 hj]
  rw[hi3]at h1
  have hd:d=.lit (.bool true):=by
   simp only[d3M,Nf,N8]at h1;obtain⟨_,_,h1⟩:=h1;cases h1;rfl
  subst hd;rw[Dq]at h2;by_cases hj:j0=j
  .subst hj;rw[N9 rfl,he0']at h2;cases h2;exact CRel.lit _
  rw[N6 hj]at h2;have hjl:j<l.length:=by rw[<-hlen];exact(NO.1 h2).1
  have h3:=hrel j (d3V l[j]) (.lit (.bool true)) e (by simp[d3M,hjl]) h2;rw[show e.val=.bool true from X9.lit_eq (T:=T) (w:=w) (F:=F) (r:=lit (.bool true)) rfl h3]
  exact CRel.lit _)
 rw[h1];exact h2
theorem RunsN.upd3 {ops:Array Oper} {l0:List Oper} {o:Oper} {s:HS} {K:HS->Prop} {n:Nat} {t:TypeId} {m k v:Operand} {l:List D3} {x:D3} (hg:o.guard=none) (ho:o.op=.mapUpdate t m k v) (hok:Q3 s o.dst=true) (ht:d3T P t=true)
  (hm:opd s.regs m=.v (.one (.own n))) (hl:lkp s.objs n=some (.mp (d3M l))) (hk:opd s.regs k=.v (.agg (d3C x))) (hv:opd s.regs v=lit (.bool true))
  (hr:RunsN P ops l0 (({s with objs:=ins n (.mp (d3M (ins3 l x))) s.objs}:HS).put o.dst (.v (.one .any))) K):RunsN P ops (o::l0) s K:=by
 refine .many (M:=fun u=>u=_) 1 (fun q hq=>?_) fun u hu=>by rw[hu];exact hr
 exact Qs.upd3 (hq 0 o rfl) hg ho hok ht hm hl hk hv
end
section
variable {P:Program} {ops:Array Oper}
theorem any_ind {TR:List Nat->Act->World->Prop} {Q:Exit->Act->World->Prop} (hfw:fwdB ops=true)
  (hstep:∀(R:List Nat) (i:Nat) (o:Oper),ops[i]? =some o->i∈R->(∀e∈o.after.toList,Region.binds .any e=true->e.on∉R)->∀a w,TR R a w->∀Kc,(∀a' w',TR (X15 R i) a' w'->Kc a' w')->wpOp P ops Q i Kc a w):
  ∀(fuel:Nat) (listed:Array Bool) (a:Act) (w:World),listed.size=ops.size->(Xy ops listed).length<=fuel->TR (Xy ops listed) a w->
  (∀a' w',TR [] a' w'->Q .normal a' w')->wpAny P .any ops Q fuel listed a w:=by
 have hnr:∀listed:Array Bool,Xy ops listed=[]->Region.ready .any ops listed=[]:=by
  intro listed h0;refine List.eq_nil_iff_forall_not_mem.2 fun i hi=>?_;obtain⟨h1,h2,_⟩:=Zx.1 hi;have:=QN.2 ⟨h1,h2⟩;rw[h0]at this;cases this
 have hrn:∀listed:Array Bool,listed.size=ops.size->Region.ready .any ops listed=[]->Xy ops listed=[]:=by
  intro listed hsz h0;cases hres:Xy ops listed with
  |nil=>rfl
  | cons i l=>
    have hi:i∈Xy ops listed:=by rw[hres];simp
    obtain⟨hlt,hun⟩:=QN.1 hi
    have:i∈Region.ready .any ops listed:=by
     refine Zx.2 ⟨hlt,hun,ops[i],by simp[hlt],fun e he hb=>?_⟩
     have hon:e.on<i:=by
      unfold fwdB at hfw;rw[Nh]at hfw;have h1:=hfw i (by simpa using hlt);rw[D5 hlt]at h1;simp only[Nh]at h1;have h2:=h1 e (by simpa using he);simp only[hb,Bool.not_true,Bool.false_or,N7]at h2;exact h2
     have hnot:e.on∉Xy ops listed:=by
      intro hm;have hs:=WA (ops:=ops) listed;rw[hres]at hs hm;rcases Ni.1 hm with e'|hm
      .omega
      have:=(NV.1 hs).1 _ hm;omega
     rw[QN]at hnot;have hel:e.on<listed.size:=by omega
     rw[Nq,D5 hel]at hnot⊢;simp only[Option.getD_some,not_and,Bool.not_eq_false]at hnot⊢;exact hnot (by omega)
    rw[h0]at this;cases this
 intro fuel
 induction fuel with
 | zero=>
   intro listed a w hsz hlen ht hK;have h0:Xy ops listed=[]:=Np (by omega);rw[h0]at ht;exact⟨hnr listed h0,hK a w ht⟩
 | succ fuel ih=>
   intro listed a w hsz hlen ht hK;refine⟨fun h0=>?_,fun i hi=>?_⟩
   .rw[hrn listed hsz h0]at ht;exact hK a w ht
   obtain⟨hlt,hun,oi,hoi,hpre⟩:=Zx.1 hi;have hir:i∈Xy ops listed:=QN.2 ⟨hlt,hun⟩;have hset:=rest_set hsz hir;refine hstep _ i oi hoi hir (fun e he hb hm=>?_) a w ht _ fun a' w' hw=>?_
   .have h1:=hpre e (by simpa using he) hb;have h2:=QN.1 hm;have hel:e.on<listed.size:=by omega
    rw[Nq,D5 hel]at h1;have h3:=h2.2;rw[Nq,D5 hel]at h3;simp only[Option.getD_some]at h1 h3;rw[h1]at h3;cases h3
   refine ih (listed.setIfInBounds i true) a' w' (by simpa using hsz) ?_ (by rw[hset];exact hw) hK;obtain⟨x2,y2,g1,g2,_,_⟩:=split_at (WA (ops:=ops) listed) hir;rw[hset,g2];rw[g1]at hlen;simp only[Nt,List.length_cons]at hlen⊢;omega
theorem wp_ind {id:Nat} {TR:List Nat->Act->World->Prop} {Q:Exit->Act->World->Prop} {a:Act} {w:World} (hm:P.follows .mixedOrders=true) (hfw:fwdB ops=true) (h0:TR (List.range ops.size) a {w with drawn:=w.drawn+1})
  (hstep:∀(R:List Nat) (i:Nat) (o:Oper),ops[i]? =some o->i∈R->(∀e∈o.after.toList,Region.binds .any e=true->e.on∉R)->∀a w,TR R a w->∀Kc,(∀a' w',TR (X15 R i) a' w'->Kc a' w')->wpOp P ops Q i Kc a w)
  (hq:∀a' w',TR [] a' w'->Q .normal a' w'):(Code.region id ops true).wp P Q a w:=by
 have hrest:Xy ops (Array.replicate ops.size false)=List.range ops.size:=by
  unfold Xy;refine Dl.2 fun i hi=>?_;have:i<ops.size:=by simpa using hi
  simp[this]
 refine wp_region_any hm (any_ind (P:=P) (ops:=ops) (TR:=TR) hfw hstep ops.size (Array.replicate ops.size false) a {w with drawn:=w.drawn+1} (by simp) (by rw[hrest];simp) (by rw[hrest];exact h0) hq)
end
end Go.Hl
namespace Go.Hl
open Go
def ConG2 (P:Program) (f g:FuncId) (e:TypeId) (sz:Nat) (rs rs':List (List CD)):Prop:=
 XZ P f=true/\∀(F:Nat->Prop) (B:Nat->Prop) (w:World) (v:Value),Xm F w B e sz v rs->(∀b,F b->b<w.heap.size)->(∀b,blk v=some b->¬F b)->
  Calls P f #[v,.func (.func g) #[] #[]] w fun x w'=>x=.returned (.tuple #[])/\w'.os=w.os/\w'.tape=w.tape/\w'.output=w.output/\w.heap.size<=w'.heap.size/\(∀k,k<w.heap.size->blk v≠some k->w'.heap[k]? =w.heap[k]?)/\Xm F w' B e sz v rs'
def rowGP (s:HS) (o:Oper):Option (FuncId×FuncId×Nat×TypeId×Nat×List (List CD)×Nat):=
 match o.guard,o.op,o.dst with
 | none, .call {callee:=.value x,args:=args, .. },some d=>match capV (opd s.regs x),args.toList with
   | some (f,[]),[y,z]=>match capV (opd s.regs z)with
     | some (g,[])=>match opd s.regs y with
       | .v (.one (.own n))=>match lkp s.objs n with
         |some (.row e sz rs)=>if Q3 s (some d)=true/\0<rs.length then some (f,g,n,e,sz,rs,d)else none
         |_=>none
       |_=>none
     |_=>none
   |_,_=>none
 |_,_,_=>none
theorem Qs.rowG {P:Program} {ops:Array Oper} {k:Nat} {s:HS} {o:Oper} {f g:FuncId} {n d sz:Nat} {e:TypeId} {rs rs':List (List CD)} (h1:ops[k]? =some o) (h:rowGP s o=some (f,g,n,e,sz,rs,d))
  (hcon:ConG2 P f g e sz rs rs'):Qs P ops k 1 s (fun u=>u=({s with objs:=ins n (.row e sz rs') s.objs}:HS).put (some d) (.tup [])):=by
 intro w0 B U F T a w Q Xy hr hK;unfold rowGP at h;split at h
 .rename_i x as0 ats d1 hg ho hd1;split at h
  .rename_i f1 y z hx has;split at h
   .rename_i g1 hz;split at h
    .rename_i n1 hy;split at h
     .rename_i e1 sz1 rs1 hl;split at h
      .rename_i hc;obtain⟨hok,hlen0⟩:=hc;cases h;have eas:as0= #[y,z]:=by obtain⟨l⟩:=as0;simpa using has
       subst eas;obtain⟨hcall,hcon⟩:=hcon;obtain⟨cvs,hv,hcl,_⟩:=WY hx (hr.opd x);have hcv:cvs=[]:=Np (by simpa using hcl);subst hcv;have hv':a.eval x=.func (.func f) #[] #[]:=hv;obtain⟨cvz,hvz,hclz,_⟩:=WY hz (hr.opd z);have hcz:cvz=[]:=Np (by simpa using hclz);subst hcz;have hvz':a.eval z=.func (.func g) #[] #[]:=hvz;have hyv:=hr.opd y;rw[hy]at hyv;have hro:Xm F w B e sz (T n) rs:=hr.heap.ob n _ hl
       obtain⟨b,hb,hBn,hhd⟩:∃b,blk (T n)=some b/\Blk (T n) b/\hd (T n)=T n:=by
        obtain⟨_,_,xs,hown,_⟩:=hro;rcases hown.2 with⟨_,hn⟩|⟨b,oo,cap,cur,hv,_⟩
        .omega
        rw[hv];exact⟨b,rfl,rfl,rfl⟩
       have hγ:a.eval y=T n:=by rw[<-hhd];exact hyv.1
       have hrun:(execOp a.eval o).run P w=.ok (.enter f (#[y,z].map a.eval)) w:=by
        unfold XZ at hcall;split at hcall
        .rename_i fn hfn;simp only[N4,Nk]at hcall;have hnm:¬fn.name= "runtime.NumGoroutine" :=by simpa using hcall.1
         have hnb:¬fn.body=none:=by
          intro hb;rw[hb]at hcall;cases hcall.2
         simp[execOp,ho,resolve,hv',Deferred.ofValue,invoke,callFunc,hfn,hnm,hnb]
        cases hcall
       show wpOps P ops Q (k::Xy) a w;rw[wpOps_cons];unfold wpOp;rw[h1];simp only;have hwant:Region.wanted o (yielded ops a.tmps)=true:=by unfold Region.wanted;rw[hg]
       rw[hwant];simp only[NG];refine .inl ?_;unfold Oper.wp;rw[hrun,Oper.upon_enter];have hargs:(#[y,z].map a.eval:Array Value)= #[T n,.func (.func g) #[] #[]]:=by simp[hγ,hvz']
       rw[hargs];refine(hcon F B w (T n) hro hr.heap.fsz (fun c hc=>hr.heap.apart n _ hl c (by rw[hb]at hc;cases hc;exact hBn))).mono ?_;rintro zz w' ⟨rfl,q1,q2,q3,q4,q5,hro'⟩;have hkeep:∀c,c<w.heap.size->c≠b->w'.heap[c]? =w.heap[c]? :=fun c hc hne=>q5 c hc fun e=>hne (by rw[hb]at e;cases e;rfl);have hFk:∀c,F c->w'.heap[c]? =w.heap[c]? :=fun c hc=>hkeep c (hr.heap.fsz c hc) fun e'=>hr.heap.apart n _ hl b hBn (e'▸hc);have hkp:Kept B w0 w':=hr.heap.below.trans ⟨q1,q2,q3,q4,fun c hc=>hkeep c (hr.heap.hB c hc) fun e'=>((hr.heap.ob n _ hl).blk_lt hBn).1 (e'▸hc)⟩;have hob:Q4 F T w' B (T n) (.row e sz rs'):=hro';refine hK _ F T _ _ rfl (fun _ h=>h) (fun _ h=>.inl h) ?_;rw[hd1];exact hr.step (dst:=some d) hok (F':=F) (T':=T) (hr.heap.wrote hl (b:=b) hBn hkp q4 (fun c hc hne=>hkeep c hc hne) hob) ⟨#[],rfl,rfl,fun j t u h1 h2=>by simp at h1⟩ fun _ _ _ _ hv=>hv.mono (fun _ h=>h) hFk
      cases h
     cases h
    cases h
   cases h
  cases h
 cases h
theorem RunsN.rowG {P:Program} {ops:Array Oper} {l:List Oper} {s:HS} {K:HS->Prop} {o:Oper} {f g:FuncId} {n d sz:Nat} {e:TypeId} {rs rs':List (List CD)} (h:rowGP s o=some (f,g,n,e,sz,rs,d)) (hcon:ConG2 P f g e sz rs rs')
  (hr:RunsN P ops l (({s with objs:=ins n (.row e sz rs') s.objs}:HS).put (some d) (.tup [])) K):RunsN P ops (o::l) s K:=by
 refine .many (M:=fun u=>u=_) 1 (fun k hk=>?_) fun u hu=>by rw[hu];exact hr
 exact Qs.rowG (hk 0 o rfl) h hcon
end Go.Hl
namespace Go.Hl
open Go Go.RowKit
def oL {T:Type} (c:Bool) (p:Nat×T) (l:List (Nat×T)):List (Nat×T):=if c=true then p::l else l
section
variable {T Y:Type} {c:Bool} {k n m:Nat} {x y:T} {l:List (Nat×T)} {p:Nat×T}
@[simp] theorem oL_t:oL true p l=p::l:=rfl
@[simp] theorem oL_f:oL false p l=l:=rfl
@[simp] theorem lkp_oL:lkp (oL c (k,x) l) m=if k=m then(if c=true then some x else lkp l m)else lkp l m:=by
  cases c
  .simp
  simp[lkp]
def gtL (n:Nat) (l:List (Nat×T)):Bool:=l.all fun p=>decide (n<p.1)
@[simp] theorem gt_nil:gtL n ([]:List (Nat×T))=true:=rfl
@[simp] theorem gt_cons:gtL n ((k,x)::l)=(decide (n<k)&&gtL n l):=rfl
@[simp] theorem gt_oL:gtL n (oL c (k,x) l)=((!c||decide (n<k))&&gtL n l):=by cases c<;>simp
theorem gtL_mem (h:gtL n l=true):∀q∈l,n<q.1:=by
 unfold gtL at h;simpa using h
theorem XaI (h:gtL n l=true):ins n x l=(n,x)::l:=by
 cases l with
 |nil=>rfl
 | cons q l=>
   obtain⟨k,y⟩:=q;have:=gtL_mem h (k,y) (by simp);simp only[ins];rw[N9 this]
@[simp] theorem XaG (h:n<k) (hl:gtL n l=true):ins n x (oL c (k,y) l)=(n,x)::oL c (k,y) l:=XaI (by simp[h,hl])
@[simp] theorem ins_oL_gt0 (h:n<k):ins n x (oL c (k,y) [])=(n,x)::oL c (k,y) []:=XaG h rfl
@[simp] theorem ins_oL_lt (h:k<n):ins n x (oL c (k,y) l)=oL c (k,y) (ins n x l):=by
  cases c
  .rfl
  simp only[oL_t,ins];rw[N6 (by omega),N6 (by omega)]
@[simp] theorem del_oL:del n (oL c (k,y) l)=if k=n then del n l else oL c (k,y) (del n l):=by
  cases c
  .simp
  simp[del]
@[simp] theorem mapL_oL {f:T->Y}:X0R f (oL c (k,y) l)=oL c (k,f y) (X0R f l):=by cases c<;>rfl
@[simp] theorem all_oL {f:Nat×T->Bool}:(oL c p l).all f=((!c||f p)&&l.all f):=by cases c<;>simp
theorem gt_trans (h:k<m) (hl:gtL m l=true):gtL k l=true:=by
 unfold gtL at hl⊢;rw[Nh]at hl⊢;intro q hq;have:=hl q hq;simp only[N7]at this⊢;omega
theorem X6L:∀{l:List (Nat×T)} {k:Nat} {x:T},Qi ((k,x)::l)=(gtL k l&&Qi l)
 |[],_,_=>rfl
 | (m,y)::l,k,x=>by
   have ih:=X6L (l:=l) (k:=m) (x:=y);show(decide (k<m)&&Qi ((m,y)::l))=_;rw[gt_cons,ih];by_cases hk:k<m
   .cases hg:gtL m l
    .simp
    simp[gt_trans hk hg]
   simp[hk]
@[simp ↓] theorem sort_upS:Qi ((k,x)::l)=(gtL k l&&Qi l):=X6L
@[simp] theorem mt_oL:Qi.match_1 (fun _=>Bool) (oL c (k,x) l) (fun _=>true) (fun m _ _=>decide (n<m))=if c=true then decide (n<k)else Qi.match_1 (fun _=>Bool) l (fun _=>true) (fun m _ _=>decide (n<m)):=by cases c<;>rfl
@[simp] theorem sort_oL:Qi (oL c (k,x) l)=((!c||gtL k l)&&Qi l):=by
  cases c
  .simp
  exact X6L
end
theorem Zo {s t:HS} (h:s=t):le s t:=h▸le_refl s
section
variable {P:Program} {ops:Array Oper}
theorem Qk.evZ {i:Nat} {o:Oper} {s t u:HS} {p:Prop} (cs:List CR) (ho:ops[i]? =some o) (h:evc P ops [o] s cs=some (t,p)) (hp:p) (hl:Hl.le t u):Qk P ops i s (fun v=>Hl.le v u):=.ev cs ho h hp hl
def psB (ops:Array Oper) (ps:List (Nat×List Nat×List Nat)):Bool:=(List.range ops.size).all fun i=>match ps[i]? with
 |some (j,l,m)=>j==i&&(l.all fun p=>decide (p<ops.size)&&X0K ops ops.size i p)&&m.all fun q=>decide (q<ops.size)&&X0K ops ops.size q i
 |_=>false
theorem X3g {ops:Array Oper} {R:List Nat} (hcl:∀j∉R,∀o,ops[j]? =some o->∀e∈o.after.toList,Region.binds .any e=true->e.on∉R):∀(n i p:Nat),(∀o,ops[i]? =some o->∀e∈o.after.toList,Region.binds .any e=true->e.on∉R)->X0K ops n i p=true->p∉R
 |0,_,_,_,h=>by cases h
 | n +1,i,p,hi,h=>by
   unfold X0K at h;split at h
   .rename_i o ho;simp only[List.any_eq_true,N4,Ng,beq_iff_eq]at h;obtain⟨e,he,hb,h|h⟩:=h
    .rw[<-h];exact hi o ho e he hb
    exact X3g hcl n e.on p (hcl _ (hi o ho e he hb)) h
   cases h
def X94 (P:Program) (ops:Array Oper) (nx:(Nat->Bool)->HS) (D:Nat->Bool):List (Nat×List Nat×List Nat)->Prop
 |[]=>True
 |(i,ps,qs)::l=>(D i=false->allM (fun p=>D p=true) ps->allM (fun p=>D p=false) qs->Qk P ops i (nx D) (fun u=>le u (nx fun j=>decide (j=i)||D j)))/\X94 P ops nx D l
theorem X6t {Y:Type} {p:Y->Prop}:∀{l:List Y},(∀x∈l,p x)->allM p l
 |[],_=>trivial
 |[x],h=>h x (by simp)
 |x::y::l,h=>⟨h x (by simp),X6t fun z hz=>h z (Nx _ hz)⟩
theorem X4K {nx:(Nat->Bool)->HS} {D:Nat->Bool}:∀{l:List (Nat×List Nat×List Nat)},X94 P ops nx D l->∀i ps qs,(i,ps,qs)∈l->D i=false->(∀p∈ps,D p=true)->(∀p∈qs,D p=false)->Qk P ops i (nx D) (fun u=>le u (nx fun j=>decide (j=i)||D j))
 | (j,ps',qs')::l,h,i,ps,qs,hi,h1,h2,h3=>by
   rcases Ni.1 hi with e|hi
   .cases e;exact h.1 h1 (X6t h2) (X6t h3)
   exact X4K h.2 i ps qs hi h1 h2 h3
def dnD (n:Nat) (R:List Nat):Nat->Bool:=fun j=>decide (j<n)&& !R.contains j
theorem X55 {id:Nat} (nx:(Nat->Bool)->HS) (ps:List (Nat×List Nat×List Nat)) {s:HS} {Q:Exit->HS->Prop} (hm:P.follows .mixedOrders=true) (hfw:fwdB ops=true) (hps:psB ops ps=true)
  (h0:le s (nx fun _=>false)) (hstep:∀D:Nat->Bool,X94 P ops nx D ps) (hq:Q .normal (nx fun j=>decide (j<ops.size))):HT P (.region id ops true) s Q:=by
 intro w0 B U F T a w hr;have hr':Rel w0 B U F T s a {w with drawn:=w.drawn+1}:=⟨hr.heap.drew,hr.defers,hr.nt,fun k r hk=>(hr.regs k r hk).mono (w:=w) (w':={w with drawn:=w.drawn+1}) (fun _ h=>h) fun _ _=>rfl⟩
 have hget:∀i,i<ops.size->∃l m,ps[i]? =some (i,l,m)/\(∀p∈l,p<ops.size/\X0K ops ops.size i p=true)/\∀q∈m,q<ops.size/\X0K ops ops.size q i=true:=by
  intro i hlt;unfold psB at hps;rw[Nh]at hps;have:=hps i (by simpa using hlt);split at this
  .rename_i e2;simp only[N4,beq_iff_eq,Nh,N7]at this;obtain⟨⟨rfl,h⟩,h'⟩:=this;exact⟨_,_,e2,h,h'⟩
  cases this
 let TR:List Nat->Act->World->Prop:=fun R a' w'=>(∀j∉R,∀o,ops[j]? =some o->∀e∈o.after.toList,Region.binds .any e=true->e.on∉R)/\∃F' T',(∀b,F b->F' b)/\(∀b,F' b->F b\/¬B b)/\Rel w0 B U F' T' (nx (dnD ops.size R)) a' w'
 refine wp_ind (TR:=TR) hm hfw ?_ ?_ ?_
 .refine⟨fun j hj o ho=>absurd (by simpa using(NO.1 ho).1) hj,?_⟩;obtain⟨F1,γ1,h1,h2,h3⟩:=h0 w0 B U F T a _ hr';refine⟨F1,γ1,h1,h2,?_⟩
  have e:dnD ops.size (List.range ops.size)=fun _=>false:=by
   funext j
   simp[dnD]
  rw[e];exact h3
 .rintro R i o ho hi hpre a1 w1 ⟨hcl,F1,γ1,h1,h2,h3⟩ Kc hK;have hlt:i<ops.size:=(NO.1 ho).1;obtain⟨l,m,hps0,hps2,hps3⟩:=hget i hlt;have hpre':∀o,ops[i]? =some o->∀e∈o.after.toList,Region.binds .any e=true->e.on∉R:=fun o' ho'=>by rw[ho]at ho';cases ho';exact hpre
  refine X4K (hstep (dnD ops.size R)) i l m (N3 hps0) (by simp[dnD,hi]) (fun p hp=>?_) (fun q hq=>?_) w0 B U F1 γ1 a1 w1 Kc _ h3 fun s' F' T' a' w' hw g1 g2 g3=>?_
  .obtain⟨hpl,hpp⟩:=hps2 p hp;have:=X3g hcl _ _ _ hpre' hpp;simp[dnD,hpl,this]
  .obtain⟨hql,hqq⟩:=hps3 q hq;have:q∈R:=Classical.byContradiction fun hn=>X3g hcl _ _ _ (hcl q hn) hqq hi;simp[dnD,this]
  obtain⟨F2,γ2,g4,g5,g6⟩:=hw w0 B U F' T' a' w' g3;refine hK a' w' ⟨fun j hj o' ho' e he hb=>?_,F2,γ2,fun b hb=>g4 b (g1 b (h1 b hb)),fun b hb=>(g5 b hb).elim (fun hb=>(g2 b hb).elim (h2 b) .inr) .inr,?_⟩
  .rw[XaL]at hj⊢;rintro⟨hpR,hpi⟩;by_cases hji:j=i
   .subst hji;exact hpre' o' ho' e he hb hpR
   exact hcl j (fun hjR=>hj ⟨hjR,hji⟩) o' ho' e he hb hpR
  have e:dnD ops.size (X15 R i)=fun j=>decide (j=i)||dnD ops.size R j:=by
   funext j
   by_cases hj:j=i
   .subst hj;simp[dnD,X15,hlt]
   simp[dnD,X15,hj]
  rw[e];exact g6
 rintro a1 w1 ⟨_,F1,γ1,h1,h2,h3⟩
 have e:dnD ops.size []=fun j=>decide (j<ops.size):=by
  funext j
  simp[dnD]
 rw[e]at h3;exact⟨_,F1,γ1,hq,h1,h2,h3⟩
end
def nlC (x y:CD):Prop:=x=y\/(x=.lit XR/\∃s,y=.sl s [])
def nlL:List CD->List CD->Prop
 |[],[]=>True
 |x::l,y::m=>nlC x y/\nlL l m
 |_,_=>False
def nlR:List (List CD)->List (List CD)->Prop
 |[],[]=>True
 |x::l,y::m=>nlL x y/\nlR l m
 |_,_=>False
@[simp] theorem nlC_refl (x:CD):nlC x x:=.inl rfl
@[simp] theorem nlC_nil (s:Nat):nlC (.lit (.slice none 0 0)) (.sl s []):=.inr ⟨rfl,s,rfl⟩
@[simp] theorem X4P:∀l:List CD,nlL l l
  |[]=>trivial
  |x::l=>⟨nlC_refl x,X4P l⟩
@[simp] theorem nlR_refl:∀l:List (List CD),nlR l l
  |[]=>trivial
  |x::l=>⟨X4P x,nlR_refl l⟩
theorem nlC_rel {F:Nat->Prop} {w:World} {x y:CD} {v:Value} (h:nlC x y) (hr:CRel F w x v):CRel F w y v:=by
 rcases h with rfl|⟨rfl,s,rfl⟩
 .exact hr
 cases hr;exact .nil s
theorem X6y:∀{l m:List CD},nlL l m->l.length=m.length/\∀(j:Nat) y,m[j]? =some y->∃x,l[j]? =some x/\nlC x y
 |[],[],_=>⟨rfl,fun j y h=>by simp at h⟩
 | x::l,y::m,h=>by
   obtain⟨h1,h2⟩:=X6y h.2;refine⟨by simp[h1],fun j z hz=>?_⟩;cases j with
   |zero=>simp only[List.getElem?_cons_zero,Option.some.injEq]at hz;subst hz;exact⟨x,rfl,h.1⟩
   |succ j=>simpa using h2 j z (by simpa using hz)
 |[],_::_,h=>h.elim
 |_::_,[],h=>h.elim
theorem Xaa:∀{l m:List (List CD)},nlR l m->l.length=m.length/\∀(j:Nat) y,m[j]? =some y->∃x,l[j]? =some x/\nlL x y
 |[],[],_=>⟨rfl,fun j y h=>by simp at h⟩
 | x::l,y::m,h=>by
   obtain⟨h1,h2⟩:=Xaa h.2;refine⟨by simp[h1],fun j z hz=>?_⟩;cases j with
   |zero=>simp only[List.getElem?_cons_zero,Option.some.injEq]at hz;subst hz;exact⟨x,rfl,h.1⟩
   |succ j=>simpa using h2 j z (by simpa using hz)
 |[],_::_,h=>h.elim
 |_::_,[],h=>h.elim
theorem le_rwO {x:HS} (n:Nat) {o o':Ob} (h:lkp x.objs n=some o) (hr0:∀(F:Nat->Prop) (T:Nat->Value) (w:World) (B:Nat->Prop) (v:Value),Q4 F T w B v o->Q4 F T w B v o'):le x {x with objs:=rwO n o' x.objs}:=by
 intro w0 B U F T a w hr
 have hk:∀m o2,lkp (rwO n o' x.objs) m=some o2->∃o0,lkp x.objs m=some o0/\(Q4 F T w B (T m) o0->Q4 F T w B (T m) o2):=by
  intro m o2 hm;rcases X6U hm with⟨rfl,rfl⟩|h1
  .exact⟨_,h,hr0 F T w B _⟩
  exact⟨o2,h1,id⟩
 refine⟨F,T,fun _ h=>h,fun _ h=>.inl h,⟨?_,hr.defers,hr.nt,hr.regs⟩⟩
 exact {
  below:=hr.heap.below
  hB:=hr.heap.hB
  fsz:=hr.heap.fsz
  ob:=fun m o hm=>by obtain⟨o0,h1,h2⟩:=hk m o hm;exact h2 (hr.heap.ob m o0 h1)
  apart:=fun m o hm=>by obtain⟨o0,h1,_⟩:=hk m o hm;exact hr.heap.apart m o0 h1
  sep:=fun m1 m2 o1 o2 hm1 hm2=>by obtain⟨a1,h1,_⟩:=hk m1 o1 hm1;obtain⟨a2,h2,_⟩:=hk m2 o2 hm2;exact hr.heap.sep m1 m2 a1 a2 h1 h2
  pin:=hr.heap.pin}
theorem ZH {x:HS} (n:Nat) {e:TypeId} {s:Nat} {rows rows':List (List CD)} (h:lkp x.objs n=some (.row e s rows)) (hnl:nlR rows rows'):le x {x with objs:=rwO n (.row e s rows') x.objs}:=by
 obtain⟨hl,hg⟩:=Xaa hnl;refine le_rwO n h fun F T w B v h0=>?_;obtain⟨h1,h2,xs,h3,h4,h5⟩:=h0;refine⟨h1,fun r hr=>?_,xs,by rw[<-hl];exact h3,h4,fun i j d hd=>?_⟩
 .obtain⟨i,hi⟩:=Nu.1 hr;obtain⟨r0,h6,h7⟩:=hg i r hi;rw[<-(X6y h7).1];exact h2 r0 (N3 h6)
 unfold XV at hd;cases hi:rows'[i]? with
 |none=>rw[hi]at hd;cases hd
 | some r=>
   rw[hi]at hd;obtain⟨r0,h6,h7⟩:=hg i r hi;obtain⟨d0,h8,h9⟩:=(X6y h7).2 j d hd;obtain⟨u,hu,hc⟩:=h5 i j d0 (by unfold XV;rw[h6];exact h8);exact⟨u,hu,nlC_rel h9 hc⟩
set_option linter.unusedSimpArgs false
section
variable {P:Program} {id:Nat} {ops:Array Oper} {s s':HS} {Q:Exit->HS->Prop} {c:Operand} {x y z:Code} {t:Bool} {p q:Prop}
theorem QR (ht:p->HT P x s Q) (hf:q->HT P y s Q) (hc:opd s.regs c=.v (.one (.c (.lit (.bool t)))):=by exact rfl)
  (e1:(t=true)=p:=by first|(simp only[BN];try rfl)|exact rfl) (e2:(t=false)=q:=by first|(simp only[BN];try rfl)|exact rfl):HT P (.cond c x y) s Q:=
 X6w hc (fun h=>ht (e1.mp h)) (fun h=>hf (e2.mp h))
theorem XM (ht:p->HT P x s Q) (hf:q->Q .normal s) (hc:opd s.regs c=.v (.one (.c (.lit (.bool t)))):=by exact rfl)
  (e1:(t=true)=p:=by first|(simp only[BN];try rfl)|exact rfl) (e2:(t=false)=q:=by first|(simp only[BN];try rfl)|exact rfl):HT P (.cond c x .skip) s Q:=
 X6w hc (fun h=>ht (e1.mp h)) (fun h=>X6 (hf (e2.mp h)))
theorem Xc (ht:p->HT P x s' Q) (hf:q->HT P y s' Q) (h:evs P ops ops.toList s=some s':=by simp[*];rfl) (hc:opd s'.regs c=.v (.one (.c (.lit (.bool t)))):=by exact rfl)
  (e1:(t=true)=p:=by first|(simp only[BN];try rfl)|exact rfl) (e2:(t=false)=q:=by first|(simp only[BN];try rfl)|exact rfl):HT P (.seq (.region id ops false) (.cond c x y)) s Q:=
 X0 (XF h (QR ht hf hc e1 e2))
theorem X8 (ht:p->HT P x s' Q) (hf:q->Q .normal s') (h:evs P ops ops.toList s=some s':=by simp[*];rfl) (hc:opd s'.regs c=.v (.one (.c (.lit (.bool t)))):=by exact rfl)
  (e1:(t=true)=p:=by first|(simp only[BN];try rfl)|exact rfl) (e2:(t=false)=q:=by first|(simp only[BN];try rfl)|exact rfl):HT P (.seq (.region id ops false) (.cond c x .skip)) s Q:=
 X0 (XF h (XM ht hf hc e1 e2))
theorem XS (ht:p->HT P x s' (X5C P z Q)) (hf:q->HT P y s' (X5C P z Q)) (h:evs P ops ops.toList s=some s':=by simp[*];rfl) (hc:opd s'.regs c=.v (.one (.c (.lit (.bool t)))):=by exact rfl)
  (e1:(t=true)=p:=by first|(simp only[BN];try rfl)|exact rfl) (e2:(t=false)=q:=by first|(simp only[BN];try rfl)|exact rfl):HT P (.seq (.region id ops false) (.seq (.cond c x y) z)) s Q:=
 X0 (XF h (X0 (QR ht hf hc e1 e2)))
theorem Xa {f:FuncId} {fresh:Bool} {args:List TV} {r:RV} {ob:Option Ob} (hcon:∀d,Con P f fresh args r ob d) (hq:Q .normal s')
  (h:evc P ops ops.toList s [⟨fresh,r,ob⟩]=some (s',p):=by simp[*];first|exact⟨rfl,Iff.rfl⟩|exact⟨rfl,trivial⟩|rfl)
  (hp:(∀d,Con P f fresh args r ob d)->p:=by intro h;first|exact h _|exact trivial|simpa[*]using h _):HT P (.region id ops false) s Q:=
 Wk _ h (hp hcon) hq
theorem X7r {f g:FuncId} {fresh fresh2:Bool} {args args2:List TV} {r r2:RV} {ob ob2:Option Ob} (hcon:∀d,Con P f fresh args r ob d) (hcon2:∀d,Con P g fresh2 args2 r2 ob2 d) (hq:Q .normal s')
  (h:evc P ops ops.toList s [⟨fresh,r,ob⟩,⟨fresh2,r2,ob2⟩]=some (s',p):=by simp[*];first|exact⟨rfl,Iff.rfl⟩|exact⟨rfl,trivial⟩|rfl)
  (hp:(∀d,Con P f fresh args r ob d)->(∀d,Con P g fresh2 args2 r2 ob2 d)->p:=by intro h h';first|exact⟨h _,h' _⟩|exact trivial|(repeat' first|exact trivial|exact h _|exact h' _|apply And.intro)|simpa[*]using And.intro (h _) (h' _)):HT P (.region id ops false) s Q:=
 Wk _ h (hp hcon hcon2) hq
def renS (l:List (Nat×RV)):List (Nat×RV)->List (Nat×Nat)
 |[]=>[]
 | (k,r)::m=>match r,lkp l k with
   | .v (.one (.own n)),some (.v (.one (.own n')))=>if n=n' then renS l m else(n,n')::renS l m
   |_,_=>renS l m
def nilN (l:List (Nat×RV)):List (Nat×RV)->List Nat
 |[]=>[]
 | (k,r)::m=>match r,lkp l k with
   | .v (.one (.own n)),some (.v (.one (.c (.lit (.slice none 0 0)))))=>n::nilN l m
   |_,_=>nilN l m
def toN:List (Nat×Nat)->Nat->Nat
 |[],n=>n
 |(a,b)::l,n=>if n=a then b else toN l n
theorem ZC {l:List (Nat×Nat)} {nils:List Nat} (h1:renS s.regs s'.regs=l:=by simp[renS,upS,Ql];rfl) (h2:nilN s.regs s'.regs=nils:=by simp[nilN,upS,Ql];rfl) (hn:s'.nt=s.nt:=by rfl)
  (hr:ZM (fun k r=>r.okNil nils=true/\opd s.regs (.tmp k)=r.ren (WN (toN l)) nils) s'.regs:=by simp[upS,Ql,toN, *])
  (ho:ZM (fun n o=>if nils.contains n then(match o with| .row _ sz []=>0<sz|_=>False)else o.okNil nils=true/\lkp s.objs (WN (toN l) n)=some (o.ren (WN (toN l)) nils)) s'.objs:=by simp[*,upS,toN])
  (hi:ZM (fun n _=>ZM (fun m _=>n=m\/WN (toN l) n≠WN (toN l) m\/nils.contains n=true\/nils.contains m=true) s'.objs) s'.objs:=by simp[upS,toN])
  (hp:nils.all (fun n=>decide (n<1000000))=true:=by rfl):le s s':=QJ _ nils hn hr ho hi hp
theorem Xj {I:Type} {J:I->Prop} {μ:I->Nat} {S:I->HS} {m:Nat} (u:I) (hj:J u) (hl:le s (S u):=by exact ZC) (hm:μ u<m:=by first|omega|(simp only;omega)):∃u,J u/\μ u<m/\le s (S u):=⟨u,hj,hm,hl⟩
theorem Xv {I:Type} {J:I->Prop} {S:I->HS} (u:I) (hj:J u) (hl:le s (S u):=by exact ZC):∃u,J u/\le s (S u):=⟨u,hj,hl⟩
theorem X7 {rs:List ResultVar} {fresh:Bool} {r:RV} {d:Nat} {ts:List TV} (hQ:(∃s2,le s' s2/\RetOK P rs s2 fresh r none d)->Q .ret s':=by exact fun h=>⟨.inr rfl,h⟩) (h:evs P ops ops.toList s=some s':=by simp[*];rfl) (hr:X0Z P s' rs=some ts:=by simp[*];rfl)
  (he:r=Xl ts:=by first|rfl|(simp[*];done)|(simp only[Xl];(repeat' split)<;>first|rfl|(exfalso;omega)|simp_all)) (hl:fresh=true->r.litB=true:=by simp):HT P (.seq (.region id ops false) .ret) s Q:=
 X0 (XF h (Xa5 hQ hr he hl))
theorem Xb {I:Type} {w:Code} (ks:List Nat) (U:I->List (Nat×RV)) (O:I->List (Nat×Ob)) (J:I->Prop) (μ:I->Nat) (x0:I) (j0:J x0)
  (round:∀x,J x->HT P w (upS s ks (U x) (O x)) (X5N (fun s'=>∃x',J x'/\μ x'<μ x/\le s' (upS s ks (U x') (O x'))) Q)) (h0:le s (upS s ks (U x0) (O x0)):=by exact ZC):HT P (.loop w) s Q:=
 HT_loopU ks U O J μ x0 j0 h0 round
theorem LN:(∀s ks us objs,upS s ks us objs=⟨s.nt,insS us (Ql ks s.regs),objs⟩)/\(∀l,insS [] l=l)/\(∀k r us l,insS ((k,r)::us) l=ins k r (insS us l))/\(∀ks,Ql ks []=[])/\
  (∀ks k r l,Ql ks ((k,r)::l)=if ks.contains k=true then(k,r)::Ql ks l else Ql ks l)/\(∀(k:Nat) (r:RV),ins k r []=[(k,r)])/\(∀(k j:Nat) (r x:RV) l,ins k r ((j,x)::l)=if k<j then(k,r)::(j,x)::l else if(k==j)=true then(k,r)::l else(j,x)::ins k r l)/\
  (∀(a b:Nat) (l:List Nat),(a::l).contains b=(b==a||l.contains b))/\(∀b:Nat,([]:List Nat).contains b=false)/\(∀a:Bool,(a||false)=a)/\(∀a:Bool,(a||true)=true)/\(∀a:Bool,(true||a)=true)/\(∀a:Bool,(false||a)=a)/\
  (∀a:Nat,(a==a)=true)/\(∀a b:List (Nat×RV),(if True then a else b)=a)/\(∀a b:List (Nat×RV),(if False then a else b)=b)/\((true=true)=True)/\((false=true)=False):=
 ⟨fun _ _ _ _=>rfl,fun _=>rfl,fun _ _ _ _=>rfl,fun _=>rfl,fun _ _ _ _=>rfl,fun _ _=>rfl,fun k j r x l=>by simp only[ins,beq_iff_eq],KN⟩
end
end Go.Hl
