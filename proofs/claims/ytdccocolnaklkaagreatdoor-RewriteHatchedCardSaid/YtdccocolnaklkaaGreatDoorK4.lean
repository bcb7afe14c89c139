/- Contracts of functions and plain facts about what they compute. Conditions: as each theorem states. -/
import Derived.Test.YtdccocolnaklkaaGreatDoorK1
import Derived.Test.YtdccocolnaklkaaGreatDoorK3
import Derived.Shelf.Strconv.Itoa3
import Derived.Test.YtdccocolnaklkaaGreatDoorK2
import Derived.Test.YtdccocolnaklkaaGreatDoorH5
set_option linter.unusedSimpArgs false
set_option linter.unusedVariables false
set_option linter.unnecessarySimpa false
set_option maxRecDepth 100000
set_option maxHeartbeats 2000000
namespace Go.Proofs.YtdccocolnaklkaaGreatDoor
open Go Go.Hl Go.RowKit
open Tryz(prog)
inductive CWk:CV->CV->Prop where
 |refl (x:CV):CWk x x
 |nil (s:Nat):CWk (.c (.lit XR)) (.c (.sl s []))
inductive LWk:List CV->List CV->Prop where
 |nil:LWk [] []
 |cons {x y:CV} {l m:List CV}:CWk x y->LWk l m->LWk (x::l) (y::m)
theorem CWk.rel {F:Nat->Prop} {T:Nat->Value} {w:World} {x y:CV} (h:CWk x y) {v:Value} (hr:Xo F T w x v):Xo F T w y v:=by
 cases h with
 |refl=>exact hr
 | nil s=>
   have:v=XR:=X9.lit_eq (T:=T) (F:=F) (w:=w) (r:=.v (.one (.c (.lit XR)))) rfl hr;rw[this];exact CRel.nil s
theorem LWk.len {l m:List CV} (h:LWk l m):m.length=l.length:=by
 induction h with
 |nil=>rfl
 |cons _ _ ih=>simp[ih]
theorem LWk.get {l m:List CV} (h:LWk l m):∀(j:Nat) y,m[j]? =some y->∃x,l[j]? =some x/\CWk x y:=by
 induction h with
 |nil=>simp
 | cons hc _ ih=>
   intro j y hj;cases j with
   |zero=>cases hj;exact⟨_,rfl,hc⟩
   |succ j=>exact ih j y hj
theorem LWk.rel {F:Nat->Prop} {T:Nat->Value} {w:World} {l m:List CV} (h:LWk l m) {vs:Array Value} (hr:Xi F T w l vs):Xi F T w m vs:=by
 refine⟨hr.1.trans h.len.symm,fun j y u hy hu=>?_⟩;obtain⟨x,hx,hc⟩:=h.get j y hy;exact hc.rel (hr.2 j x u hx hu)
theorem X9l {s:HS} (k:Nat) {r r':RV} (hl:lkp s.regs k=some r) (hw:∀(F:Nat->Prop) (T:Nat->Value) (w:World) v,X9 F T w r v->X9 F T w r' v):le s {s with regs:=ins k r' s.regs}:=by
 intro w0 B U F T a w hr;refine⟨F,T,fun _ h=>h,fun _ h=>.inl h,hr.heap,hr.defers,hr.nt,fun j x hj=>?_⟩;rw[Qb]at hj;split at hj
 .rename_i e;cases hj;subst e;exact hw _ _ _ _ (hr.regs j r hl)
 exact hr.regs j x hj
theorem Zn {s:HS} (k:Nat) {xs:List CV} (ys:List CV) (hl:lkp s.regs k=some (.v (.agg xs))) (h:LWk xs ys):le s {s with regs:=ins k (.v (.agg ys)) s.regs}:=by
 refine X9l k hl fun F T w v hv=>?_;obtain⟨vs,rfl,hc⟩:=hv;exact⟨vs,rfl,h.rel hc⟩
theorem X3v {s:HS} (k sz:Nat) (hl:lkp s.regs k=some (.v (.one (.c (.lit XR))))):le s {s with regs:=ins k (.v (.one (.c (.sl sz [])))) s.regs}:=
 X9l k hl fun F T w v hv=>CWk.rel (T:=T) (CWk.nil sz) hv
theorem X4M {s:HS} (k sz:Nat) {a:Addr} {cap:Nat} (hl:lkp s.regs k=some (.v (.one (.c (.lit (.slice (some a) 0 cap)))))):le s {s with regs:=ins k (.v (.one (.c (.sl sz [])))) s.regs}:=by
 refine X9l k hl fun F T w v hv=>?_;have:v=.slice (some a) 0 cap:=X9.lit_eq rfl hv;rw[this];exact CRel.emp sz a cap
theorem Ww {s:HS} (n:Nat) {xs:List CV} (ys:List CV) (hl:lkp s.objs n=some (.box xs)) (h:LWk xs ys):le s {s with objs:=ins n (.box ys) s.objs}:=by
 intro w0 B U F T a w hr
 have hlk:∀m o,lkp (ins n (.box ys) s.objs) m=some o->(m=n/\o=.box ys)\/(m≠n/\lkp s.objs m=some o):=by
  intro m o hm;rw[Qb]at hm;split at hm
  .rename_i e;cases hm;exact .inl ⟨e,rfl⟩
  rename_i e;exact .inr ⟨e,hm⟩
 have hex:∀m o,lkp (ins n (.box ys) s.objs) m=some o->∃o',lkp s.objs m=some o':=by
  intro m o hm;rcases hlk m o hm with⟨rfl,_⟩|⟨_,h2⟩
  .exact⟨_,hl⟩
  exact⟨_,h2⟩
 refine⟨F,T,fun _ h=>h,fun _ h=>.inl h,⟨hr.heap.below,hr.heap.hB,hr.heap.fsz,fun m o hm=>?_,fun m o hm=>?_,fun m k om ok hm hk hne=>?_,hr.heap.pin⟩,hr.defers,hr.nt,hr.regs⟩
 .rcases hlk m o hm with⟨rfl,rfl⟩|⟨_,h2⟩
  .obtain⟨b,e,vs,hx,hB,hh,hc⟩:=hr.heap.ob m _ hl;exact⟨b,e,vs,hx,hB,hh,h.rel hc⟩
  exact hr.heap.ob m o h2
 .obtain⟨o',ho'⟩:=hex m o hm;exact hr.heap.apart m o' ho'
 obtain⟨o1,h1⟩:=hex m om hm;obtain⟨o2,h2⟩:=hex k ok hk;exact hr.heap.sep m k o1 o2 h1 h2 hne
theorem ZP {s:HS} (t n d:Nat) {e:TypeId} {sz:Nat} {rows:List (List CD)} (hl:opd s.regs (.tmp t)=.v (.one (.own n))) (ho:lkp s.objs n=some (.row e sz rows)) (hd:d<1000000):
  le s ⟨s.nt,[(t,.v (.one (.own d)))],[(d,.row e sz rows)]⟩:=by
 have hp:WN (fun _=>n) d=n:=by unfold WN;rw[N6 (by omega)]
 refine QJ (fun _=>n) [] rfl ?_ ?_ ?_
 .refine⟨⟨rfl,?_⟩,trivial⟩;rw[hl];simp only[RV.ren,TV.ren,CV.ren,hp,List.contains_nil,Nz,NW]
 .simp only[ZM,List.contains_nil,Nz,NW,Ob.okNil,hp,ho,Ob.ren,and_self]
 simp only[ZM,true_or,and_self]
theorem X4q {s:HS} (t d:Nat) (e:TypeId) (sz:Nat) (hl:opd s.regs (.tmp t)=.v (.one (.c (.lit XR)))) (hs:0<sz) (hd:d<1000000):
  le s ⟨s.nt,[(t,.v (.one (.own d)))],[(d,.row e sz [])]⟩:=by
 refine QJ (fun n=>n) [d] rfl ?_ ?_ ?_ (by simpa using hd)
 .refine⟨⟨by simp[RV.okNil,TV.okNil,CV.okNil],?_⟩,trivial⟩;rw[hl];simp[RV.ren,TV.ren,CV.ren]
 .simp[ZM,hs]
 simp[ZM]
theorem X27 {P:Program} {f:FuncId} {fresh:Bool} {r:RV} {ob:Option Ob} {d s:Nat} (h1:Con P f fresh [.one (.c (.lit XR))] r ob d) (h2:∀a cap,Con P f fresh [.one (.c (.lit (.slice (some a) 0 cap)))] r ob d):Con P f fresh [.one (.c (.sl s []))] r ob d:=by
 refine⟨h1.1,fun F w vs hF hsz hargs=>?_⟩;have hv:∃u,vs[0]? =some u:=⟨vs[0]'(by rw[hsz];simp),by simp[hsz]⟩;obtain⟨u,hu⟩:=hv;have hr:CRel F w (.sl s []) u:=hargs 0 _ u rfl hu
 have go:∀(v:Value),u=v->Con P f fresh [.one (.c (.lit v))] r ob d->_:=fun v hv hc=>hc.2 F w vs hF (by simpa using hsz) fun j t u' ht hu'=>by
  cases j with
  | zero=>
    cases ht;rw[hu]at hu';cases hu';subst hv;exact CRel.lit u
  |succ j=>cases ht
 rcases CRel.sl_inv hr with⟨_,hv|⟨a,cap,hv⟩⟩|⟨b,o,cap,cells,hv,_⟩
 .exact go _ hv h1
 .exact go _ hv (h2 a cap)
 exact go _ hv (h2 _ cap)
theorem X7v {T:Type} {l:List T} {k:Nat} {x:T} (h:l[k]? =some x):l.set k x=l:=by
 apply NP;intro j;rw[D1];split
 .rename_i e;subst e;have hk:k<l.length:=(N5.1 h).1;rw[N9 hk,h]
 rfl
end Go.Proofs.YtdccocolnaklkaaGreatDoor
namespace Go.Proofs.YtdccocolnaklkaaGreatDoor
open Go Go.Hl
open Tryz(prog)
theorem X92 (l:List Vr) (hl:l.length<=1000000) (d:Nat):Con prog 42 false [lV l] (.v (lV l)) none d:=by
 have hroom:QF l.length 48:=XO (by omega) (by omega);cases l with
 | nil=>
   refine X27 ?_ ?_
   .refine X2 Tryz.func42 ?_;simp only[Tryz.f42];refine X4 ?_;refine X0<|(X8 (fun h2=>?_) fun h2=>?_)
    .refine X4 ?_;exact Xn ⟨.inr rfl,_,X3v 2 5 rfl,⟨⟨_,by simp;rfl,by simp[Xl]⟩,by simp,fun h=>by cases h⟩⟩
    exact absurd h2 (by simp)
   intro a cap;refine X2 Tryz.func42 ?_;simp only[Tryz.f42];refine X4 ?_;refine X0<|(X8 (fun h2=>?_) fun h2=>?_)
   .exact absurd h2 (by simp)
   refine Q6 (X4M 0 5 rfl) ?_;refine X4 ?_;exact Xn ⟨.inr rfl,_,XL 7 rfl,⟨⟨_,by simp;rfl,by simp[Xl]⟩,by simp,fun h=>by cases h⟩⟩
 | cons v r=>
   refine X2 Tryz.func42 ?_;simp only[Tryz.f42];rw[List.length_cons]at hroom;refine X4 ?_;refine X0<|(X8 (fun h2=>?_) fun h2=>?_)
   .exact absurd h2 (by simp)
   refine X4 ?_;exact Xn ⟨.inr rfl,_,XL 7 rfl,⟨⟨_,by simp;rfl,by simp[Xl]⟩,by simp,fun h=>by cases h⟩⟩
theorem X4e (l:List Int) (hl:l.length<=1000000000) (d:Nat):Con prog 113 false [lI l] (.v (lI l)) none d:=by
 have hroom:QF l.length 8:=⟨by unfold maxLen;omega,by omega⟩;cases l with
 | nil=>
   refine X27 ?_ ?_
   .refine X2 Tryz.func113 ?_;simp only[Tryz.f113];refine X4 ?_;refine X0<|(X8 (fun h2=>?_) fun h2=>?_)
    .refine X4 ?_;exact Xn ⟨.inr rfl,_,X3v 2 1 rfl,⟨⟨_,by simp;rfl,by simp[Xl]⟩,by simp,fun h=>by cases h⟩⟩
    exact absurd h2 (by simp)
   intro a cap;refine X2 Tryz.func113 ?_;simp only[Tryz.f113];refine X4 ?_;refine X0<|(X8 (fun h2=>?_) fun h2=>?_)
   .exact absurd h2 (by simp)
   refine Q6 (X4M 0 1 rfl) ?_;refine X4 ?_;exact Xn ⟨.inr rfl,_,XL 7 rfl,⟨⟨_,by simp;rfl,by simp[Xl]⟩,by simp,fun h=>by cases h⟩⟩
 | cons v r=>
   refine X2 Tryz.func113 ?_;simp only[Tryz.f113];rw[List.length_cons]at hroom;refine X4 ?_;refine X0<|(X8 (fun h2=>?_) fun h2=>?_)
   .exact absurd h2 (by simp)
   refine X4 ?_;exact Xn ⟨.inr rfl,_,XL 7 rfl,⟨⟨_,by simp;rfl,by simp[Xl]⟩,by simp,fun h=>by cases h⟩⟩
theorem X1U (l:List Ht) (hl:l.length<=1000000) (d:Nat) (hd:d<1000000):Con prog 56 false [.one (.c (.sl 6 (Xu l)))] (.v (.one (.own d))) (some (.row 94 6 (Xu l))) d:=by
 have hroom:QF l.length 72:=XO (by omega) (by omega);cases l with
 | nil=>
   refine X27 ?_ ?_
   .refine X2 Tryz.func56 ?_;simp only[Tryz.f56];refine X4 ?_;refine X0<|(X8 (fun h2=>?_) fun h2=>?_)
    .refine X4 ?_;exact Xn ⟨.inr rfl,_,X4q 2 d 94 6 rfl (by decide) hd,⟨⟨_,by simp;rfl,by simp[Xl]⟩,by simp,fun h=>by cases h⟩⟩
    exact absurd h2 (by simp)
   intro a cap;refine X2 Tryz.func56 ?_;simp only[Tryz.f56];refine X4 ?_;refine X0<|(X8 (fun h2=>?_) fun h2=>?_)
   .exact absurd h2 (by simp)
   refine Q6 (X4M 0 6 rfl) ?_;refine X4 ?_;exact Xn ⟨.inr rfl,_,ZP 2 7 d rfl rfl hd,⟨⟨_,by simp;rfl,by simp[Xl]⟩,by simp,fun h=>by cases h⟩⟩
 | cons v r=>
   refine X2 Tryz.func56 ?_;simp only[Tryz.f56];rw[List.length_cons]at hroom;refine X4 ?_;refine X0<|(X8 (fun h2=>?_) fun h2=>?_)
   .exact absurd h2 (by simp)
   refine X4 ?_;exact Xn ⟨.inr rfl,_,ZP 2 7 d rfl rfl hd,⟨⟨_,by simp;rfl,by simp[Xl]⟩,by simp,fun h=>by cases h⟩⟩
theorem X0p (t:Tm):t.nodes<=1000000->∀d:Nat,Con prog 55 false [aT t] (.v (aT t)) none d:=by
 induction t using Tm.ind with
 |h o n ks ih=>
 intro hn d;simp only[Tm.nodes]at hn;have hlen:=Qy ks;refine X2 Tryz.func55 ?_;simp only[Tryz.f55];simp only[aT,Tm.enc];refine X4 ?_;refine X4 ?_;refine X0<|X0<|X1 ?_;refine X3<|(Xb [1,2,7,8] (fun(x:Nat)=>[(3,.v (.one (.own 1003))),(9,.v (li x))]) (fun(x:Nat)=>[(1,.box [.c (iC o),.c (iC n),.c (.sl 3 (Xg ks))]),(2,.box [.c (iC 0),.c (iC 0),.c (.lit XR)]),(1003,.row 56 3 (Xg (ks.take x)))]) (fun(x:Nat)=>x<=ks.length) (fun(x:Nat)=>ks.length - x) (0:Nat) (Nc _) ?_);rintro k hk;simp only[LN,Nat.reduceBEq,Nat.reduceLT];refine(XS (fun h5=>X6 ?_) fun h5=>?_)
 .have hlt:k<ks.length:=by omega
  obtain⟨⟨eo,en,ek⟩,he,hd⟩:=Xw hlt;have he':=Qc he;simp only[Tm.enc]at he';have hw1:=Xz hlt (by omega);have hk1:k+1<=ks.length:=hlt;have hmem:Tm.mk eo en ek∈ks:=N3 he;have hnm:=W3 hmem;have c:=ih _ hmem (by omega);have htl:(ks.take k).length=k:=by rw[Ns];omega
  have hroom:QF (k+1) 40:=XO (by omega) (by omega)
  have hsn:Xg (ks.take (k+1))=Xg (ks.take k)++[[iC eo,iC en,.sl 3 (Xg ek)]]:=by
   rw[WZ,WZ,List.take_add_one,he,Option.toList_some,Ds];rfl
  clear hlt h5 ih hmem hnm;refine X0<|X3<|X0<|X1 ?_;refine(Xa c ?_);refine X1 ?_;exact Xj (k+1) (hk1)
 have hkl:k=ks.length:=by omega
 subst hkl;simp only[List.take_length];refine(Xd ?_);refine X4 ?_;refine X4 ?_;exact Xn ⟨.inr rfl,_,XL 1003 rfl,⟨⟨_,by simp;rfl,by simp[Xl]⟩,by simp,fun h=>by cases h⟩⟩
end Go.Proofs.YtdccocolnaklkaaGreatDoor
namespace Go.Proofs.YtdccocolnaklkaaGreatDoor
open Go Go.Hl Go.Shelf
open Tryz(prog)
def itoR:Ren:=⟨fun f=>if f=129 then 166 else if f=171 then 75 else if f=243 then 114 else if f=246 then 142 else if f=283 then 155 else if f=284 then 156 else if f=285 then 157 else if f=286 then 158 else if f=317 then 165 else if f=318 then 167 else if f=319 then 168 else if f=320 then 169 else if f=337 then 170 else if f=338 then 171 else f,fun t=>if t=37 then 184 else if t=46 then 192 else if t=51 then 190 else if t=53 then 181 else if t=171 then 180 else if t=173 then 185 else if t=212 then 189 else if t=213 then 191 else if t=232 then 195 else if t=233 then 196 else t,fun g=>g - 17⟩
theorem itoL:Lays.n171 prog itoR where
 mixed:=by kernel_rfl
 f129:=by kernel_rfl
 f171:=by kernel_rfl
 f243:=by kernel_rfl
 f246:=by kernel_rfl
 f283:=by kernel_rfl
 f284:=by kernel_rfl
 f285:=by kernel_rfl
 f286:=by kernel_rfl
 f317:=by kernel_rfl
 f318:=by kernel_rfl
 f319:=by kernel_rfl
 f320:=by kernel_rfl
 f337:=by kernel_rfl
 f338:=by kernel_rfl
 t0:=by kernel_rfl
 a0:=fun w=>rfl
 z0:=fun w=>rfl
 v0:=fun w=>rfl
 t2:=by kernel_rfl
 a2:=fun w=>rfl
 z2:=fun w=>rfl
 v2:=fun w=>rfl
 t3:=by kernel_rfl
 a3:=fun w=>rfl
 z3:=fun w=>rfl
 v3:=fun w=>rfl
 t4:=by kernel_rfl
 a4:=fun w=>rfl
 z4:=fun w=>rfl
 v4:=fun w=>rfl
 t5:=by kernel_rfl
 a5:=fun w=>rfl
 z5:=fun w=>rfl
 v5:=fun w=>rfl
 t9:=by kernel_rfl
 a9:=fun w=>rfl
 z9:=fun w=>rfl
 v9:=fun w=>rfl
 t20:=by kernel_rfl
 a20:=fun w=>rfl
 z20:=fun w=>rfl
 v20:=fun w=>rfl
 t37:=by kernel_rfl
 a37:=fun w=>rfl
 z37:=fun w=>rfl
 v37:=fun w=>rfl
 t46:=by kernel_rfl
 a46:=fun w=>rfl
 z46:=fun w=>rfl
 v46:=fun w=>rfl
 t51:=by kernel_rfl
 a51:=fun w=>rfl
 z51:=fun w=>rfl
 v51:=fun w=>rfl
 t53:=by kernel_rfl
 a53:=fun w=>rfl
 z53:=fun w=>rfl
 v53:=fun w=>rfl
 t171:=by kernel_rfl
 a171:=fun w=>rfl
 z171:=fun w=>rfl
 v171:=fun w=>rfl
 t173:=by kernel_rfl
 a173:=fun w=>rfl
 z173:=fun w=>rfl
 v173:=fun w=>rfl
 t212:=by kernel_rfl
 a212:=fun w=>rfl
 z212:=fun w=>rfl
 v212:=fun w=>rfl
 t213:=by kernel_rfl
 a213:=fun w=>rfl
 z213:=fun w=>rfl
 t232:=by kernel_rfl
 a232:=fun w=>rfl
 z232:=fun w=>rfl
 v232:=fun w=>rfl
 t233:=by kernel_rfl
 a233:=fun w=>rfl
 z233:=fun w=>rfl
 v233:=fun w=>rfl
 g17:=by kernel_rfl
 g18:=by kernel_rfl
 g19:=by kernel_rfl
theorem X8E (i:Nat) (hi:i<100) (w:World):Calls prog 75 #[.int .i64 i] w fun e w'=>e=.returned (.string ⟨(Lib.decDigits i).toArray⟩)/\w'=w:=Any.strconv_Itoa_small itoL i hi w
def X2e (i:Nat):ByteArray:=⟨(Lib.decDigits i).toArray⟩
theorem itoa_con (i:Nat) (hi:i<100) (d:Nat):Con prog 75 true [li i] (.v (.one (.c (.lit (.string (X2e i)))))) none d:=by
 refine⟨by kernel_rfl,fun F w vs hF hsz hargs=>?_⟩;obtain⟨l⟩:=vs
 match l,hsz with
 | [v0],_=>
   have a0:CRel F w (.lit (.int .i64 i)) v0:=hargs 0 _ v0 rfl rfl;cases a0;refine(X8E i hi w).mono ?_;rintro e w' ⟨rfl,rfl⟩;exact⟨_,fun _=>False,noγ,rfl,⟨rfl,rfl,rfl,ND _,fun _ _=>rfl⟩,fun b hb=>hb.elim,CRel.lit _,fun o ho=>by cases ho⟩
end Go.Proofs.YtdccocolnaklkaaGreatDoor
namespace Go.Proofs.YtdccocolnaklkaaGreatDoor
open Go Go.Hl
open Tryz(prog)
theorem X7E (s:ByteArray) (k:Nat) (hk:k<100) (hs:catB s (X2e k)=true) (d:Nat):Con prog 32 true [.one (.c (sC s)),li k] (.v (.one (.c (sC (s++X2e k))))) none d:=by
 have ci:=itoa_con k hk;obtain⟨N,hN⟩:∃x,X2e k=x:=⟨_,rfl⟩;rw[hN]at ci hs⊢;clear hN;refine X2 Tryz.func32 ?_;simp only[Tryz.f32];refine X4 ?_;refine X0<|(Xa ci ?_);exact Qd
def digS:ByteArray:=⟨#[48,49,50,51,52,53,54,55,56,57]⟩
def digN (k:Nat):ByteArray:=digS.extract k (k+1)
def numN (k:Nat):ByteArray:=if k<10 then digN k else digN (k/10)++digN (k%10)
theorem numN_eq:∀k:Nat,k<100->numN k=X2e k:=by decide+kernel
theorem numN_cat:∀k:Nat,k<100->catB (digN (k/10)) (digN (k%10))=true:=by decide+kernel
theorem X3L (k:Nat) (hk:k<10) (d:Nat):Con prog 41 true [li k] (.v (.one (.c (sC (digN k))))) none d:=by
 have hw:IntKind.i64.wrap ((k:Int)+1)=(k:Int)+1:=X5;have hsz:(ByteArray.mk #[48,49,50,51,52,53,54,55,56,57]).size=10:=rfl;have h10:(k:Int)<10:=by omega
 have hk1:k+1<=10:=hk;have h01:0<=(k:Int)+1:=by omega
 unfold digN;rw[show digS=ByteArray.mk #[48,49,50,51,52,53,54,55,56,57] from rfl];refine X2 Tryz.func41 ?_;simp only[Tryz.f41];refine X4 ?_;refine X0<|(X8 (fun h2=>?_) fun h2=>?_)
 .exact X7
 exact absurd h2 (by simpa using h10)
theorem X4i (k:Nat) (hk:k<100) (d:Nat):Con prog 41 true [li k] (.v (.one (.c (sC (X2e k))))) none d:=by
 rw[<-numN_eq k hk];unfold numN;by_cases h:k<10
 .rw[N9 h];exact X3L k h d
 rw[N6 h];have c1:=X3L (k/10) (by omega);have hc:=numN_cat k hk
 have hw:IntKind.i64.wrap ((k:Int)/10)=((k/10:Nat):Int):=by
  rw[show(k:Int)/10=((k/10:Nat):Int) by omega];exact X5
 have hm:(k:Int).tmod 10=((k%10:Nat):Int):=by rw[Int.tmod_eq_emod_of_nonneg (by omega)];omega
 have hw2:IntKind.i64.wrap (((k%10:Nat):Int)+1)=((k%10:Nat):Int)+1:=X5;have hlt:k%10+1<=10:=by omega
 have h10:¬(k:Int)<10:=by omega
 obtain⟨q,hq⟩:∃q,k/10=q:=⟨_,rfl⟩;obtain⟨r,hr⟩:∃r,k%10=r:=⟨_,rfl⟩;rw[hq]at c1 hc hw⊢;rw[hr]at hc hm hw2 hlt⊢;have hsz:(ByteArray.mk #[48,49,50,51,52,53,54,55,56,57]).size=10:=rfl;have h01:0<=(r:Int)+1:=by omega
 have hdg:digN r=(ByteArray.mk #[48,49,50,51,52,53,54,55,56,57]).extract r (r+1):=rfl;rw[hdg]at hc⊢;obtain⟨A,hA⟩:∃a,digN q=a:=⟨_,rfl⟩;rw[hA]at c1 hc⊢;clear hq hr h hA hdg;refine X2 Tryz.func41 ?_;simp only[Tryz.f41];refine X4 ?_;refine X0<|(X8 (fun h2=>?_) fun h2=>?_)
 .exact absurd h2 (by simpa using h10)
 refine X0<|(Xx [⟨true,.v (.one (.c (sC A))),none⟩] (by kernel_rfl) (by kernel_rfl) (by rfl) (by simp[*];first|exact⟨rfl,Iff.rfl⟩|exact⟨rfl,trivial⟩|rfl) ?_ ?_)
 .first|exact c1 _|exact trivial|simpa[*]using c1 _
 exact Qd
theorem Xae (g:FuncId) (cap:List CD) (tk:Nat->Bool) (k0:Nat) (hk0:k0<=1000000) (h0:tk k0=false) (h1:∀k,k<k0->tk k=true)
  (hp:∀k,k<=k0->∀d,Con prog g true (li k::cap.map fun c=>.one (.c c)) (.v (lb (tk k))) none d) (d:Nat):Con prog 28 true [.one (.c (.fn g cap))] (.v (li k0)) none d:=by
 refine X2 Tryz.func28 ?_;simp only[Tryz.f28];refine X4 ?_;refine X4 ?_;refine X0<|X3<|(Xb [0] (fun(x:Nat)=>[(3,.v (li x))]) (fun(x:Nat)=>[]) (fun(x:Nat)=>x<=k0) (fun(x:Nat)=>k0 - x) (0:Nat) (Nc _) ?_);rintro x hx;simp only[LN,Nat.reduceBEq,Nat.reduceLT];have cg:=hp x hx;have hw:IntKind.i64.wrap ((x:Int)+1)=(x:Int)+1:=X5;obtain⟨B,hB⟩:∃b,tk x=b:=⟨_,rfl⟩;rw[hB]at cg;clear hp;refine X0<|X0<|(Xa cg ?_);refine(QR (fun h4=>X6 ?_) fun h4=>?_)
 .have hne:x≠k0:=fun e=>by rw[e,h0]at hB;rw[<-hB]at h4;cases h4
  have hx1:x+1<=k0:=by omega
  refine X3<|X1 ?_;exact Xj (x+1) (hx1)
 have hB2:B=false:=by simpa using h4
 have hxe:x=k0:=by
  refine Classical.byContradiction fun hn=>?_;have:=h1 x (by omega);rw[hB,hB2]at this;cases this
 subst hxe;refine(Xd ?_);exact X7
theorem pig:∀(n:Nat) (l:List Nat),(∀k,k<=n->k∈l)->n<l.length
 |0,l,h=>List.length_pos_of_mem (h 0 (ND _))
 | n+1,l,h=>by
   have h1:=h (n+1) (ND _);have h2:=pig n (l.erase (n+1)) fun k hk=>(List.mem_erase_of_ne (by omega)).2 (h k (by omega));rw[List.length_erase_of_mem h1]at h2;omega
theorem least_of {tk:Nat->Bool}:∀n:Nat,tk n=false->∃k,k<=n/\tk k=false/\∀j,j<k->tk j=true:=by
 intro n
 induction n using Nat.strongRecOn with
 | ind n ih=>
   intro hn;by_cases h:∃k,k<n/\tk k=false
   .obtain⟨k,hk,hkt⟩:=h;obtain⟨j,hj,h1⟩:=ih k hk hkt;exact⟨j,by omega,h1⟩
   refine⟨n,ND _,hn,fun j hj=>?_⟩;cases hb:tk j
   .exact absurd ⟨j,hj,hb⟩ h
   rfl
abbrev wr (x:Int):Int:=IntKind.i64.wrap x
def Zq (b:Bool):Int:=if b=true then 1 else 0
def X10 (a b:Int):Int:=
 if b=0 then 0 else if(!decide (a.tmod b=0)&&(decide (a<0)!=decide (b<0)))=true then wr (wr (a.tdiv b) - 1)else wr (a.tdiv b)
def X37 (a b:Int):Int:=if b=0 then 0 else wr (a - wr (b*X10 a b))
def binI (o a b:Int):Int:=
 if o=8 then wr (a+b)else if o=9 then wr (a - b)else if o=10 then wr (a*b)else if o=11 then X10 a b else if o=12 then X37 a b
 else if o=13 then Zq (decide (a=b))else if o=14 then Zq (!decide (a=b))else if o=15 then Zq (decide (a<b))else if o=16 then Zq (decide (a<=b))
 else if o=17 then Zq (decide (b<a))else if o=18 then Zq (decide (b<=a))else if o=19 then Zq (!decide (a=0)&& !decide (b=0))
 else if o=20 then Zq (!decide (a=0)|| !decide (b=0))else if o=21 then mn a b else mx a b
theorem WL (b:Bool) (d:Nat):Con prog 143 true [lb b] (.v (li (Zq b))) none d:=by
 refine X2 Tryz.func143 ?_;simp only[Tryz.f143];refine X4 ?_;refine X0<|(X8 (fun h2=>?_) fun h2=>?_)
 .refine X4 ?_;exact(Qd (he:=by first|rfl|(simp[*,Zq];done)|(simp only[Xl,Zq];(repeat' split)<;>first|rfl|(exfalso;omega)|simp_all)))
 refine X4 ?_;exact(Qd (he:=by first|rfl|(simp[*,Zq];done)|(simp only[Xl,Zq];(repeat' split)<;>first|rfl|(exfalso;omega)|simp_all)))
theorem X9I (a b:Int) (d:Nat):Con prog 159 true [li a,li b] (.v (li (X10 a b))) none d:=by
 obtain⟨res,hres⟩:∃r,X10 a b=r:=⟨_,rfl⟩;rw[hres];unfold X10 at hres;refine X2 Tryz.func159 ?_;simp only[Tryz.f159];refine X4 ?_;refine X0<|(X8 (fun h2=>?_) fun h2=>?_)
 .rw[N9 h2]at hres;subst hres;exact X7
 rw[N6 h2]at hres;refine X4 ?_;refine X0<|(X8 (fun h7=>?_) fun h7=>?_)
 .rw[N9 (by simpa using h7)]at hres;subst hres;refine X1 ?_;exact X7
 rw [N6 (by
     simp only[N4,Nk,Nd,bne_iff_ne,ne_eq,decide_eq_decide,not_and,Decidable.not_not];intro h;rcases h7 with h7|h7
     .exact absurd h7 h
     simpa using h7)]at hres
 subst hres;exact X7
theorem mod_con (a b:Int) (d:Nat):Con prog 160 true [li a,li b] (.v (li (X37 a b))) none d:=by
 obtain⟨res,hres⟩:∃r,X37 a b=r:=⟨_,rfl⟩;rw[hres];unfold X37 at hres;refine X2 Tryz.func160 ?_;simp only[Tryz.f160];refine X4 ?_;refine X0<|(X8 (fun h2=>?_) fun h2=>?_)
 .rw[N9 h2]at hres;subst hres;exact X7
 rw[N6 h2]at hres;subst hres;refine X0<|(Xa (X9I _ _) ?_);exact Qd
theorem X9w (o a b:Int) (d:Nat):Con prog 144 true [li o,li a,li b] (.v (li (binI o a b))) none d:=by
 obtain⟨res,hres⟩:∃r,binI o a b=r:=⟨_,rfl⟩;rw[hres];unfold binI at hres;refine X2 Tryz.func144 ?_;simp only[Tryz.f144];refine X4 ?_;refine X0<|X0<|X1 ?_;refine X3<|(Xc (fun h3=>?_) fun h3=>?_)
 .rw[N9 h3]at hres;subst hres;exact X7
 rw[N6 h3]at hres;refine(Xc (fun h7=>?_) fun h7=>?_)
 .rw[N9 h7]at hres;subst hres;exact X7
 rw[N6 h7]at hres;refine(Xc (fun h11=>?_) fun h11=>?_)
 .rw[N9 h11]at hres;subst hres;exact X7
 rw[N6 h11]at hres;refine(Xc (fun h15=>?_) fun h15=>?_)
 .rw[N9 h15]at hres;subst hres;refine X0<|(Xa (X9I _ _) ?_);exact Qd
 rw[N6 h15]at hres;refine(Xc (fun h19=>?_) fun h19=>?_)
 .rw[N9 h19]at hres;subst hres;refine X0<|(Xa (mod_con _ _) ?_);exact Qd
 rw[N6 h19]at hres;refine(Xc (fun h23=>?_) fun h23=>?_)
 .rw[N9 h23]at hres;subst hres;refine X0<|(Xa (WL _) ?_);exact Qd
 rw[N6 h23]at hres;refine(Xc (fun h27=>?_) fun h27=>?_)
 .rw[N9 h27]at hres;subst hres;refine X0<|(Xa (WL _) ?_);exact Qd
 rw[N6 h27]at hres;refine(Xc (fun h31=>?_) fun h31=>?_)
 .rw[N9 h31]at hres;subst hres;refine X0<|(Xa (WL _) ?_);exact Qd
 rw[N6 h31]at hres;refine(Xc (fun h35=>?_) fun h35=>?_)
 .rw[N9 h35]at hres;subst hres;refine X0<|(Xa (WL _) ?_);exact Qd
 rw[N6 h35]at hres;refine(Xc (fun h39=>?_) fun h39=>?_)
 .rw[N9 h39]at hres;subst hres;refine X0<|(Xa (WL _) ?_);exact Qd
 rw[N6 h39]at hres;refine(Xc (fun h43=>?_) fun h43=>?_)
 .rw[N9 h43]at hres;subst hres;refine X0<|(Xa (WL _) ?_);exact Qd
 rw[N6 h43]at hres;refine(Xc (fun h47=>?_) fun h47=>?_)
 .rw[N9 h47]at hres;subst hres;refine X0<|(Xa (WL _) ?_);exact Qd
 rw[N6 h47]at hres;refine(Xc (fun h51=>?_) fun h51=>?_)
 .rw[N9 h51]at hres;subst hres;refine X0<|(Xa (WL _) ?_);exact Qd
 rw[N6 h51]at hres;refine(X8 (fun h55=>?_) fun h55=>?_)
 .rw[N9 h55]at hres;subst hres;refine X0<|(Xa (Qj _ _) ?_);exact Qd
 rw[N6 h55]at hres;subst hres;refine X0<|(Xa (Qt _ _) ?_);exact Qd
def selI (k0:Int) (len:Nat):Int:=wr (1+XP k0 0 (wr ((len:Int) - 2)))
def X3p (vs:List Int) (o n:Int) (k:List Int):Int:=
 if o=0 then n else if o=24 then(vs[n.toNat]?).getD 0 else if o=6 then wr (-((k[0]?).getD 0))else if o=7 then Zq (decide ((k[0]?).getD 0=0))
 else if o=23 then(if(k[0]?).getD 0=0 then(k[2]?).getD 0 else(k[1]?).getD 0)
 else if o=25 then(k[(selI ((k[0]?).getD 0) k.length).toNat]?).getD 0
 else binI o ((k[0]?).getD 0) ((k[1]?).getD 0)
mutual
def vT (vs:List Int):Tm->Int
 | .mk o n ks=>X3p vs o n (vTs vs ks)
def vTs (vs:List Int):List Tm->List Int
 |[]=>[]
 |t::l=>vT vs t::vTs vs l
end
theorem X9U (vs:List Int):∀l:List Tm,vTs vs l=l.map (vT vs)
 |[]=>by simp[vTs]
 |t::l=>by simp[vTs,X9U vs l]
theorem kq1 {vars:List Vr} {inp:Bool} {o n:Int} {ks:List Tm} (h:XK vars inp o n ks.length=true) (ho:o=6\/o=7):∃a,ks=[a]:=by
 have:=WJ h;rw[show XI o=(1,1) by unfold XI;rw[N6 (by omega),N9 ho]]at this;simp only at this
 match ks,this with
 |[a],_=>exact⟨a,rfl⟩
 |[],h=>simp at h
 |a::b::l,h=>simp at h;omega
theorem kq2 {vars:List Vr} {inp:Bool} {o n:Int} {ks:List Tm} (h:XK vars inp o n ks.length=true) (h1:¬o=0) (h2:¬o=24) (h3:¬o=6) (h4:¬o=7) (h5:¬o=23) (h6:¬o=25):∃a b,ks=[a,b]:=by
 have:=WJ h
 have hr:8<=o/\o<=22:=by
  refine Classical.byContradiction fun hc=>?_;rw[show XI o=(-1,-1) by unfold XI;rw[N6 (by omega),N6 (by omega),N6 hc,N6 h5,N6 h6]]at this;simp at this
 rw[show XI o=(2,2) by unfold XI;rw[N6 (by omega),N6 (by omega),N9 hr]]at this;simp only at this
 match ks,this with
 |[a,b],_=>exact⟨a,b,rfl⟩
 |[],h=>simp at h
 |[a],h=>simp at h
 |a::b::c::l,h=>simp at h;omega
theorem kq3 {vars:List Vr} {inp:Bool} {n:Int} {ks:List Tm} (h:XK vars inp 23 n ks.length=true):∃a b c,ks=[a,b,c]:=by
 have:=WJ h;rw[show XI 23=(3,3) by decide]at this;simp only at this
 match ks,this with
 |[a,b,c],_=>exact⟨a,b,c,rfl⟩
 |[],h=>simp at h
 |[a],h=>simp at h
 |[a,b],h=>simp at h
 |a::b::c::e::l,h=>simp at h;omega
theorem kqN {vars:List Vr} {inp:Bool} {n:Int} {ks:List Tm} (h:XK vars inp 25 n ks.length=true):2<=ks.length/\ks.length<=33:=by
 have:=WJ h;rw[show XI 25=(2,33) by decide]at this;simp only at this;omega
theorem X32 (vars:List Vr) (inp:Bool) (vs:List Int) (hvs:vs.length=vars.length) (t:Tm):Xt vars inp t=true->∀d:Nat,
  Con prog 118 true [lI vs,aT t] (.v (li (vT vs t))) none d:=by
 induction t using Tm.ind with
 |h o n ks ih=>
 intro hf d;simp only[Xt,N4]at hf;have hfk:=QB hf.2;have hf:=hf.1;obtain⟨res,hres⟩:∃r,vT vs (.mk o n ks)=r:=⟨_,rfl⟩;rw[hres];simp only[vT,X3p]at hres;have ih:=fun t ht=>ih t ht (hfk t ht);clear hfk;refine X2 Tryz.func118 ?_;simp only[Tryz.f118];simp only[aT,Tm.enc];refine X4 ?_;refine X0<|X0<|X1 ?_;refine X3<|(Xc (fun h3=>?_) fun h3=>?_)
 .rw[N9 h3]at hres;subst hres;exact X7
 rw[N6 h3]at hres;refine(Xc (fun h7=>?_) fun h7=>?_)
 .rw[N9 h7]at hres;subst h7;obtain⟨hn0,v,hv,_⟩:=Wn hf;have hlt:n.toNat<vs.length:=by rw[hvs];exact(N5.1 hv).1
  obtain⟨x,hx⟩:∃x,vs[n.toNat]? =some x:=⟨vs[n.toNat],by simp[hlt]⟩;rw[hx]at hres;simp only[Option.getD_some]at hres;subst hres;clear hlt hv;exact X7
 rw[N6 h7]at hres;refine(Xc (fun h11=>?_) fun h11=>?_)
 .rw[N9 h11]at hres;obtain⟨⟨ao,an,ak⟩,rfl⟩:=kq1 hf (.inl h11);have ca:=ih _ (NS.2 rfl);simp only[aT,Tm.enc,Na,Nb]at ca;obtain⟨A,hA⟩:∃x,vT vs (.mk ao an ak)=x:=⟨_,rfl⟩;rw[hA]at ca;rw[show vTs vs [Tm.mk ao an ak]=[A] by simp[vTs,hA]]at hres;simp only[List.getElem?_cons_zero,Option.getD_some]at hres;subst hres;clear ih hA;refine X0<|(Xa ca ?_);exact Qd
 rw[N6 h11]at hres;refine(Xc (fun h15=>?_) fun h15=>?_)
 .rw[N9 h15]at hres;obtain⟨⟨ao,an,ak⟩,rfl⟩:=kq1 hf (.inr h15);have ca:=ih _ (NS.2 rfl);simp only[aT,Tm.enc,Na,Nb]at ca;obtain⟨A,hA⟩:∃x,vT vs (.mk ao an ak)=x:=⟨_,rfl⟩;rw[hA]at ca;rw[show vTs vs [Tm.mk ao an ak]=[A] by simp[vTs,hA]]at hres;simp only[List.getElem?_cons_zero,Option.getD_some]at hres;subst hres;clear ih hA;refine X0<|(X7r ca (WL _) ?_);exact Qd
 rw[N6 h15]at hres;refine(Xc (fun h19=>?_) fun h19=>?_)
 .rw[N9 h19]at hres;subst h19;obtain⟨⟨ao,an,ak⟩,⟨bo,bn,bk⟩,⟨co,cn,ck⟩,rfl⟩:=kq3 hf;have ca:=ih (.mk ao an ak) (by simp);have cb:=ih (.mk bo bn bk) (by simp);have cc:=ih (.mk co cn ck) (by simp);simp only[aT,Tm.enc,Na,Nb]at ca cb cc;obtain⟨A,hA⟩:∃x,vT vs (.mk ao an ak)=x:=⟨_,rfl⟩;obtain⟨B,hB⟩:∃x,vT vs (.mk bo bn bk)=x:=⟨_,rfl⟩;obtain⟨C,hC⟩:∃x,vT vs (.mk co cn ck)=x:=⟨_,rfl⟩;rw[hA]at ca;rw[hB]at cb;rw[hC]at cc;rw[show vTs vs [Tm.mk ao an ak,Tm.mk bo bn bk,Tm.mk co cn ck]=[A,B,C] by simp[vTs,hA,hB,hC]]at hres;simp only[List.getElem?_cons_zero,List.getElem?_cons_succ,Option.getD_some]at hres;clear ih hA hB hC;refine X0<|X0<|(Xa ca ?_);refine(XM (fun h21=>?_) fun h21=>?_)
  .rw[N6 h21]at hres;subst hres;refine X0<|(Xa cb ?_);exact Qd
  rw[N9 (by simpa using h21)]at hres;subst hres;refine X0<|(Xa cc ?_);exact Qd
 rw[N6 h19]at hres;refine(X8 (fun h27=>?_) fun h27=>?_)
 .rw[N9 h27]at hres;subst h27;have hln:=kqN hf;obtain⟨⟨ao,an,ak⟩,he0⟩:∃t,ks[0]? =some t:=⟨ks[0],by simp⟩;have ca:=ih _ (N3 he0);have he0':=Qc he0;simp only[aT,Tm.enc,Na,Nb]at ca he0';obtain⟨A,hA⟩:∃x,vT vs (.mk ao an ak)=x:=⟨_,rfl⟩;rw[hA]at ca;rw[X9U,Nf,Nf,he0,Option.map_some,Option.getD_some,hA,D6]at hres;have hw1:IntKind.i64.wrap ((ks.length:Int) - 2)=(ks.length:Int) - 2:=X5;unfold selI at hres;simp only[wr,hw1]at hres;have hh:=X2g (n:=A) (lo:=0) (hi:=(ks.length:Int) - 2) (by omega);obtain⟨H,hH⟩:∃x,XP A 0 ((ks.length:Int) - 2)=x:=⟨_,rfl⟩;have cheld:=X4H A 0 ((ks.length:Int) - 2);rw[hH]at hres hh cheld;have hw2:IntKind.i64.wrap (1+H)=1+H:=X5;rw[hw2]at hres;obtain⟨⟨bo,bn,bk⟩,he1⟩:∃t,ks[(1+H).toNat]? =some t:=⟨ks[(1+H).toNat]'(by omega),by simp⟩;have cb:=ih _ (N3 he1);have he1':=Qc he1;simp only[aT,Tm.enc,Na,Nb]at cb he1';rw[he1,Option.map_some,Option.getD_some]at hres;obtain⟨B,hB⟩:∃x,vT vs (.mk bo bn bk)=x:=⟨_,rfl⟩;rw[hB]at cb hres;subst hres;have hp1:0<=1+H:=by omega
  have hp2:1<=ks.length:=by omega
  clear ih hA hB hH he0 he1 hln hf hvs;refine X0<|(Xx [⟨true,.v (li A),none⟩,⟨true,.v (li H),none⟩,⟨true,.v (li B),none⟩] (by kernel_rfl) (by kernel_rfl) (by rfl) (by simp[*];first|exact⟨rfl,Iff.rfl⟩|exact⟨rfl,trivial⟩|rfl) ?_ ?_)
  .first|exact⟨ca _,cheld _,cb _⟩|exact trivial|(repeat' first|exact trivial|exact ca _|exact cheld _|exact cb _|apply And.intro)
  exact Qd
 rw[N6 h27]at hres;obtain⟨⟨ao,an,ak⟩,⟨bo,bn,bk⟩,rfl⟩:=kq2 hf h3 h7 h11 h15 h19 h27;have ca:=ih (.mk ao an ak) (by simp);have cb:=ih (.mk bo bn bk) (by simp);simp only[aT,Tm.enc,Na,Nb]at ca cb;simp only[vTs,List.getElem?_cons_zero,List.getElem?_cons_succ,Option.getD_some]at hres;obtain⟨A,hA⟩:∃x,vT vs (.mk ao an ak)=x:=⟨_,rfl⟩;obtain⟨B,hB⟩:∃x,vT vs (.mk bo bn bk)=x:=⟨_,rfl⟩;rw[hA]at ca hres;rw[hB]at cb hres;subst hres;clear ih hA hB;refine X0<|(Xx [⟨true,.v (li A),none⟩,⟨true,.v (li B),none⟩,⟨true,.v (li (binI o A B)),none⟩] (by kernel_rfl) (by kernel_rfl) (by rfl) (by simp[*];first|exact⟨rfl,Iff.rfl⟩|exact⟨rfl,trivial⟩|rfl) ?_ ?_)
 .first|exact⟨ca _,cb _,X9w _ _ _ _⟩|exact trivial|(repeat' first|exact trivial|exact ca _|exact cb _|exact X9w _ _ _ _|apply And.intro)
 exact Qd
theorem X8O (l:List Int) (i:Nat) (d:Nat):Con prog 115 true [lI l,li i] (.tup [li ((l[i]?).getD 0),lb (decide (i<l.length))]) none d:=by
 obtain⟨A,hA⟩:∃x,(l[i]?).getD 0=x:=⟨_,rfl⟩;obtain⟨B,hB⟩:∃x,decide (i<l.length)=x:=⟨_,rfl⟩;rw[hA,hB];refine X2 Tryz.func115 ?_;simp only[Tryz.f115];refine X4 ?_;refine X0<|(X8 (fun h2=>?_) fun h2=>?_)
 .have h3:¬i<l.length:=by omega
  rw[NB (by omega)]at hA;rw[decide_eq_false h3]at hB;simp only[Option.getD_none]at hA;subst hA hB;exact X7
 have h3:i<l.length:=by omega
 obtain⟨x,hx⟩:=X0i h3;rw[hx]at hA;rw[Nw h3]at hB;simp only[Option.getD_some]at hA;subst hA hB;clear h3;exact X7
def stlL:List Int->Int->Int->Bool->Int
 |[],_,best,_=>best
 |b::l,t,best,found=>if t<=b/\(found=false\/b<best)then stlL l t b true else stlL l t best found
theorem X7j (bs:List Int) (t:Int) (hl:bs.length<=1000000000) (d:Nat):Con prog 119 true [lI bs,li t] (.v (li (stlL bs t t false))) none d:=by
 obtain⟨res,hres⟩:∃r,stlL bs t t false=r:=⟨_,rfl⟩;rw[hres];refine X2 Tryz.func119 ?_;simp only[Tryz.f119];refine X4 ?_;refine X4 ?_;refine X0<|X0<|X1 ?_;refine X3<|(Xb [0,1] (fun(x:Nat×Int×Bool)=>[(5,.v (li x.2.1)),(6,.v (lb x.2.2)),(7,.v (li x.1))]) (fun(x:Nat×Int×Bool)=>[]) (fun(x:Nat×Int×Bool)=>x.1<=bs.length/\stlL (bs.drop x.1) t x.2.1 x.2.2=res) (fun(x:Nat×Int×Bool)=>bs.length - x.1) (0,t,false) ⟨Nc _,hres⟩ ?_);rintro⟨k,best,found⟩ ⟨hk,hJ⟩;simp only[LN,Nat.reduceBEq,Nat.reduceLT];simp only at hk hJ;clear hres;refine X0<|(Xc (fun h5=>X6 ?_) fun h5=>?_)
 .have hlt:k<bs.length:=by omega
  obtain⟨b,he,hd⟩:=Xw hlt;have hw1:=Xz hlt (by omega);have hk1:k+1<=bs.length:=hlt;rw[hd]at hJ;simp only[stlL]at hJ;clear hlt h5 hd;refine X0<|X3<|(X8 (fun h7=>?_) fun h7=>?_)
  .rw[N9 (by simpa using h7)]at hJ;refine X1 ?_;refine X1 ?_;exact Xj ((k+1,b,true)) (⟨hk1,hJ⟩) (hm:=by simp only;omega)
  have h7':b<t\/found=true/\best<=b:=by simpa using h7
  rw [N6 (by
      rintro⟨ha,hb⟩;rcases h7' with h|h
      .omega
      rcases hb with hb|hb
      .rw[hb]at h;exact absurd h.1 (by decide)
      omega)]at hJ
  clear h7';refine X1 ?_;exact Xj ((k+1,best,found)) (⟨hk1,hJ⟩) (hm:=by simp only;omega)
 have hkl:k=bs.length:=by omega
 rw[hkl,Nj]at hJ;simp only[stlL]at hJ;subst hJ;refine(Xd ?_);exact X7
def Qw (vs:List Int) (l:List Ht):List Int:=l.map fun h=>XP (vT vs h.term) h.low h.high
theorem Xba (f:Fl) (vs:List Int) (hvs:vs.length=f.vars.length) (hh:f.hats.length<=1000000) (hf:∀h∈f.hats,Xt f.vars true h.term=true) (d:Nat):
  Con prog 82 false [aF f,lI vs] (.v (lI (Qw vs f.hats))) none d:=by
 obtain⟨vars,hats,body⟩:=f;simp only at hvs hh hf⊢;have hv0:Qw vs []=[]:=rfl;refine X2 Tryz.func82 ?_;simp only[Tryz.f82];simp only[aF,Fl.enc,Na,Nb];refine X4 ?_;refine X4 ?_;refine X0<|X0<|X1 ?_;refine X3<|(Xb [1,2] (fun(x:Nat)=>[(5,.v (.one (.own 1005))),(6,.v (li x))]) (fun(x:Nat)=>[(2,.box [.c (.sl 5 (Xr vars)),.c (.sl 6 (Xu hats)),.c (.sl 10 (Xf body))]),(1005,.row 3 1 (Xk (Qw vs (hats.take x))))]) (fun(x:Nat)=>x<=hats.length) (fun(x:Nat)=>hats.length - x) (0:Nat) (Nc _) ?_);rintro k hk;simp only[LN,Nat.reduceBEq,Nat.reduceLT];refine X0<|(Xc (fun h5=>X6 ?_) fun h5=>?_)
 .have hlt:k<hats.length:=by omega
  obtain⟨h,he,hd⟩:=Xw hlt;have hw1:=Xz hlt (by omega);have hk1:k+1<=hats.length:=hlt;have htl:(Qw vs (hats.take k)).length=k:=by unfold Qw;rw[D6,Ns];omega
  have hroom:QF (k+1) 8:=XO (by omega) (by omega);have cv:=X32 vars true vs hvs h.term (hf h (N3 he))
  have hsn:Xk (Qw vs (hats.take (k+1)))=Xk (Qw vs (hats.take k))++[[iC (XP (vT vs h.term) h.low h.high)]]:=by
   rw[Z2 he];simp[Qw,Xk]
  obtain⟨nm,lo,hi,⟨o,tn,ks⟩⟩:=h;simp only at cv hsn;obtain⟨A,hA⟩:∃x,vT vs (.mk o tn ks)=x:=⟨_,rfl⟩;have ch:=X4H A lo hi;obtain⟨H,hH⟩:∃x,XP A lo hi=x:=⟨_,rfl⟩;rw[hA,hH]at hsn;rw[hA]at cv;rw[hH]at ch;simp only[aT,Tm.enc,Na,Nb]at cv;clear hlt h5 hd hA hH;refine X0<|X3<|X0<|X1 ?_;refine(Xx [⟨true,.v (li A),none⟩,⟨true,.v (li H),none⟩] (by kernel_rfl) (by kernel_rfl) (by rfl) (by simp[*];first|exact⟨rfl,Iff.rfl⟩|exact⟨rfl,trivial⟩|rfl) ?_ ?_)
  .first|exact⟨cv _,ch _⟩|exact trivial|(repeat' first|exact trivial|exact cv _|exact ch _|apply And.intro)
  refine X1 ?_;exact Xj (k+1) (hk1)
 have hkl:k=hats.length:=by omega
 subst hkl;simp only[List.take_length];refine(Xd ?_);refine X4 ?_;exact Xn ⟨.inr rfl,_,XL 1005 rfl,⟨⟨_,by simp;rfl,by simp[Xl]⟩,by simp,fun h=>by cases h⟩⟩
theorem encI_set (l:List Int) (i:Nat) (x:Int):Xk (l.set i x)=(Xk l).set i [iC x]:=by simp[Xk,List.map_set]
theorem set_con (f:Fl) (vs:List Int) (v n:Int) (w:Vr) (hvs:vs.length=f.vars.length) (hl:f.vars.length<=1000000) (h0:0<=v) (hw:f.vars[v.toNat]? =some w) (d:Nat):
  Con prog 117 false [aF f,lI vs,li v,li n] (.v (lI (vs.set v.toNat (XP n w.low w.high)))) none d:=by
 obtain⟨vars,hats,body⟩:=f;simp only at hvs hl hw;have hlt:v.toNat<vars.length:=(N5.1 hw).1;have hroom:QF vars.length 8:=XO (by omega) (by omega);obtain⟨x,hx⟩:∃x,vs[v.toNat]? =some x:=⟨vs[v.toNat]'(by omega),by simp⟩;have ch:=X4H n w.low w.high;obtain⟨nm,kd,lo,hi,ini⟩:=w;simp only at ch⊢;obtain⟨H,hH⟩:∃x,XP n lo hi=x:=⟨_,rfl⟩;rw[hH]at ch⊢;have hes:=encI_set vs v.toNat H;clear hlt hH;refine X2 Tryz.func117 ?_;simp only[Tryz.f117];simp only[aF,Fl.enc,Na,Nb];refine X4 ?_;refine X4 ?_;refine X0<|(Xx [⟨true,.v (li H),none⟩] (by kernel_rfl) (by kernel_rfl) (by rfl) (by simp[*];first|exact⟨rfl,Iff.rfl⟩|exact⟨rfl,trivial⟩|rfl) ?_ ?_)
 .first|exact ch _|exact trivial|simpa[*]using ch _
 refine X4 ?_;exact Xn ⟨.inr rfl,_,XL 12 rfl,⟨⟨_,by simp;rfl,by simp[Xl,hes]⟩,by simp,fun h=>by cases h⟩⟩
@[simp] theorem encI_app (a b:List Int):Xk (a++b)=Xk a++Xk b:=by simp[Xk]
@[simp] theorem encI_one (x:Int):Xk [x]=[[iC x]]:=rfl
structure Inp where
 s:List Int
 p:List Int
 r:List Int
abbrev aI (i:Inp):TV:=.agg [.c (.sl 1 (Xk i.s)),.c (.sl 1 (Xk i.p)),.c (.sl 1 (Xk i.r))]
structure Pk where
 n:Int
 is_:Bool
 a:Nat
 b:Nat
 c:Nat
def Za (v:Vr) (i:Inp) (a b c:Nat):Pk:=
 if v.kind=1 then⟨(i.s[a]?).getD 0,decide (a<i.s.length),a+1,b,c⟩
 else if v.kind=2 then⟨(i.p[b]?).getD 0,decide (b<i.p.length),a,b+1,c⟩
 else if v.kind=3 then⟨(i.r[c]?).getD 0,decide (c<i.r.length),a,b,c+1⟩
 else⟨v.init,true,a,b,c⟩
def stL (i:Inp):List Vr->Nat->Nat->Nat->List Int->Bool->List Int×Int
 |[],a,b,c,vals,fits=>if a=i.s.length/\b=i.p.length/\c=i.r.length then(if fits=true then(vals,0)else([],3))else([],1)
 | v::l,a,b,c,vals,fits=>
   if(Za v i a b c).is_=true then stL i l (Za v i a b c).a (Za v i a b c).b (Za v i a b c).c (vals++[(Za v i a b c).n]) (fits&&(decide (v.low<=(Za v i a b c).n)&&decide ((Za v i a b c).n<=v.high)))
   else([],1)
theorem Xb9 (vars:List Vr) (i:Inp) (hl:vars.length<=1000000) (d:Nat):Con prog 80 false [lV vars,aI i] (.tup [lI (stL i vars 0 0 0 [] true).1,li (stL i vars 0 0 0 [] true).2]) none d:=by
 obtain⟨res,hres⟩:∃r,stL i vars 0 0 0 [] true=r:=⟨_,rfl⟩;rw[hres];obtain⟨is,ip,ir⟩:=i;refine X2 Tryz.func80 ?_;simp only[Tryz.f80];simp only[aI];refine X4 ?_;refine X4 ?_;refine X4 ?_;refine X4 ?_;refine X0<|X0<|X1 ?_;refine X3<|(Xb [0,3] (fun(x:Nat×Nat×Nat×Nat×List Int×Bool)=>[(6,.v (li x.2.1)),(7,.v (li x.2.2.1)),(8,.v (li x.2.2.2.1)),(9,.v (.one (.own 1009))),(10,.v (lb x.2.2.2.2.2)),(11,.v (li x.1))]) (fun(x:Nat×Nat×Nat×Nat×List Int×Bool)=>[(3,.box [.c (.sl 1 (Xk is)),.c (.sl 1 (Xk ip)),.c (.sl 1 (Xk ir))]),(1009,.row 3 1 (Xk x.2.2.2.2.1))]) (fun(x:Nat×Nat×Nat×Nat×List Int×Bool)=>x.1<=vars.length/\stL ⟨is,ip,ir⟩ (vars.drop x.1) x.2.1 x.2.2.1 x.2.2.2.1 x.2.2.2.2.1 x.2.2.2.2.2=res/\x.2.2.2.2.1.length=x.1/\x.2.1<=x.1/\x.2.2.1<=x.1/\x.2.2.2.1<=x.1) (fun(x:Nat×Nat×Nat×Nat×List Int×Bool)=>vars.length - x.1) (0,0,0,0,[],true) ⟨Nc _,hres,rfl,ND _,ND _,ND _⟩ ?_);rintro⟨k,a,b,c,vals,fits⟩ ⟨hk,hJ,hvl,ha,hb,hc⟩;simp only[LN,Nat.reduceBEq,Nat.reduceLT];simp only at hk hJ hvl ha hb hc;clear hres;refine X0<|(Xc (fun h7=>X6 ?_) fun h7=>?_)
 .have hlt:k<vars.length:=by omega
  obtain⟨v,he,hd⟩:=Xw hlt;have hw1:=Xz hlt (by omega);have hwa:IntKind.i64.wrap ((a:Int)+1)=(a:Int)+1:=X5;have hwb:IntKind.i64.wrap ((b:Int)+1)=(b:Int)+1:=X5;have hwc:IntKind.i64.wrap ((c:Int)+1)=(c:Int)+1:=X5;have hk1:k+1<=vars.length:=hlt;have hroom:QF (k+1) 8:=XO (by omega) (by omega);rw[hd]at hJ;simp only[stL]at hJ;obtain⟨nm,kd,lo,hi,ini⟩:=v;obtain⟨Q,hQ⟩:∃q,Za ⟨nm,kd,lo,hi,ini⟩ ⟨is,ip,ir⟩ a b c=q:=⟨_,rfl⟩;rw[hQ]at hJ;unfold Za at hQ;simp only at hQ;clear hlt h7 hd;refine X0<|X3<|X0<|X1 ?_;refine X4 ?_;refine(XY [0,3,9,10,11,12] (fun(z:Pk)=>[(6,.v (li z.a)),(7,.v (li z.b)),(8,.v (li z.c)),(13,.v (li z.n)),(14,.v (lb z.is_))]) (fun(z:Pk)=>[(3,.box [.c (.sl 1 (Xk is)),.c (.sl 1 (Xk ip)),.c (.sl 1 (Xk ir))]),(12,.box [.c (sC nm),.c (iC kd),.c (iC lo),.c (iC hi),.c (iC ini)]),(1009,.row 3 1 (Xk vals))]) (fun(z:Pk)=>z=Q/\z.a<=k+1/\z.b<=k+1/\z.c<=k+1) ?_ ?_)
  .refine X4 ?_;refine X3<|(Xc (fun h13=>?_) fun h13=>?_)
   .rw[N9 h13]at hQ;refine X0<|(Xa (X8O _ _) ?_);refine X1 ?_;exact Xv (⟨(is[a]?).getD 0,decide (a<is.length),a+1,b,c⟩) (⟨hQ,by simp only;omega,by simp only;omega,by simp only;omega⟩)
   rw[N6 h13]at hQ;refine(Xc (fun h18=>?_) fun h18=>?_)
   .rw[N9 h18]at hQ;refine X0<|(Xa (X8O _ _) ?_);refine X1 ?_;exact Xv (⟨(ip[b]?).getD 0,decide (b<ip.length),a,b+1,c⟩) (⟨hQ,by simp only;omega,by simp only;omega,by simp only;omega⟩)
   rw[N6 h18]at hQ;refine(X8 (fun h23=>?_) fun h23=>?_)
   .rw[N9 h23]at hQ;refine X0<|(Xa (X8O _ _) ?_);refine X1 ?_;exact Xv (⟨(ir[c]?).getD 0,decide (c<ir.length),a,b,c+1⟩) (⟨hQ,by simp only;omega,by simp only;omega,by simp only;omega⟩)
   rw[N6 h23]at hQ;exact Xv (⟨ini,true,a,b,c⟩) (⟨hQ,by simp only;omega,by simp only;omega,by simp only;omega⟩)
  rintro⟨zn,zi,za,zb,zc⟩ ⟨hz,h1,h2,h3⟩;simp only[LN,Nat.reduceBEq,Nat.reduceLT];clear hQ;subst hz;simp only at h1 h2 h3 hJ;refine X0<|(X8 (fun h29=>?_) fun h29=>?_)
  .rw[N6 (by simp[h29])]at hJ;subst hJ;refine X4 ?_;exact Xn ⟨.inr rfl,_,X3v 4 1 rfl,⟨⟨_,by simp;rfl,by simp[Xl]⟩,by simp,fun h=>by cases h⟩⟩
  rw[N9 (by simpa using h29)]at hJ;refine X0<|(X8 (fun h33=>?_) fun h33=>?_)
  .have hz:(decide (lo<=zn)&&decide (zn<=hi))=false:=by
    simp only[Nn,Nd];omega
   rw[hz,Bool.and_false]at hJ;refine X1 ?_;refine X1 ?_;refine X1 ?_;exact Xj ((k+1,za,zb,zc,vals++[zn],false)) (⟨hk1,hJ,by simp[hvl],h1,h2,h3⟩) (hm:=by simp only;omega)
  have hz:(decide (lo<=zn)&&decide (zn<=hi))=true:=by
   simp only[N4,N7];omega
  rw[hz,Bool.and_true]at hJ;refine X1 ?_;refine X1 ?_;exact Xj ((k+1,za,zb,zc,vals++[zn],fits)) (⟨hk1,hJ,by simp[hvl],h1,h2,h3⟩) (hm:=by simp only;omega)
 have hkl:k=vars.length:=by omega
 rw[hkl,Nj]at hJ;simp only[stL]at hJ;refine(Xd ?_);refine X0<|(X8 (fun h42=>?_) fun h42=>?_)
 .rw[N6 (by omega)]at hJ;subst hJ;refine X4 ?_;exact Xn ⟨.inr rfl,_,X3v 4 1 rfl,⟨⟨_,by simp;rfl,by simp[Xl]⟩,by simp,fun h=>by cases h⟩⟩
 rw[N9 (by omega)]at hJ;refine X0<|(X8 (fun h46=>?_) fun h46=>?_)
 .rw[N6 (by simp[h46])]at hJ;subst hJ;refine X4 ?_;exact Xn ⟨.inr rfl,_,X3v 4 1 rfl,⟨⟨_,by simp;rfl,by simp[Xl]⟩,by simp,fun h=>by cases h⟩⟩
 rw[N9 (by simpa using h46)]at hJ;subst hJ;refine X4 ?_;exact Xn ⟨.inr rfl,_,XL 1009 rfl,⟨⟨_,by simp;rfl,by simp[Xl]⟩,by simp,fun h=>by cases h⟩⟩
theorem X6Z {ks:List Tm} {t:Tm} (ht:t∈ks):t.nodes<=Xs ks:=W3 ht
theorem X1I (t:Tm):t.nodes<=1000000000->∀d:Nat,Con prog 90 true [aT t] (.v (li t.nodes)) none d:=by
 induction t using Tm.ind with
 |h o n ks ih=>
 intro hn d;simp only[Tm.nodes]at hn⊢;have hlen:=Qy ks;obtain⟨res,hres⟩:∃r,Xs ks=r:=⟨_,rfl⟩;rw[hres]at hn⊢;refine X2 Tryz.func90 ?_;simp only[Tryz.f90];simp only[aT,Tm.enc];refine X4 ?_;refine X4 ?_;refine X0<|X0<|X1 ?_;refine X3<|(Xb [1] (fun(x:Nat×Nat)=>[(3,.v (li ((x.2:Nat):Int))),(4,.v (li x.1))]) (fun(x:Nat×Nat)=>[(1,.box [.c (iC o),.c (iC n),.c (.sl 3 (Xg ks))])]) (fun(x:Nat×Nat)=>x.1<=ks.length/\x.2+Xs (ks.drop x.1)=1+res) (fun(x:Nat×Nat)=>ks.length - x.1) (0,1) ⟨Nc _,by simp[hres]⟩ ?_);rintro⟨k,m⟩ ⟨hk,hJ⟩;simp only[LN,Nat.reduceBEq,Nat.reduceLT];simp only at hk hJ;refine X0<|(Xc (fun h5=>X6 ?_) fun h5=>?_)
 .have hlt:k<ks.length:=by omega
  obtain⟨⟨eo,en,ek⟩,he,hd⟩:=Xw hlt;have he':=Qc he;simp only[Tm.enc]at he';have hmem:Tm.mk eo en ek∈ks:=N3 he;have hnm:=W3 hmem;have c:=ih _ hmem (by omega);have hw1:=Xz hlt (by omega);have hk1:k+1<=ks.length:=hlt;rw[hd]at hJ;simp only[Xs]at hJ;generalize Tm.nodes (.mk eo en ek)=q at*;have hw2:IntKind.i64.wrap ((m:Int)+(q:Int))=(m:Int)+(q:Int):=X5;clear hlt h5 ih hmem;refine X0<|X3<|(Xa c ?_);refine X1 ?_;exact Xj ((k+1,m+q)) (⟨hk1,by simp only;omega⟩) (hm:=by simp only;omega)
 have hkl:k=ks.length:=by omega
 rw[hkl,Nj]at hJ;simp only[Xs]at hJ;have hm:(m:Int)=1+(res:Int):=by omega
 refine(Xd ?_);exact X7
theorem Xbg (l:List St):Xe l<=1000000000->∀d:Nat,Con prog 127 true [lS l] (.v (li (Xe l))) none d:=by
 revert l
 apply St.lists;intro l ih hn d;have hlen:=XB l;obtain⟨res,hres⟩:∃r,Xe l=r:=⟨_,rfl⟩;rw[hres];refine X2 Tryz.func127 ?_;simp only[Tryz.f127];refine X4 ?_;refine X4 ?_;refine X0<|X0<|X1 ?_;refine X3<|(Xb [0] (fun(x:Nat×Nat)=>[(3,.v (li ((x.2:Nat):Int))),(4,.v (li x.1))]) (fun(x:Nat×Nat)=>[]) (fun(x:Nat×Nat)=>x.1<=l.length/\x.2+Xe (l.drop x.1)=res) (fun(x:Nat×Nat)=>l.length - x.1) (0,0) ⟨Nc _,by simp[hres]⟩ ?_);rintro⟨k,m⟩ ⟨hk,hJ⟩;simp only[LN,Nat.reduceBEq,Nat.reduceLT];simp only at hk hJ;refine X0<|(Xc (fun h5=>X6 ?_) fun h5=>?_)
 .have hlt:k<l.length:=by omega
  obtain⟨s,he,hd⟩:=Xw hlt;have hmem:s∈l:=N3 he;have hnm:=Q2 hmem;have iha:=fun h=>(ih s hmem).1 h;have ihb:=fun h=>(ih s hmem).2 h;have hw1:=Xz hlt (by omega);have hk1:k+1<=l.length:=hlt;have ct:=X1I s.term;rw[hd]at hJ;obtain⟨sd,sc,sv,sn,⟨so,stn,sks⟩,sa,sb,sbs⟩:=s;simp only[St.then_,St.else_,St.term]at iha ihb hnm ct;simp only[Xe,St.nodes]at hJ;have ca:=iha (by omega);have cb:=ihb (by omega);have ct:=ct (by omega);have he':=Q7 he;simp only[St.enc,Tm.enc,List.cons_append,List.nil_append]at he';generalize Tm.nodes (.mk so stn sks)=q at*;generalize Xe sa=na at*;generalize Xe sb=nb at*;have hw2:IntKind.i64.wrap ((m:Int)+1)=(m:Int)+1:=X5;have hw3:IntKind.i64.wrap ((m:Int)+1+(q:Int))=(m:Int)+1+(q:Int):=X5;have hw4:IntKind.i64.wrap ((m:Int)+1+(q:Int)+(na:Int))=(m:Int)+1+(q:Int)+(na:Int):=X5;have hw5:IntKind.i64.wrap ((m:Int)+1+(q:Int)+(na:Int)+(nb:Int))=(m:Int)+1+(q:Int)+(na:Int)+(nb:Int):=X5;clear hlt h5 ih hmem iha ihb;refine X0<|X3<|(Xx [⟨true,.v (li (q:Int)),none⟩,⟨true,.v (li (na:Int)),none⟩,⟨true,.v (li (nb:Int)),none⟩] (by kernel_rfl) (by kernel_rfl) (by rfl) (by simp[*];first|exact⟨rfl,Iff.rfl⟩|exact⟨rfl,trivial⟩|rfl) ?_ ?_)
  .first|exact⟨ct _,ca _,cb _⟩|exact trivial|(repeat' first|exact trivial|exact ct _|exact ca _|exact cb _|apply And.intro)
  refine X1 ?_;exact Xj ((k+1,m+1+q+na+nb)) (⟨hk1,by simp only;omega⟩) (hm:=by simp only;omega)
 have hkl:k=l.length:=by omega
 rw[hkl,Nj]at hJ;simp only[Xe]at hJ;have hm:m=res:=by omega
 refine(Xd ?_);exact X7
mutual
def tdT:Tm->Nat
 | .mk _ _ ks=>X1T ks+1
def X1T:List Tm->Nat
 |[]=>0
 |t::l=>max (tdT t) (X1T l)
end
mutual
theorem td_le:∀t:Tm,tdT t<=t.nodes
 | .mk o n ks=>by have:=X9f ks;simp only[tdT,Tm.nodes];omega
theorem X9f:∀l:List Tm,X1T l<=Xs l
 |[]=>by simp[X1T]
 |t::l=>by have:=td_le t;have:=X9f l;simp only[X1T,Xs];omega
end
theorem X4B (t:Tm):t.nodes<=1000000000->∀d:Nat,Con prog 128 true [aT t] (.v (li (tdT t))) none d:=by
 induction t using Tm.ind with
 |h o n ks ih=>
 intro hn d;simp only[Tm.nodes]at hn;simp only[tdT];have hlen:=Qy ks;have htl:=X9f ks;obtain⟨res,hres⟩:∃r,X1T ks=r:=⟨_,rfl⟩;rw[hres]at htl⊢;refine X2 Tryz.func128 ?_;simp only[Tryz.f128];simp only[aT,Tm.enc];refine X4 ?_;refine X4 ?_;refine X0<|X0<|X1 ?_;refine X3<|(Xb [1] (fun(x:Nat×Nat)=>[(3,.v (li ((x.2:Nat):Int))),(4,.v (li x.1))]) (fun(x:Nat×Nat)=>[(1,.box [.c (iC o),.c (iC n),.c (.sl 3 (Xg ks))])]) (fun(x:Nat×Nat)=>x.1<=ks.length/\max x.2 (X1T (ks.drop x.1))=res) (fun(x:Nat×Nat)=>ks.length - x.1) (0,0) ⟨Nc _,by simp[hres]⟩ ?_);rintro⟨k,m⟩ ⟨hk,hJ⟩;simp only[LN,Nat.reduceBEq,Nat.reduceLT];simp only at hk hJ;refine X0<|(Xc (fun h5=>X6 ?_) fun h5=>?_)
 .have hlt:k<ks.length:=by omega
  obtain⟨⟨eo,en,ek⟩,he,hd⟩:=Xw hlt;have he':=Qc he;simp only[Tm.enc]at he';have hmem:Tm.mk eo en ek∈ks:=N3 he;have hnm:=W3 hmem;have c:=ih _ hmem (by omega);have hw1:=Xz hlt (by omega);have hk1:k+1<=ks.length:=hlt;rw[hd]at hJ;simp only[X1T]at hJ;generalize tdT (.mk eo en ek)=q at*;clear hlt h5 ih hmem;refine X0<|X3<|X0<|(Xa c ?_);refine(X8 (fun h8=>?_) fun h8=>?_)
  .refine X1 ?_;refine X1 ?_;exact Xj ((k+1,q)) (⟨hk1,by simp only;omega⟩) (hm:=by simp only;omega)
  refine X1 ?_;exact Xj ((k+1,m)) (⟨hk1,by simp only;omega⟩) (hm:=by simp only;omega)
 have hkl:k=ks.length:=by omega
 rw[hkl,Nj]at hJ;simp only[X1T]at hJ;have hm:m=res:=by omega
 subst hm;have hw:IntKind.i64.wrap ((m:Int)+1)=(m:Int)+1:=X5;refine(Xd ?_);exact X7
def sdL:List St->Nat
 |[]=>0
 | .mk _ _ _ _ _ a b _::l=>max (max (sdL a+1) (sdL b+1)) (sdL l)
theorem X7u:∀l:List St,sdL l<=Xe l
 |[]=>by simp[sdL]
 | .mk _ _ _ _ t a b _::l=>by have:=X7u a;have:=X7u b;have:=X7u l;have:=X1p t;simp only[sdL,Xe,St.nodes];omega
theorem X8D (l:List St):Xe l<=1000000000->∀d:Nat,Con prog 129 true [lS l] (.v (li (sdL l))) none d:=by
 revert l
 apply St.lists;intro l ih hn d;have hlen:=XB l;obtain⟨res,hres⟩:∃r,sdL l=r:=⟨_,rfl⟩;rw[hres];refine X2 Tryz.func129 ?_;simp only[Tryz.f129];refine X4 ?_;refine X4 ?_;refine X0<|X0<|X1 ?_;refine X3<|(Xb [0] (fun(x:Nat×Nat)=>[(3,.v (li ((x.2:Nat):Int))),(4,.v (li x.1))]) (fun(x:Nat×Nat)=>[]) (fun(x:Nat×Nat)=>x.1<=l.length/\max x.2 (sdL (l.drop x.1))=res) (fun(x:Nat×Nat)=>l.length - x.1) (0,0) ⟨Nc _,by simp[hres]⟩ ?_);rintro⟨k,m⟩ ⟨hk,hJ⟩;simp only[LN,Nat.reduceBEq,Nat.reduceLT];simp only at hk hJ;refine X0<|(Xc (fun h5=>X6 ?_) fun h5=>?_)
 .have hlt:k<l.length:=by omega
  obtain⟨s,he,hd⟩:=Xw hlt;have hmem:s∈l:=N3 he;have hnm:=Q2 hmem;have iha:=fun h=>(ih s hmem).1 h;have ihb:=fun h=>(ih s hmem).2 h;have hw1:=Xz hlt (by omega);have hk1:k+1<=l.length:=hlt;rw[hd]at hJ;obtain⟨sd,sc,sv,sn,⟨so,stn,sks⟩,sa,sb,sbs⟩:=s;simp only[St.then_,St.else_,St.term]at iha ihb hnm;simp only[sdL]at hJ;have ca:=iha (by omega);have cb:=ihb (by omega);have ha:=X7u sa;have hb:=X7u sb;have he':=Q7 he;simp only[St.enc,Tm.enc,List.cons_append,List.nil_append]at he';generalize sdL sa=na at*;generalize sdL sb=nb at*;have hw2:IntKind.i64.wrap ((na:Int)+1)=(na:Int)+1:=X5;have hw3:IntKind.i64.wrap ((nb:Int)+1)=(nb:Int)+1:=X5;clear hlt h5 ih hmem iha ihb;refine X0<|X3<|X0<|(Xa ca ?_);refine X0<|(Xa cb ?_);refine(XY [0,4,6] (fun(z:Nat)=>[(3,.v (li (z:Int)))]) (fun(z:Nat)=>[]) (fun(z:Nat)=>z=max m (na+1)) ?_ ?_)
  .refine(X8 (fun h10=>?_) fun h10=>?_)
   .have hz:max m (na+1)=na+1:=by omega
    refine X1 ?_;exact Xv (na+1) (hz.symm)
   have hz:max m (na+1)=m:=by omega
   exact Xv (m) (hz.symm)
  rintro z hz;simp only[LN,Nat.reduceBEq,Nat.reduceLT];refine(X8 (fun h15=>?_) fun h15=>?_)
  .refine X1 ?_;refine X1 ?_;exact Xj ((k+1,nb+1)) (⟨hk1,by simp only;omega⟩) (hm:=by simp only;omega)
  refine X1 ?_;exact Xj ((k+1,z)) (⟨hk1,by simp only;omega⟩) (hm:=by simp only;omega)
 have hkl:k=l.length:=by omega
 rw[hkl,Nj]at hJ;simp only[sdL]at hJ;have hm:m=res:=by omega
 refine(Xd ?_);exact X7
def QT:List St->Bool
 |[]=>false
 | .mk _ _ _ _ t a b _::l=>((decide (12<tdT t)||QT a)||QT b)||QT l
theorem XaW (l:List St):Xe l<=1000000000->∀d:Nat,Con prog 130 true [lS l] (.v (lb (QT l))) none d:=by
 revert l
 apply St.lists;intro l ih hn d;have hlen:=XB l;obtain⟨res,hres⟩:∃r,QT l=r:=⟨_,rfl⟩;rw[hres];refine X2 Tryz.func130 ?_;simp only[Tryz.f130];refine X4 ?_;refine X0<|X0<|X1 ?_;refine X3<|(Xb [0] (fun(x:Nat)=>[(3,.v (li x))]) (fun(x:Nat)=>[]) (fun(x:Nat)=>x<=l.length/\QT (l.drop x)=res) (fun(x:Nat)=>l.length - x) (0:Nat) ⟨Nc _,hres⟩ ?_);rintro k ⟨hk,hJ⟩;simp only[LN,Nat.reduceBEq,Nat.reduceLT];refine X0<|(Xc (fun h4=>X6 ?_) fun h4=>?_)
 .have hlt:k<l.length:=by omega
  obtain⟨s,he,hd⟩:=Xw hlt;have hmem:s∈l:=N3 he;have hnm:=Q2 hmem;have iha:=fun h=>(ih s hmem).1 h;have ihb:=fun h=>(ih s hmem).2 h;have hw1:=Xz hlt (by omega);have hk1:k+1<=l.length:=hlt;have ct:=X4B s.term;rw[hd]at hJ;obtain⟨sd,sc,sv,sn,⟨so,stn,sks⟩,sa,sb,sbs⟩:=s;simp only[St.then_,St.else_,St.term]at iha ihb hnm ct;simp only[QT]at hJ;have ca:=iha (by omega);have cb:=ihb (by omega);have ct:=ct (by omega);have he':=Q7 he;simp only[St.enc,Tm.enc,List.cons_append,List.nil_append]at he';generalize tdT (.mk so stn sks)=q at*;generalize QT sa=na at*;generalize QT sb=nb at*;clear hlt h4 ih hmem iha ihb;refine X0<|X3<|X0<|(X75 [⟨true,.v (li (q:Int)),none⟩,⟨true,.v (lb na),none⟩,⟨true,.v (lb nb),none⟩] ?_ ?_)
  .first|exact⟨ct _,ca _,cb _⟩|exact trivial|(repeat' first|exact trivial|exact ct _|exact ca _|exact cb _|apply And.intro)
  refine(XM (fun h6=>?_) fun h6=>?_)
  .have hz:res=true:=by
    rw[<-hJ];simp only[Ng,N7];rcases h6 with(h|h)|h
    .exact .inl (.inl (.inl (by omega)))
    .exact .inl (.inl (.inr h))
    exact .inl (.inr h)
   exact X7
  have hz:QT (l.drop (k+1))=res:=by
   rw[<-hJ];have h12:decide (12<q)=false:=decide_eq_false (by omega);rw[h12,h6.1.2,h6.2];rfl
  clear hJ;refine X1 ?_;exact Xj (k+1) (⟨hk1,hz⟩)
 have hkl:k=l.length:=by omega
 rw[hkl,Nj]at hJ;simp only[QT]at hJ;subst hJ;refine(Xd ?_);exact X7
def mSs:List St->Int->Int×Bool->Int×Bool
 |[],_,s=>s
 | .mk _ _ _ _ t a b _::l,dep,s=>
   if((s.2||decide (12<dep))||decide (1024<s.1+1))=true then(s.1+1,s.2||decide (12<dep))
   else mSs l dep (mSs b (dep+1) (mSs a (dep+1) (mTm t 1 (s.1+1,s.2||decide (12<dep)))))
theorem ZL:∀(l:List St) (dep:Int) (s:Int×Bool),s.1<=(mSs l dep s).1/\(mSs l dep s).1<=s.1+Xe l
 |[],dep,s=>by simp[mSs,Xe]
 | .mk d c v n t a b bs::l,dep,s=>by
   simp only[mSs,Xe,St.nodes];have h1:=X0J t 1 (s.1+1,s.2||decide (12<dep));have h2:=ZL a (dep+1) (mTm t 1 (s.1+1,s.2||decide (12<dep)));have h3:=ZL b (dep+1) (mSs a (dep+1) (mTm t 1 (s.1+1,s.2||decide (12<dep))));have h4:=ZL l dep (mSs b (dep+1) (mSs a (dep+1) (mTm t 1 (s.1+1,s.2||decide (12<dep)))));split
   .simp only;omega
   simp only at h1;omega
theorem X97 (l:List St):∀(dep c:Int) (b:Bool),0<=dep->0<=c->c+Xe l<=1000000000->
  X7p prog 66 [iC c,bC b] [lS l,li dep] (.tup []) [iC (mSs l dep (c,b)).1,bC (mSs l dep (c,b)).2]:=by
 revert l
 apply St.lists;intro l ih dep c b hdep hc hn;have hlen:=XB l;obtain⟨res,hres⟩:∃r,mSs l dep (c,b)=r:=⟨_,rfl⟩;rw[hres];refine X2L Tryz.func66 rfl (by kernel_rfl) (Da rfl) ?_;simp only[Tryz.f66];refine X4 ?_;refine X3<|(Xb [0,2,8,9] (fun(x:Nat×Int×Bool)=>[(10,.v (li x.1))]) (fun(x:Nat×Int×Bool)=>[(1000000,.box [.c (iC x.2.1),.c (bC x.2.2)])]) (fun(x:Nat×Int×Bool)=>x.1<=l.length/\mSs (l.drop x.1) dep x.2=res/\0<=x.2.1/\x.2.1+Xe (l.drop x.1)<=1000000000) (fun(x:Nat×Int×Bool)=>l.length - x.1) (0,c,b) ⟨Nc _,hres,hc,by simpa using hn⟩ ?_);rintro⟨k,m,q⟩ ⟨hk,hJ,hm,hb⟩;simp only[LN,Nat.reduceBEq,Nat.reduceLT];simp only at hk hJ hm hb;clear hres;refine(XS (fun h3=>X6 ?_) fun h3=>?_)
 .have hlt:k<l.length:=by omega
  obtain⟨s,he,hd⟩:=Xw hlt;have hmem:s∈l:=N3 he;have iha:=(ih s hmem).1;have ihb:=(ih s hmem).2;have hw1:=Xz hlt (by omega);have hk1:k+1<=l.length:=hlt;rw[hd]at hJ hb;obtain⟨sd,sc,sv,sn,⟨so,stn,sks⟩,sa,sb,sbs⟩:=s;simp only[St.then_,St.else_]at iha ihb;simp only[mSs]at hJ;simp only[Xe,St.nodes]at hb;have he':=Q7 he;simp only[St.enc,Tm.enc,List.cons_append,List.nil_append]at he';have hw2:IntKind.i64.wrap (m+1)=m+1:=X5;clear hlt h3 ih hmem hd he;refine X0<|X3<|X0<|X1 ?_;refine X4 ?_;refine X4 ?_;refine X0<|X0<|(Xa (X1v _ _) ?_);refine(XM (fun h8=>?_) fun h8=>?_)
  .rw[N9 (by simpa using h8)]at hJ;subst hJ;exact Xn (⟨.inr rfl,_,le_refl _,⟨_,by simp[*];rfl,by simp[Xl]⟩,by simp[*]⟩)
  rw[N6 (by simpa using h8)]at hJ;have hq0:q=false:=h8.1.1;have hdep2:dep<=12:=by omega
  have hwd:IntKind.i64.wrap (dep+1)=dep+1:=X5;have hqd:(q||decide (12<dep))=false:=by rw[hq0];simp;omega
  rw[hqd]at hJ;have e1:=X0J (.mk so stn sks) 1 (m+1,false);obtain⟨p1,hp1⟩:∃p,mTm (.mk so stn sks) 1 (m+1,false)=p:=⟨_,rfl⟩;have cio1:=X5T (.mk so stn sks) 1 (m+1) false (by omega) (by omega) (by omega);rw[hp1]at cio1 e1 hJ;obtain⟨c1,b1⟩:=p1;simp only at cio1 e1;have e2:=ZL sa (dep+1) (c1,b1);have cio2:=iha (dep+1) c1 b1 (by omega) (by omega) (by omega);obtain⟨p2,hp2⟩:∃p,mSs sa (dep+1) (c1,b1)=p:=⟨_,rfl⟩;rw[hp2]at cio2 e2 hJ;obtain⟨c2,b2⟩:=p2;simp only at cio2 e2;have e3:=ZL sb (dep+1) (c2,b2);have cio3:=ihb (dep+1) c2 b2 (by omega) (by omega) (by omega);obtain⟨p3,hp3⟩:∃p,mSs sb (dep+1) (c2,b2)=p:=⟨_,rfl⟩;rw[hp3]at cio3 e3 hJ;obtain⟨c3,b3⟩:=p3;simp only at cio3 e3;clear iha ihb hp1 hp2 hp3 h8 hqd;refine X0<|(X0r 3 (.tup []) ([iC c1,bC b1]) rfl (by simp[*];rfl) (by simp[ioOf, *];first|exact⟨rfl,rfl,rfl,rfl,rfl⟩|exact⟨rfl,rfl,rfl,rfl⟩|exact⟨rfl,rfl,rfl⟩|exact⟨rfl,rfl⟩|rfl) (cio1) (by simp) (by simp[*];rfl) ?_);refine X0<|(X0r 5 (.tup []) ([iC c2,bC b2]) rfl (by simp[*];rfl) (by simp[ioOf, *];first|exact⟨rfl,rfl,rfl,rfl,rfl⟩|exact⟨rfl,rfl,rfl,rfl⟩|exact⟨rfl,rfl,rfl⟩|exact⟨rfl,rfl⟩|rfl) (cio2) (by simp) (by simp[*];rfl) ?_);refine(X0r 5 (.tup []) ([iC c3,bC b3]) rfl (by simp[*];rfl) (by simp[ioOf, *];first|exact⟨rfl,rfl,rfl,rfl,rfl⟩|exact⟨rfl,rfl,rfl,rfl⟩|exact⟨rfl,rfl,rfl⟩|exact⟨rfl,rfl⟩|rfl) (cio3) (by simp) (by simp[*];rfl) ?_);refine X1 ?_;exact Xj ((k+1,c3,b3)) (⟨hk1,hJ,by simp only;omega,by simp only;omega⟩) (hm:=by simp only;omega)
 have hkl:k=l.length:=by omega
 subst hkl;rw[Nj]at hJ;simp only[mSs]at hJ;subst hJ;refine(Xd ?_);exact(⟨.inl rfl,_,le_refl _,⟨_,by simp[*];rfl,by simp[Xl]⟩,by simp[*]⟩)
def QL (s:Int×Bool):Bool:=s.2||decide (1024<s.1)
theorem X38 {s:Int×Bool} (h:QL s=false):s.2=false/\s.1<=1024:=by
 simp only[QL,NH,Nd]at h;exact⟨h.1,by omega⟩
mutual
theorem mTm_over:∀(t:Tm) (dep:Int) (s:Int×Bool),0<=s.1->QL s=true->QL (mTm t dep s)=true
 | .mk o n ks,dep,s,h0,h=>by
   have h1:QL (s.1+1,s.2||decide (12<dep))=true:=by
    simp only[QL,Ng,N7]at h⊢;rcases h with h|h
    .exact .inl (.inl h)
    exact .inr (by omega)
   simp only[mTm];split
   .exact h1
   exact X3q ks (dep+1) _ (by simp only;omega) h1
theorem X3q:∀(l:List Tm) (dep:Int) (s:Int×Bool),0<=s.1->QL s=true->QL (X2P l dep s)=true
 |[],dep,s,_,h=>h
 |t::l,dep,s,h0,h=>X3q l dep _ (Int.le_trans h0 (X0J t dep s).1) (mTm_over t dep s h0 h)
end
mutual
theorem X64:∀(t:Tm) (dep:Int) (s:Int×Bool),0<=s.1->dep<=13->QL s=false->
  (s.1+t.nodes<=1024/\dep+tdT t<=13->mTm t dep s=(s.1+t.nodes,false))/\(¬(s.1+t.nodes<=1024/\dep+tdT t<=13)->QL (mTm t dep s)=true)
 | .mk o n ks,dep,s,h0,hd,h=>by
   obtain⟨h1,h2⟩:=X38 h;simp only[mTm,Tm.nodes,tdT,h1,Bool.false_or];by_cases hc:(decide (12<dep)||decide (1024<s.1+1))=true
   .rw[N9 hc];simp only[Ng,N7]at hc;refine⟨fun hf=>by omega,fun _=>?_⟩;simp only[QL,Ng,N7];omega
   rw[N6 hc];simp only[Ng,N7,not_or]at hc;have hdd:decide (12<dep)=false:=decide_eq_false hc.1;rw[hdd];have hov:QL (s.1+1,false)=false:=by simp only[QL,Bool.false_or,Nd];omega
   have:=X7I ks (dep+1) (s.1+1,false) (by simp only;omega) (by omega) hov;simp only at this;refine⟨fun hf=>?_,fun hf=>this.2 (by omega)⟩;rw[this.1 (by omega)];simp only[Prod.mk.injEq,and_true];omega
theorem X7I:∀(l:List Tm) (dep:Int) (s:Int×Bool),0<=s.1->dep<=13->QL s=false->
  (s.1+Xs l<=1024/\dep+X1T l<=13->X2P l dep s=(s.1+Xs l,false))/\(¬(s.1+Xs l<=1024/\dep+X1T l<=13)->QL (X2P l dep s)=true)
 | [],dep,s,h0,hd,h=>by
   obtain⟨h1,h2⟩:=X38 h;obtain⟨c,b⟩:=s;simp only at h1 h2;subst h1;simp only[X2P,Xs,X1T];refine⟨fun _=>by simp,fun hf=>by omega⟩
 | t ::l,dep,s,h0,hd,h=>by
   simp only[X2P,Xs,X1T];have ht:=X64 t dep s h0 hd h;by_cases hf:s.1+t.nodes<=1024/\dep+tdT t<=13
   .rw[ht.1 hf];have hov:QL (s.1+t.nodes,false)=false:=by simp only[QL,Bool.false_or,Nd];omega
    have hl:=X7I l dep (s.1+t.nodes,false) (by simp only;omega) hd hov;simp only at hl;refine⟨fun h2=>?_,fun h2=>hl.2 (by omega)⟩;rw[hl.1 (by omega)];simp only[Prod.mk.injEq,and_true];omega
   refine⟨fun h2=>by omega,fun _=>X3q l dep _ (Int.le_trans h0 (X0J t dep s).1) (ht.2 hf)⟩
end
theorem X0m:∀(l:List St) (dep:Int) (s:Int×Bool),0<=s.1->QL s=true->QL (mSs l dep s)=true
 |[],dep,s,_,h=>by simp only[mSs];exact h
 | .mk d c v n t a b bs::l,dep,s,h0,h=>by
   have h1:QL (s.1+1,s.2||decide (12<dep))=true:=by
    simp only[QL,Ng,N7]at h⊢;rcases h with h|h
    .exact .inl (.inl h)
    exact .inr (by omega)
   simp only[mSs];split
   .exact h1
   rename_i hc;exact absurd h1 hc
theorem X42:∀(l:List St) (dep:Int) (s:Int×Bool),0<=s.1->dep<=13->QL s=false->
  (s.1+Xe l<=1024/\dep+sdL l<=13/\QT l=false->mSs l dep s=(s.1+Xe l,false))/\(¬(s.1+Xe l<=1024/\dep+sdL l<=13/\QT l=false)->QL (mSs l dep s)=true)
 | [],dep,s,h0,hd,h=>by
   obtain⟨h1,h2⟩:=X38 h;obtain⟨c,b⟩:=s;simp only at h1 h2;subst h1;simp only[mSs,Xe,sdL,QT];refine⟨fun _=>by simp,fun hf=>absurd ⟨by omega,by omega,trivial⟩ hf⟩
 | .mk d c v n t a b bs::l,dep,s,h0,hd,h=>by
   obtain⟨h1,h2⟩:=X38 h;simp only[mSs,Xe,St.nodes,sdL,QT,h1,Bool.false_or,NH,Nd];by_cases hc:(decide (12<dep)||decide (1024<s.1+1))=true
   .rw[N9 hc];simp only[Ng,N7]at hc;refine⟨fun hf=>by omega,fun _=>?_⟩;simp only[QL,Ng,N7];omega
   rw[N6 hc];simp only[Ng,N7,not_or]at hc;have hdd:decide (12<dep)=false:=decide_eq_false hc.1;rw[hdd]
   have ov:∀x:Int,x<=1024->QL (x,false)=false:=by
    intro x hx;simp only[QL,Bool.false_or,Nd];omega
   have ht:=X64 t 1 (s.1+1,false) (by simp only;omega) (by omega) (ov _ (by omega));have g1:=(X0J t 1 (s.1+1,false)).1;have g2:=(ZL a (dep+1) (mTm t 1 (s.1+1,false))).1;have g3:=(ZL b (dep+1) (mSs a (dep+1) (mTm t 1 (s.1+1,false)))).1;simp only at ht g1;by_cases f1:s.1+1+t.nodes<=1024/\1+(tdT t:Int)<=13
   .rw[ht.1 f1];have ha:=X42 a (dep+1) (s.1+1+t.nodes,false) (by simp only;omega) (by omega) (ov _ (by omega));simp only at ha;by_cases f2:s.1+1+t.nodes+Xe a<=1024/\dep+1+sdL a<=13/\QT a=false
    .rw[ha.1 f2];have hb:=X42 b (dep+1) (s.1+1+t.nodes+Xe a,false) (by simp only;omega) (by omega) (ov _ (by omega));simp only at hb;by_cases f3:s.1+1+t.nodes+Xe a+Xe b<=1024/\dep+1+sdL b<=13/\QT b=false
     .rw[hb.1 f3];have hl:=X42 l dep (s.1+1+t.nodes+Xe a+Xe b,false) (by simp only;omega) hd (ov _ (by omega));simp only at hl;refine⟨fun hf=>?_,fun hf=>hl.2 fun h4=>hf ⟨by omega,by omega,⟨⟨by omega,f2.2.2⟩,f3.2.2⟩,h4.2.2⟩⟩;rw[hl.1 ⟨by omega,by omega,hf.2.2.2⟩];simp only[Prod.mk.injEq,and_true];omega
     refine⟨fun hf=>absurd ⟨by omega,by omega,hf.2.2.1.2⟩ f3,fun _=>X0m l dep _ ?_ (hb.2 f3)⟩;have:=(ZL b (dep+1) (s.1+1+t.nodes+Xe a,false)).1;simp only at this;omega
    refine⟨fun hf=>absurd ⟨by omega,by omega,hf.2.2.1.1.2⟩ f2,fun _=>?_⟩;have q1:=(ZL a (dep+1) (s.1+1+t.nodes,false)).1;have q2:=(ZL b (dep+1) (mSs a (dep+1) (s.1+1+t.nodes,false))).1;simp only at q1;exact X0m l dep _ (by omega) (X0m b (dep+1) _ (by omega) (ha.2 f2))
   refine⟨fun hf=>absurd ⟨by omega,by omega⟩ f1,fun _=>?_⟩;exact X0m l dep _ (by omega) (X0m b (dep+1) _ (by omega) (X0m a (dep+1) _ (by omega) (ht.2 f1)))
end Go.Proofs.YtdccocolnaklkaaGreatDoor
