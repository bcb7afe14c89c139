/- Contracts of functions and plain facts about what they compute. Conditions: as each theorem states. -/
import Derived.Test.YtdccocolnaklkaaGreatDoorG1
import Derived.Test.YtdccocolnaklkaaGreatDoorG3
import Derived.Shelf.Strconv.Itoa3
import Derived.Test.YtdccocolnaklkaaGreatDoorG2
import Derived.Test.YtdccocolnaklkaaGreatDoorH6
set_option linter.unusedSimpArgs false
set_option linter.unusedVariables false
set_option linter.unnecessarySimpa false
set_option maxRecDepth 100000
set_option maxHeartbeats 2000000
namespace Go.Proofs.YtdccocolnaklkaaGreatDoor
open Go Go.Hl Go.RowKit
open Tryz(prog)
inductive CWk:CV->CV->Prop where
 |refl (x:CV):CWk x x
 |nil (s:Nat):CWk (.c (.lit XZ)) (.c (.sl s []))
inductive LWk:List CV->List CV->Prop where
 |nil:LWk [] []
 |cons {x y:CV} {l m:List CV}:CWk x y->LWk l m->LWk (x::l) (y::m)
theorem CWk.rel {F:Nat->Prop} {T:Nat->Value} {w:World} {x y:CV} (h:CWk x y) {v:Value} (hr:Xo F T w x v):Xo F T w y v:=by
 cases h with
 |refl=>exact hr
 | nil s=>
   have:v=XZ:=Xa.lit_eq (T:=T) (F:=F) (w:=w) (r:=.v (.one (.c (.lit XZ)))) rfl hr;rw[this];exact CRel.nil s
theorem LWk.len {l m:List CV} (h:LWk l m):m.length=l.length:=by
 induction h with
 |nil=>rfl
 |cons _ _ ih=>simp[ih]
theorem LWk.get {l m:List CV} (h:LWk l m):∀(j:Nat) y,m[j]? =some y->∃x,l[j]? =some x/\CWk x y:=by
 induction h with
 |nil=>simp
 | cons hc _ ih=>
   intro j y hj;cases j with
   |zero=>cases hj;exact⟨_,rfl,hc⟩
   |succ j=>exact ih j y hj
theorem LWk.rel {F:Nat->Prop} {T:Nat->Value} {w:World} {l m:List CV} (h:LWk l m) {vs:Array Value} (hr:Xk F T w l vs):Xk F T w m vs:=by
 refine⟨hr.1.trans h.len.symm,fun j y u hy hu=>?_⟩;obtain⟨x,hx,hc⟩:=h.get j y hy;exact hc.rel (hr.2 j x u hx hu)
theorem X7z {s:HS} (k:Nat) {r r':RV} (hl:lkp s.regs k=some r) (hw:∀(F:Nat->Prop) (T:Nat->Value) (w:World) v,Xa F T w r v->Xa F T w r' v):le s {s with regs:=ins k r' s.regs}:=by
 intro w0 B U F T a w hr;refine⟨F,T,fun _ h=>h,fun _ h=>.inl h,hr.heap,hr.defers,hr.nt,fun j x hj=>?_⟩;rw[XS]at hj;split at hj
 .rename_i e;cases hj;subst e;exact hw _ _ _ _ (hr.regs j r hl)
 exact hr.regs j x hj
theorem Zv {s:HS} (k:Nat) {xs:List CV} (ys:List CV) (hl:lkp s.regs k=some (.v (.agg xs))) (h:LWk xs ys):le s {s with regs:=ins k (.v (.agg ys)) s.regs}:=by
 refine X7z k hl fun F T w v hv=>?_;obtain⟨vs,rfl,hc⟩:=hv;exact⟨vs,rfl,h.rel hc⟩
theorem X2C {s:HS} (k sz:Nat) (hl:lkp s.regs k=some (.v (.one (.c (.lit XZ))))):le s {s with regs:=ins k (.v (.one (.c (.sl sz [])))) s.regs}:=
 X7z k hl fun F T w v hv=>CWk.rel (T:=T) (CWk.nil sz) hv
theorem X5E {s:HS} (k sz:Nat) {a:Addr} {cap:Nat} (hl:lkp s.regs k=some (.v (.one (.c (.lit (.slice (some a) 0 cap)))))):le s {s with regs:=ins k (.v (.one (.c (.sl sz [])))) s.regs}:=by
 refine X7z k hl fun F T w v hv=>?_;have:v=.slice (some a) 0 cap:=Xa.lit_eq rfl hv;rw[this];exact CRel.emp sz a cap
theorem Wc {s:HS} (n:Nat) {xs:List CV} (ys:List CV) (hl:lkp s.objs n=some (.box xs)) (h:LWk xs ys):le s {s with objs:=ins n (.box ys) s.objs}:=by
 intro w0 B U F T a w hr
 have hlk:∀m o,lkp (ins n (.box ys) s.objs) m=some o->(m=n/\o=.box ys)\/(m≠n/\lkp s.objs m=some o):=by
  intro m o hm;rw[XS]at hm;split at hm
  .rename_i e;cases hm;exact .inl ⟨e,rfl⟩
  rename_i e;exact .inr ⟨e,hm⟩
 have hex:∀m o,lkp (ins n (.box ys) s.objs) m=some o->∃o',lkp s.objs m=some o':=by
  intro m o hm;rcases hlk m o hm with⟨rfl,_⟩|⟨_,h2⟩
  .exact⟨_,hl⟩
  exact⟨_,h2⟩
 refine⟨F,T,fun _ h=>h,fun _ h=>.inl h,⟨hr.heap.below,hr.heap.hB,hr.heap.fsz,fun m o hm=>?_,fun m o hm=>?_,fun m k om ok hm hk hne=>?_,hr.heap.pin⟩,hr.defers,hr.nt,hr.regs⟩
 .rcases hlk m o hm with⟨rfl,rfl⟩|⟨_,h2⟩
  .obtain⟨b,e,vs,hx,hB,hh,hc⟩:=hr.heap.ob m _ hl;exact⟨b,e,vs,hx,hB,hh,h.rel hc⟩
  exact hr.heap.ob m o h2
 .obtain⟨o',ho'⟩:=hex m o hm;exact hr.heap.apart m o' ho'
 obtain⟨o1,h1⟩:=hex m om hm;obtain⟨o2,h2⟩:=hex k ok hk;exact hr.heap.sep m k o1 o2 h1 h2 hne
theorem X1M {s:HS} (t n d:Nat) {e:TypeId} {sz:Nat} {rows:List (List CD)} (hl:opd s.regs (.tmp t)=.v (.one (.own n))) (ho:lkp s.objs n=some (.row e sz rows)) (hd:d<1000000):
  le s ⟨s.nt,[(t,.v (.one (.own d)))],[(d,.row e sz rows)]⟩:=by
 have hp:X0D (fun _=>n) d=n:=by unfold X0D;rw[N6 (by omega)]
 refine Qs (fun _=>n) [] rfl ?_ ?_ ?_
 .refine⟨⟨rfl,?_⟩,trivial⟩;rw[hl];simp only[RV.ren,TV.ren,CV.ren,hp,List.contains_nil,NA,Nb]
 .simp only[X1D,List.contains_nil,NA,Nb,Ob.okNil,hp,ho,Ob.ren,and_self]
 simp only[X1D,true_or,and_self]
theorem X6a {s:HS} (t d:Nat) (e:TypeId) (sz:Nat) (hl:opd s.regs (.tmp t)=.v (.one (.c (.lit XZ)))) (hs:0<sz) (hd:d<1000000):
  le s ⟨s.nt,[(t,.v (.one (.own d)))],[(d,.row e sz [])]⟩:=by
 refine Qs (fun n=>n) [d] rfl ?_ ?_ ?_ (by simpa using hd)
 .refine⟨⟨by simp[RV.okNil,TV.okNil,CV.okNil],?_⟩,trivial⟩;rw[hl];simp[RV.ren,TV.ren,CV.ren]
 .simp[X1D,hs]
 simp[X1D]
theorem X3r {P:Program} {f:FuncId} {fresh:Bool} {r:RV} {ob:Option Ob} {d s:Nat} (h1:Con P f fresh [.one (.c (.lit XZ))] r ob d) (h2:∀a cap,Con P f fresh [.one (.c (.lit (.slice (some a) 0 cap)))] r ob d):Con P f fresh [.one (.c (.sl s []))] r ob d:=by
 refine⟨h1.1,fun F w vs hF hsz hargs=>?_⟩;have hv:∃u,vs[0]? =some u:=⟨vs[0]'(by rw[hsz];simp),by simp[hsz]⟩;obtain⟨u,hu⟩:=hv;have hr:CRel F w (.sl s []) u:=hargs 0 _ u rfl hu
 have go:∀(v:Value),u=v->Con P f fresh [.one (.c (.lit v))] r ob d->_:=fun v hv hc=>hc.2 F w vs hF (by simpa using hsz) fun j t u' ht hu'=>by
  cases j with
  | zero=>
    cases ht;rw[hu]at hu';cases hu';subst hv;exact CRel.lit u
  |succ j=>cases ht
 rcases CRel.sl_inv hr with⟨_,hv|⟨a,cap,hv⟩⟩|⟨b,o,cap,cells,hv,_⟩
 .exact go _ hv h1
 .exact go _ hv (h2 a cap)
 exact go _ hv (h2 _ cap)
theorem X6z {T:Type} {l:List T} {k:Nat} {x:T} (h:l[k]? =some x):l.set k x=l:=by
 apply D0;intro j;rw[D2];split
 .rename_i e;subst e;have hk:k<l.length:=(N8.1 h).1;rw[N9 hk,h]
 rfl
end Go.Proofs.YtdccocolnaklkaaGreatDoor
namespace Go.Proofs.YtdccocolnaklkaaGreatDoor
open Go Go.Hl
open Tryz(prog)
theorem X7p (l:List Vr) (hl:l.length<=1000000) (d:Nat):Con prog 42 false [lV l] (.v (lV l)) none d:=by
 have hroom:Qy l.length 48:=XC (by omega) (by omega);cases l with
 | nil=>
   refine X3r ?_ ?_
   .refine X3 Tryz.func42 ?_;simp only[Tryz.f42];refine X1 ?_;refine X0<|X0<|X2 ?_;refine(X9 rfl (fun h2=>?_) fun h2=>?_)
    ·(try simp only[BN]at h2);refine X1 ?_;exact Xr ⟨.inr rfl,_,X2C 2 5 rfl,⟨⟨_,by simp;rfl,by simp[Xp]⟩,by simp,fun h=>by cases h⟩⟩
    exact absurd h2 (by simp)
   intro a cap;refine X3 Tryz.func42 ?_;simp only[Tryz.f42];refine X1 ?_;refine X0<|X0<|X2 ?_;refine(X9 rfl (fun h2=>?_) fun h2=>?_)
   .exact absurd h2 (by simp)
   (try simp only[BN]at h2);refine Q9 (X5E 0 5 rfl) ?_;refine X1 ?_;exact Xr ⟨.inr rfl,_,XO 7 rfl,⟨⟨_,by simp;rfl,by simp[Xp]⟩,by simp,fun h=>by cases h⟩⟩
 | cons v r=>
   refine X3 Tryz.func42 ?_;simp only[Tryz.f42];rw[List.length_cons]at hroom;refine X1 ?_;refine X0<|X0<|X2 ?_;refine(X9 rfl (fun h2=>?_) fun h2=>?_)
   .exact absurd h2 (by simp)
   (try simp only[BN]at h2);refine X1 ?_;exact Xr ⟨.inr rfl,_,XO 7 rfl,⟨⟨_,by simp;rfl,by simp[Xp]⟩,by simp,fun h=>by cases h⟩⟩
theorem X7P (l:List Int) (hl:l.length<=1000000000) (d:Nat):Con prog 113 false [lI l] (.v (lI l)) none d:=by
 have hroom:Qy l.length 8:=⟨by unfold maxLen;omega,by omega⟩;cases l with
 | nil=>
   refine X3r ?_ ?_
   .refine X3 Tryz.func113 ?_;simp only[Tryz.f113];refine X1 ?_;refine X0<|X0<|X2 ?_;refine(X9 rfl (fun h2=>?_) fun h2=>?_)
    ·(try simp only[BN]at h2);refine X1 ?_;exact Xr ⟨.inr rfl,_,X2C 2 1 rfl,⟨⟨_,by simp;rfl,by simp[Xp]⟩,by simp,fun h=>by cases h⟩⟩
    exact absurd h2 (by simp)
   intro a cap;refine X3 Tryz.func113 ?_;simp only[Tryz.f113];refine X1 ?_;refine X0<|X0<|X2 ?_;refine(X9 rfl (fun h2=>?_) fun h2=>?_)
   .exact absurd h2 (by simp)
   (try simp only[BN]at h2);refine Q9 (X5E 0 1 rfl) ?_;refine X1 ?_;exact Xr ⟨.inr rfl,_,XO 7 rfl,⟨⟨_,by simp;rfl,by simp[Xp]⟩,by simp,fun h=>by cases h⟩⟩
 | cons v r=>
   refine X3 Tryz.func113 ?_;simp only[Tryz.f113];rw[List.length_cons]at hroom;refine X1 ?_;refine X0<|X0<|X2 ?_;refine(X9 rfl (fun h2=>?_) fun h2=>?_)
   .exact absurd h2 (by simp)
   (try simp only[BN]at h2);refine X1 ?_;exact Xr ⟨.inr rfl,_,XO 7 rfl,⟨⟨_,by simp;rfl,by simp[Xp]⟩,by simp,fun h=>by cases h⟩⟩
theorem X3C (l:List Ht) (hl:l.length<=1000000) (d:Nat) (hd:d<1000000):Con prog 56 false [.one (.c (.sl 6 (Xz l)))] (.v (.one (.own d))) (some (.row 94 6 (Xz l))) d:=by
 have hroom:Qy l.length 72:=XC (by omega) (by omega);cases l with
 | nil=>
   refine X3r ?_ ?_
   .refine X3 Tryz.func56 ?_;simp only[Tryz.f56];refine X1 ?_;refine X0<|X0<|X2 ?_;refine(X9 rfl (fun h2=>?_) fun h2=>?_)
    ·(try simp only[BN]at h2);refine X1 ?_;exact Xr ⟨.inr rfl,_,X6a 2 d 94 6 rfl (by decide) hd,⟨⟨_,by simp;rfl,by simp[Xp]⟩,by simp,fun h=>by cases h⟩⟩
    exact absurd h2 (by simp)
   intro a cap;refine X3 Tryz.func56 ?_;simp only[Tryz.f56];refine X1 ?_;refine X0<|X0<|X2 ?_;refine(X9 rfl (fun h2=>?_) fun h2=>?_)
   .exact absurd h2 (by simp)
   (try simp only[BN]at h2);refine Q9 (X5E 0 6 rfl) ?_;refine X1 ?_;exact Xr ⟨.inr rfl,_,X1M 2 7 d rfl rfl hd,⟨⟨_,by simp;rfl,by simp[Xp]⟩,by simp,fun h=>by cases h⟩⟩
 | cons v r=>
   refine X3 Tryz.func56 ?_;simp only[Tryz.f56];rw[List.length_cons]at hroom;refine X1 ?_;refine X0<|X0<|X2 ?_;refine(X9 rfl (fun h2=>?_) fun h2=>?_)
   .exact absurd h2 (by simp)
   (try simp only[BN]at h2);refine X1 ?_;exact Xr ⟨.inr rfl,_,X1M 2 7 d rfl rfl hd,⟨⟨_,by simp;rfl,by simp[Xp]⟩,by simp,fun h=>by cases h⟩⟩
theorem X3P (t:Tm):t.nodes<=1000000->∀d:Nat,Con prog 55 false [aT t] (.v (aT t)) none d:=by
 induction t using Tm.ind with
 |h o n ks ih=>
 intro hn d;simp only[Tm.nodes]at hn;have hlen:=W6 ks;refine X3 Tryz.func55 ?_;simp only[Tryz.f55];simp only[aT,Tm.enc];refine X1 ?_;refine X1 ?_;refine X0<|X0<|X2 ?_;refine X4<|(Xf [1,2,7,8] (fun(x:Nat)=>[(3,.v (.one (.own 1003))),(9,.v (li x))]) (fun x=>[(1,.box [.c (iC o),.c (iC n),.c (.sl 3 (XH ks))]),(2,.box [.c (iC 0),.c (iC 0),.c (.lit XZ)]),(1003,.row 56 3 (XH (ks.take x)))]) (fun x=>x<=ks.length) (fun x=>ks.length - x) (0:Nat) (Nf _) ?_ ?_)
 .exact X5 (fun n=>n) [1003]
 rintro k hk;simp only[upS,X7,Xy]
 try simp only[X7,KN,Nat.reduceBEq,Nd,Nb,ins,Nat.reduceLT]
 refine X1 ?_;refine X0<|(X6 rfl (fun h5=>Xc ?_) (fun h5=>?_))
 ·(try simp only[BN]at h5);have hlt:k<ks.length:=by omega
  obtain⟨⟨eo,en,ek⟩,he,hd⟩:=XF hlt;have he':=QP he;simp only[Tm.enc]at he';have hw1:=XB hlt (by omega);have hk1:k+1<=ks.length:=hlt;have hmem:Tm.mk eo en ek∈ks:=N3 he;have hnm:=X00 hmem;have c:=ih _ hmem (by omega);have htl:(ks.take k).length=k:=by rw[Nt];omega
  have hroom:Qy (k+1) 40:=XC (by omega) (by omega)
  have hsn:XH (ks.take (k+1))=XH (ks.take k)++[[iC eo,iC en,.sl 3 (XH ek)]]:=by
   rw[ZU,ZU,List.take_add_one,he,Option.toList_some,List.map_append];rfl
  clear hlt h5 ih hmem hnm;refine X0<|X4<|X0<|X2 ?_;refine(Xl [⟨false,.v (aT (.mk eo en ek)),none⟩] ?_ ?_)
  .first|exact c _|exact trivial|simpa[*]using c _
  refine X2 ?_;exact⟨k+1,hk1,by omega,X5 (fun n=>if n=1003 then 17 else n) []⟩
 (try simp only[BN]at h5);have hkl:k=ks.length:=by omega
 subst hkl;simp only[List.take_length];refine(Xj ?_);refine X1 ?_;refine X1 ?_;exact Xr ⟨.inr rfl,_,XO 1003 rfl,⟨⟨_,by simp;rfl,by simp[Xp]⟩,by simp,fun h=>by cases h⟩⟩
end Go.Proofs.YtdccocolnaklkaaGreatDoor
namespace Go.Proofs.YtdccocolnaklkaaGreatDoor
open Go Go.Hl Go.Shelf
open Tryz(prog)
def itoR:Ren:=⟨fun f=>if f=129 then 166 else if f=171 then 75 else if f=243 then 114 else if f=246 then 142 else if f=283 then 155 else if f=284 then 156 else if f=285 then 157 else if f=286 then 158 else if f=317 then 165 else if f=318 then 167 else if f=319 then 168 else if f=320 then 169 else if f=337 then 170 else if f=338 then 171 else f,fun t=>if t=37 then 184 else if t=46 then 192 else if t=51 then 190 else if t=53 then 181 else if t=171 then 180 else if t=173 then 185 else if t=212 then 189 else if t=213 then 191 else if t=232 then 195 else if t=233 then 196 else t,fun g=>g - 17⟩
theorem itoL:Lays.n171 prog itoR where
 mixed:=by kernel_rfl
 f129:=by kernel_rfl
 f171:=by kernel_rfl
 f243:=by kernel_rfl
 f246:=by kernel_rfl
 f283:=by kernel_rfl
 f284:=by kernel_rfl
 f285:=by kernel_rfl
 f286:=by kernel_rfl
 f317:=by kernel_rfl
 f318:=by kernel_rfl
 f319:=by kernel_rfl
 f320:=by kernel_rfl
 f337:=by kernel_rfl
 f338:=by kernel_rfl
 t0:=by kernel_rfl
 a0:=fun w=>rfl
 z0:=fun w=>rfl
 v0:=fun w=>rfl
 t2:=by kernel_rfl
 a2:=fun w=>rfl
 z2:=fun w=>rfl
 v2:=fun w=>rfl
 t3:=by kernel_rfl
 a3:=fun w=>rfl
 z3:=fun w=>rfl
 v3:=fun w=>rfl
 t4:=by kernel_rfl
 a4:=fun w=>rfl
 z4:=fun w=>rfl
 v4:=fun w=>rfl
 t5:=by kernel_rfl
 a5:=fun w=>rfl
 z5:=fun w=>rfl
 v5:=fun w=>rfl
 t9:=by kernel_rfl
 a9:=fun w=>rfl
 z9:=fun w=>rfl
 v9:=fun w=>rfl
 t20:=by kernel_rfl
 a20:=fun w=>rfl
 z20:=fun w=>rfl
 v20:=fun w=>rfl
 t37:=by kernel_rfl
 a37:=fun w=>rfl
 z37:=fun w=>rfl
 v37:=fun w=>rfl
 t46:=by kernel_rfl
 a46:=fun w=>rfl
 z46:=fun w=>rfl
 v46:=fun w=>rfl
 t51:=by kernel_rfl
 a51:=fun w=>rfl
 z51:=fun w=>rfl
 v51:=fun w=>rfl
 t53:=by kernel_rfl
 a53:=fun w=>rfl
 z53:=fun w=>rfl
 v53:=fun w=>rfl
 t171:=by kernel_rfl
 a171:=fun w=>rfl
 z171:=fun w=>rfl
 v171:=fun w=>rfl
 t173:=by kernel_rfl
 a173:=fun w=>rfl
 z173:=fun w=>rfl
 v173:=fun w=>rfl
 t212:=by kernel_rfl
 a212:=fun w=>rfl
 z212:=fun w=>rfl
 v212:=fun w=>rfl
 t213:=by kernel_rfl
 a213:=fun w=>rfl
 z213:=fun w=>rfl
 t232:=by kernel_rfl
 a232:=fun w=>rfl
 z232:=fun w=>rfl
 v232:=fun w=>rfl
 t233:=by kernel_rfl
 a233:=fun w=>rfl
 z233:=fun w=>rfl
 v233:=fun w=>rfl
 g17:=by kernel_rfl
 g18:=by kernel_rfl
 g19:=by kernel_rfl
theorem X89 (i:Nat) (hi:i<100) (w:World):Calls prog 75 #[.int .i64 i] w fun e w'=>e=.returned (.string ⟨(Lib.decDigits i).toArray⟩)/\w'=w:=Any.strconv_Itoa_small itoL i hi w
def Qt (i:Nat):ByteArray:=⟨(Lib.decDigits i).toArray⟩
theorem itoa_con (i:Nat) (hi:i<100) (d:Nat):Con prog 75 true [li i] (.v (.one (.c (.lit (.string (Qt i)))))) none d:=by
 refine⟨by kernel_rfl,fun F w vs hF hsz hargs=>?_⟩;obtain⟨l⟩:=vs
 match l,hsz with
 | [v0],_=>
   have a0:CRel F w (.lit (.int .i64 i)) v0:=hargs 0 _ v0 rfl rfl;cases a0;refine(X89 i hi w).mono ?_;rintro e w' ⟨rfl,rfl⟩;exact⟨_,fun _=>False,noγ,rfl,⟨rfl,rfl,rfl,NG _,fun _ _=>rfl⟩,fun b hb=>hb.elim,CRel.lit _,fun o ho=>by cases ho⟩
end Go.Proofs.YtdccocolnaklkaaGreatDoor
namespace Go.Proofs.YtdccocolnaklkaaGreatDoor
open Go Go.Hl
open Tryz(prog)
theorem X4h (s:ByteArray) (k:Nat) (hk:k<100) (hs:catB s (Qt k)=true) (d:Nat):Con prog 32 true [.one (.c (sC s)),li k] (.v (.one (.c (sC (s++Qt k))))) none d:=by
 have ci:=itoa_con k hk;obtain⟨N,hN⟩:∃x,Qt k=x:=⟨_,rfl⟩;rw[hN]at ci hs⊢;clear hN;refine X3 Tryz.func32 ?_;simp only[Tryz.f32];refine X1 ?_;refine Xd [⟨true,.v (.one (.c (.lit (.string N)))),none⟩] ?_ ?_
 .first|exact ci _|exact trivial|simpa[*]using ci _
 exact Xb
def digS:ByteArray:=⟨#[48,49,50,51,52,53,54,55,56,57]⟩
def digN (k:Nat):ByteArray:=digS.extract k (k+1)
def numN (k:Nat):ByteArray:=if k<10 then digN k else digN (k/10)++digN (k%10)
theorem numN_eq:∀k:Nat,k<100->numN k=Qt k:=by decide+kernel
theorem numN_cat:∀k:Nat,k<100->catB (digN (k/10)) (digN (k%10))=true:=by decide+kernel
theorem X3g (k:Nat) (hk:k<10) (d:Nat):Con prog 41 true [li k] (.v (.one (.c (sC (digN k))))) none d:=by
 have hw:IntKind.i64.wrap ((k:Int)+1)=(k:Int)+1:=X8;have hsz:(ByteArray.mk #[48,49,50,51,52,53,54,55,56,57]).size=10:=rfl;have h10:(k:Int)<10:=by omega
 have hk1:k+1<=10:=hk;have h01:0<=(k:Int)+1:=by omega
 unfold digN;rw[show digS=ByteArray.mk #[48,49,50,51,52,53,54,55,56,57] from rfl];refine X3 Tryz.func41 ?_;simp only[Tryz.f41];refine X1 ?_;refine X0<|X0<|X2 ?_;refine(X9 rfl (fun h2=>?_) fun h2=>?_)
 ·(try simp only[BN]at h2);refine X1 ?_;exact Xb
 exact absurd h2 (by simpa using h10)
theorem X3N (k:Nat) (hk:k<100) (d:Nat):Con prog 41 true [li k] (.v (.one (.c (sC (Qt k))))) none d:=by
 rw[<-numN_eq k hk];unfold numN;by_cases h:k<10
 .rw[N9 h];exact X3g k h d
 rw[N6 h];have c1:=X3g (k/10) (by omega);have hc:=numN_cat k hk
 have hw:IntKind.i64.wrap ((k:Int)/10)=((k/10:Nat):Int):=by
  rw[show(k:Int)/10=((k/10:Nat):Int) by omega];exact X8
 have hm:(k:Int).tmod 10=((k%10:Nat):Int):=by rw[Int.tmod_eq_emod_of_nonneg (by omega)];omega
 have hw2:IntKind.i64.wrap (((k%10:Nat):Int)+1)=((k%10:Nat):Int)+1:=X8;have hlt:k%10+1<=10:=by omega
 have h10:¬(k:Int)<10:=by omega
 obtain⟨q,hq⟩:∃q,k/10=q:=⟨_,rfl⟩;obtain⟨r,hr⟩:∃r,k%10=r:=⟨_,rfl⟩;rw[hq]at c1 hc hw⊢;rw[hr]at hc hm hw2 hlt⊢;have hsz:(ByteArray.mk #[48,49,50,51,52,53,54,55,56,57]).size=10:=rfl;have h01:0<=(r:Int)+1:=by omega
 have hdg:digN r=(ByteArray.mk #[48,49,50,51,52,53,54,55,56,57]).extract r (r+1):=rfl;rw[hdg]at hc⊢;obtain⟨A,hA⟩:∃a,digN q=a:=⟨_,rfl⟩;rw[hA]at c1 hc⊢;clear hq hr h hA hdg;refine X3 Tryz.func41 ?_;simp only[Tryz.f41];refine X1 ?_;refine X0<|X0<|X2 ?_;refine(X9 rfl (fun h2=>?_) fun h2=>?_)
 .exact absurd h2 (by simpa using h10)
 (try simp only[BN]at h2);refine X0<|(Xv [⟨true,.v (.one (.c (sC A))),none⟩] (by kernel_rfl) (by kernel_rfl) (by rfl) (by simp[*];first|exact⟨rfl,Iff.rfl⟩|exact⟨rfl,trivial⟩|rfl) ?_ ?_)
 .first|exact c1 _|exact trivial|simpa[*]using c1 _
 exact Xb
def Zh:ByteArray:=⟨#[114,97,119,95]⟩
def Zk:ByteArray:=⟨#[111,117,116,95]⟩
def decN (s:ByteArray):Nat:=(s.data.toList.drop 4).foldl (fun a c=>a*10+(c.toNat - 48)) 0
theorem X0S:∀k:Nat,k<100->catB Zh (Qt k)=true/\catB Zk (Qt k)=true/\decN (Zh++Qt k)=k/\decN (Zk++Qt k)=k:=by decide+kernel
def takV (k:Nat) (v:Vr):Bool:=decide (v.name=Zh++Qt k)||decide (v.name=Zk++Qt k)
theorem tak_con (v:Vr) (k:Nat) (hk:k<100) (d:Nat):Con prog 31 true [aV v,.one (.c (.ptr [iC k]))] (.v (lb (takV k v))) none d:=by
 obtain⟨h1,h2,_,_⟩:=X0S k hk;have c1:=X4h Zh k hk h1;have c2:=X4h Zk k hk h2;unfold takV;obtain⟨R,hR⟩:∃x,Zh++Qt k=x:=⟨_,rfl⟩;obtain⟨O,hO⟩:∃x,Zk++Qt k=x:=⟨_,rfl⟩;rw[hR]at c1⊢;rw[hO]at c2⊢;simp only[sC,Zh,Zk]at c1 c2;obtain⟨nm,kd,lo,hi,it⟩:=v;clear h1 h2 hR hO;refine X3 Tryz.func31 ?_;simp only[Tryz.f31];simp only[aV,Vr.enc,Na,Ng];refine X1 ?_;by_cases hA:nm=R
 .refine X0<|(X9r [some ⟨true,.v (.one (.c (.lit (.string R)))),none⟩,none] (by kernel_rfl) (by kernel_rfl) (by rfl) (by simp[*];first|exact⟨rfl,Iff.rfl⟩|exact⟨rfl,trivial⟩|rfl) ?_ ?_)
  .first|exact c1 _|exact⟨c1 _,trivial⟩|simpa using c1 _
  exact Xb
 refine X0<|(Xv [⟨true,.v (.one (.c (.lit (.string R)))),none⟩,⟨true,.v (.one (.c (.lit (.string O)))),none⟩] (by kernel_rfl) (by kernel_rfl) (by rfl) (by simp[*];first|exact⟨rfl,Iff.rfl⟩|exact⟨rfl,trivial⟩|rfl) ?_ ?_)
 .first|exact⟨c1 _,c2 _⟩|exact trivial|(repeat' first|exact trivial|exact c1 _|exact c2 _|apply And.intro)
 exact Xb
def X2l (vars:List Vr) (k:Nat):Bool:=vars.any (takV k)
theorem takF_con (f:Fl) (k:Nat) (hk:k<100) (hl:f.vars.length<=1000000000) (d:Nat):Con prog 29 true [li k,.one (.c (.ptr f.enc))] (.v (lb (X2l f.vars k))) none d:=by
 have cc:=X2b f.vars 31 [CD.ptr [iC k]] (takV k) hl (fun v _ d=>tak_con v k hk d);unfold X2l;obtain⟨B,hB⟩:∃b,f.vars.any (takV k)=b:=⟨_,rfl⟩;rw[hB]at cc⊢;obtain⟨vars,hats,body⟩:=f;clear hB hl;refine X3 Tryz.func29 ?_;simp only[Tryz.f29];simp only[Fl.enc]at cc⊢;refine X1 ?_;refine Xd [⟨true,.v (lb B),none⟩] ?_ ?_
 .first|exact cc _|exact trivial|simpa[*]using cc _
 exact Xb
theorem X9b (g:FuncId) (cap:List CD) (tk:Nat->Bool) (k0:Nat) (hk0:k0<=1000000) (h0:tk k0=false) (h1:∀k,k<k0->tk k=true)
  (hp:∀k,k<=k0->∀d,Con prog g true (li k::cap.map fun c=>.one (.c c)) (.v (lb (tk k))) none d) (d:Nat):Con prog 28 true [.one (.c (.fn g cap))] (.v (li k0)) none d:=by
 refine X3 Tryz.func28 ?_;simp only[Tryz.f28];refine X1 ?_;refine X1 ?_;refine X0<|X4<|(Xf [0] (fun(x:Nat)=>[(3,.v (li x))]) (fun x=>[]) (fun x=>x<=k0) (fun x=>k0 - x) (0:Nat) (Nf _) ?_ ?_)
 .exact X5 (fun n=>n) []
 rintro x hx;simp only[upS,X7,Xy]
 try simp only[X7,KN,Nat.reduceBEq,Nd,Nb,ins,Nat.reduceLT]
 have cg:=hp x hx;have hw:IntKind.i64.wrap ((x:Int)+1)=(x:Int)+1:=X8;obtain⟨B,hB⟩:∃b,tk x=b:=⟨_,rfl⟩;rw[hB]at cg;clear hp;refine X0<|X0<|(Xl [⟨true,.v (lb B),none⟩] ?_ ?_)
 .first|exact cg _|exact trivial|simpa[*]using cg _
 refine(X6 rfl (fun h4=>Xc ?_) (fun h4=>?_))
 ·(try simp only[BN]at h4);have hne:x≠k0:=fun e=>by rw[e,h0]at hB;rw[<-hB]at h4;cases h4
  have hx1:x+1<=k0:=by omega
  refine X4<|X2 ?_;exact⟨x+1,hx1,by omega,X5 (fun n=>n) []⟩
 (try simp only[BN]at h4);have hB2:B=false:=by simpa using h4
 have hxe:x=k0:=by
  refine Classical.byContradiction fun hn=>?_;have:=h1 x (by omega);rw[hB,hB2]at this;cases this
 subst hxe;refine(Xj ?_);refine X1 ?_;exact Xb
theorem pig:∀(n:Nat) (l:List Nat),(∀k,k<=n->k∈l)->n<l.length
 |0,l,h=>List.length_pos_of_mem (h 0 (NG _))
 | n+1,l,h=>by
   have h1:=h (n+1) (NG _);have h2:=pig n (l.erase (n+1)) fun k hk=>(List.mem_erase_of_ne (by omega)).2 (h k (by omega));rw[List.length_erase_of_mem h1]at h2;omega
theorem least_of {tk:Nat->Bool}:∀n:Nat,tk n=false->∃k,k<=n/\tk k=false/\∀j,j<k->tk j=true:=by
 intro n
 induction n using Nat.strongRecOn with
 | ind n ih=>
   intro hn;by_cases h:∃k,k<n/\tk k=false
   .obtain⟨k,hk,hkt⟩:=h;obtain⟨j,hj,h1⟩:=ih k hk hkt;exact⟨j,by omega,h1⟩
   refine⟨n,NG _,hn,fun j hj=>?_⟩;cases hb:tk j
   .exact absurd ⟨j,hj,hb⟩ h
   rfl
theorem X9f (vars:List Vr) (hl:vars.length<100):∃k,k<=vars.length/\X2l vars k=false/\∀j,j<k->X2l vars j=true:=by
 by_cases h:∃n,n<=vars.length/\X2l vars n=false
 .obtain⟨n,hn,ht⟩:=h;obtain⟨k,hk,h1⟩:=least_of n ht;exact⟨k,by omega,h1⟩
 exfalso
 have:=pig vars.length (vars.map fun v=>decN v.name) fun k hk=>by
  have ht:X2l vars k=true:=by
   cases hb:X2l vars k
   .exact absurd ⟨k,hk,hb⟩ h
   rfl
  unfold X2l at ht;rw[List.any_eq_true]at ht;obtain⟨v,hv,hvk⟩:=ht;obtain⟨_,_,h3,h4⟩:=X0S k (by omega);unfold takV at hvk;rw[Ni,N5,N5]at hvk;refine NN.2 ⟨v,hv,?_⟩;rcases hvk with e|e
  .rw[e,h3]
  rw[e,h4]
 rw[NY]at this;omega
abbrev wr (x:Int):Int:=IntKind.i64.wrap x
def QL (b:Bool):Int:=if b=true then 1 else 0
def X0e (a b:Int):Int:=
 if b=0 then 0 else if(!decide (a.tmod b=0)&&(decide (a<0)!=decide (b<0)))=true then wr (wr (a.tdiv b) - 1)else wr (a.tdiv b)
def X2c (a b:Int):Int:=if b=0 then 0 else wr (a - wr (b*X0e a b))
def binI (o a b:Int):Int:=
 if o=8 then wr (a+b)else if o=9 then wr (a - b)else if o=10 then wr (a*b)else if o=11 then X0e a b else if o=12 then X2c a b
 else if o=13 then QL (decide (a=b))else if o=14 then QL (!decide (a=b))else if o=15 then QL (decide (a<b))else if o=16 then QL (decide (a<=b))
 else if o=17 then QL (decide (b<a))else if o=18 then QL (decide (b<=a))else if o=19 then QL (!decide (a=0)&& !decide (b=0))
 else if o=20 then QL (!decide (a=0)|| !decide (b=0))else if o=21 then mn a b else mx a b
theorem Qj (b:Bool) (d:Nat):Con prog 143 true [lb b] (.v (li (QL b))) none d:=by
 refine X3 Tryz.func143 ?_;simp only[Tryz.f143];refine X1 ?_;refine X0<|X0<|X2 ?_;refine(X9 rfl (fun h2=>?_) fun h2=>?_)
 ·(try simp only[BN]at h2);refine X1 ?_;exact(Xb (he:=by first|rfl|(simp[*,QL];done)|(simp only[Xp,QL];(repeat' split)<;>first|rfl|(exfalso;omega)|simp_all)))
 (try simp only[BN]at h2);refine X1 ?_;exact(Xb (he:=by first|rfl|(simp[*,QL];done)|(simp only[Xp,QL];(repeat' split)<;>first|rfl|(exfalso;omega)|simp_all)))
theorem X3y (a b:Int) (d:Nat):Con prog 159 true [li a,li b] (.v (li (X0e a b))) none d:=by
 obtain⟨res,hres⟩:∃r,X0e a b=r:=⟨_,rfl⟩;rw[hres];unfold X0e at hres;refine X3 Tryz.func159 ?_;simp only[Tryz.f159];refine X1 ?_;refine X0<|X0<|X2 ?_;refine(X9 rfl (fun h2=>?_) fun h2=>?_)
 ·(try simp only[BN]at h2);rw[N9 h2]at hres;subst hres;refine X1 ?_;exact Xb
 (try simp only[BN]at h2);rw[N6 h2]at hres;refine X1 ?_;refine X0<|X0<|X2 ?_;refine(X9 rfl (fun h7=>?_) fun h7=>?_)
 ·(try simp only[BN]at h7);rw[N9 (by simpa using h7)]at hres;subst hres;refine X2 ?_;refine X1 ?_;exact Xb
 try simp only[BN]at h7
 rw [N6 (by
     simp only[N4,Nm,Nc,bne_iff_ne,ne_eq,decide_eq_decide,not_and,Decidable.not_not];intro h;rcases h7 with h7|h7
     .exact absurd h7 h
     simpa using h7)]at hres
 subst hres;refine X1 ?_;exact Xb
theorem X8s (a b:Int) (d:Nat):Con prog 160 true [li a,li b] (.v (li (X2c a b))) none d:=by
 obtain⟨res,hres⟩:∃r,X2c a b=r:=⟨_,rfl⟩;rw[hres];unfold X2c at hres;refine X3 Tryz.func160 ?_;simp only[Tryz.f160];refine X1 ?_;refine X0<|X0<|X2 ?_;refine(X9 rfl (fun h2=>?_) fun h2=>?_)
 ·(try simp only[BN]at h2);rw[N9 h2]at hres;subst hres;refine X1 ?_;exact Xb
 (try simp only[BN]at h2);rw[N6 h2]at hres;subst hres;refine Xd [⟨true,.v (li (X0e a b)),none⟩] ?_ ?_
 .first|exact X3y _ _ _|exact trivial|simpa[*]using X3y _ _ _
 exact Xb
theorem X8R (o a b:Int) (d:Nat):Con prog 144 true [li o,li a,li b] (.v (li (binI o a b))) none d:=by
 obtain⟨res,hres⟩:∃r,binI o a b=r:=⟨_,rfl⟩;rw[hres];unfold binI at hres;refine X3 Tryz.func144 ?_;simp only[Tryz.f144];refine X1 ?_;refine X0<|X0<|X2 ?_;refine X4<|X0<|X2 ?_;refine(X6 rfl (fun h3=>?_) (fun h3=>?_))
 ·(try simp only[BN]at h3);rw[N9 h3]at hres;subst hres;refine X1 ?_;exact Xb
 (try simp only[BN]at h3);rw[N6 h3]at hres;refine X1 ?_;refine(X6 rfl (fun h7=>?_) (fun h7=>?_))
 ·(try simp only[BN]at h7);rw[N9 h7]at hres;subst hres;refine X1 ?_;exact Xb
 (try simp only[BN]at h7);rw[N6 h7]at hres;refine X1 ?_;refine(X6 rfl (fun h11=>?_) (fun h11=>?_))
 ·(try simp only[BN]at h11);rw[N9 h11]at hres;subst hres;refine X1 ?_;exact Xb
 (try simp only[BN]at h11);rw[N6 h11]at hres;refine X1 ?_;refine(X6 rfl (fun h15=>?_) (fun h15=>?_))
 ·(try simp only[BN]at h15);rw[N9 h15]at hres;subst hres;refine Xd [⟨true,.v (li (X0e a b)),none⟩] ?_ ?_
  .first|exact X3y _ _ _|exact trivial|simpa[*]using X3y _ _ _
  exact Xb
 (try simp only[BN]at h15);rw[N6 h15]at hres;refine X1 ?_;refine(X6 rfl (fun h19=>?_) (fun h19=>?_))
 ·(try simp only[BN]at h19);rw[N9 h19]at hres;subst hres;refine Xd [⟨true,.v (li (X2c a b)),none⟩] ?_ ?_
  .first|exact X8s _ _ _|exact trivial|simpa[*]using X8s _ _ _
  exact Xb
 (try simp only[BN]at h19);rw[N6 h19]at hres;refine X1 ?_;refine(X6 rfl (fun h23=>?_) (fun h23=>?_))
 ·(try simp only[BN]at h23);rw[N9 h23]at hres;subst hres;refine Xd [⟨true,.v (li (QL (decide (a=b)))),none⟩] ?_ ?_
  .first|exact Qj _ _|exact trivial|simpa[*]using Qj _ _
  exact Xb
 (try simp only[BN]at h23);rw[N6 h23]at hres;refine X1 ?_;refine(X6 rfl (fun h27=>?_) (fun h27=>?_))
 ·(try simp only[BN]at h27);rw[N9 h27]at hres;subst hres;refine Xd [⟨true,.v (li (QL (!decide (a=b)))),none⟩] ?_ ?_
  .first|exact Qj _ _|exact trivial|simpa[*]using Qj _ _
  exact Xb
 (try simp only[BN]at h27);rw[N6 h27]at hres;refine X1 ?_;refine(X6 rfl (fun h31=>?_) (fun h31=>?_))
 ·(try simp only[BN]at h31);rw[N9 h31]at hres;subst hres;refine Xd [⟨true,.v (li (QL (decide (a<b)))),none⟩] ?_ ?_
  .first|exact Qj _ _|exact trivial|simpa[*]using Qj _ _
  exact Xb
 (try simp only[BN]at h31);rw[N6 h31]at hres;refine X1 ?_;refine(X6 rfl (fun h35=>?_) (fun h35=>?_))
 ·(try simp only[BN]at h35);rw[N9 h35]at hres;subst hres;refine Xd [⟨true,.v (li (QL (decide (a<=b)))),none⟩] ?_ ?_
  .first|exact Qj _ _|exact trivial|simpa[*]using Qj _ _
  exact Xb
 (try simp only[BN]at h35);rw[N6 h35]at hres;refine X1 ?_;refine(X6 rfl (fun h39=>?_) (fun h39=>?_))
 ·(try simp only[BN]at h39);rw[N9 h39]at hres;subst hres;refine Xd [⟨true,.v (li (QL (decide (b<a)))),none⟩] ?_ ?_
  .first|exact Qj _ _|exact trivial|simpa[*]using Qj _ _
  exact Xb
 (try simp only[BN]at h39);rw[N6 h39]at hres;refine X1 ?_;refine(X6 rfl (fun h43=>?_) (fun h43=>?_))
 ·(try simp only[BN]at h43);rw[N9 h43]at hres;subst hres;refine Xd [⟨true,.v (li (QL (decide (b<=a)))),none⟩] ?_ ?_
  .first|exact Qj _ _|exact trivial|simpa[*]using Qj _ _
  exact Xb
 (try simp only[BN]at h43);rw[N6 h43]at hres;refine X1 ?_;refine(X6 rfl (fun h47=>?_) (fun h47=>?_))
 ·(try simp only[BN]at h47);rw[N9 h47]at hres;subst hres;refine Xd [⟨true,.v (li (QL (!decide (a=0)&& !decide (b=0)))),none⟩] ?_ ?_
  .first|exact Qj _ _|exact trivial|simpa[*]using Qj _ _
  exact Xb
 (try simp only[BN]at h47);rw[N6 h47]at hres;refine X1 ?_;refine(X6 rfl (fun h51=>?_) (fun h51=>?_))
 ·(try simp only[BN]at h51);rw[N9 h51]at hres;subst hres;refine Xd [⟨true,.v (li (QL (!decide (a=0)|| !decide (b=0)))),none⟩] ?_ ?_
  .first|exact Qj _ _|exact trivial|simpa[*]using Qj _ _
  exact Xb
 (try simp only[BN]at h51);rw[N6 h51]at hres;refine X1 ?_;refine(X9 rfl (fun h55=>?_) fun h55=>?_)
 ·(try simp only[BN]at h55);rw[N9 h55]at hres;subst hres;refine Xd [⟨true,.v (li (mn a b)),none⟩] ?_ ?_
  .first|exact Q3 _ _ _|exact trivial|simpa[*]using Q3 _ _ _
  exact Xb
 (try simp only[BN]at h55);rw[N6 h55]at hres;subst hres;refine Xd [⟨true,.v (li (mx a b)),none⟩] ?_ ?_
 .first|exact Q8 _ _ _|exact trivial|simpa[*]using Q8 _ _ _
 exact Xb
def selI (k0:Int) (len:Nat):Int:=wr (1+XN k0 0 (wr ((len:Int) - 2)))
def X3j (vs:List Int) (o n:Int) (k:List Int):Int:=
 if o=0 then n else if o=24 then(vs[n.toNat]?).getD 0 else if o=6 then wr (-((k[0]?).getD 0))else if o=7 then QL (decide ((k[0]?).getD 0=0))
 else if o=23 then(if(k[0]?).getD 0=0 then(k[2]?).getD 0 else(k[1]?).getD 0)
 else if o=25 then(k[(selI ((k[0]?).getD 0) k.length).toNat]?).getD 0
 else binI o ((k[0]?).getD 0) ((k[1]?).getD 0)
mutual
def vT (vs:List Int):Tm->Int
 | .mk o n ks=>X3j vs o n (vTs vs ks)
def vTs (vs:List Int):List Tm->List Int
 |[]=>[]
 |t::l=>vT vs t::vTs vs l
end
theorem X8E (vs:List Int):∀l:List Tm,vTs vs l=l.map (vT vs)
 |[]=>by simp[vTs]
 |t::l=>by simp[vTs,X8E vs l]
theorem kq1 {vars:List Vr} {inp:Bool} {o n:Int} {ks:List Tm} (h:XU vars inp o n ks.length=true) (ho:o=6\/o=7):∃a,ks=[a]:=by
 have:=WU h;rw[show XK o=(1,1) by unfold XK;rw[N6 (by omega),N9 ho]]at this;simp only at this
 match ks,this with
 |[a],_=>exact⟨a,rfl⟩
 |[],h=>simp at h
 |a::b::l,h=>simp at h;omega
theorem kq2 {vars:List Vr} {inp:Bool} {o n:Int} {ks:List Tm} (h:XU vars inp o n ks.length=true) (h1:¬o=0) (h2:¬o=24) (h3:¬o=6) (h4:¬o=7) (h5:¬o=23) (h6:¬o=25):∃a b,ks=[a,b]:=by
 have:=WU h
 have hr:8<=o/\o<=22:=by
  refine Classical.byContradiction fun hc=>?_;rw[show XK o=(-1,-1) by unfold XK;rw[N6 (by omega),N6 (by omega),N6 hc,N6 h5,N6 h6]]at this;simp at this
 rw[show XK o=(2,2) by unfold XK;rw[N6 (by omega),N6 (by omega),N9 hr]]at this;simp only at this
 match ks,this with
 |[a,b],_=>exact⟨a,b,rfl⟩
 |[],h=>simp at h
 |[a],h=>simp at h
 |a::b::c::l,h=>simp at h;omega
theorem kq3 {vars:List Vr} {inp:Bool} {n:Int} {ks:List Tm} (h:XU vars inp 23 n ks.length=true):∃a b c,ks=[a,b,c]:=by
 have:=WU h;rw[show XK 23=(3,3) by decide]at this;simp only at this
 match ks,this with
 |[a,b,c],_=>exact⟨a,b,c,rfl⟩
 |[],h=>simp at h
 |[a],h=>simp at h
 |[a,b],h=>simp at h
 |a::b::c::e::l,h=>simp at h;omega
theorem kqN {vars:List Vr} {inp:Bool} {n:Int} {ks:List Tm} (h:XU vars inp 25 n ks.length=true):2<=ks.length/\ks.length<=33:=by
 have:=WU h;rw[show XK 25=(2,33) by decide]at this;simp only at this;omega
theorem X2E (vars:List Vr) (inp:Bool) (vs:List Int) (hvs:vs.length=vars.length) (t:Tm):Qb vars inp t=true->∀d:Nat,
  Con prog 118 true [lI vs,aT t] (.v (li (vT vs t))) none d:=by
 induction t using Tm.ind with
 |h o n ks ih=>
 intro hf d;simp only[Qb,N4]at hf;have hfk:=WQ hf.2;have hf:=hf.1;obtain⟨res,hres⟩:∃r,vT vs (.mk o n ks)=r:=⟨_,rfl⟩;rw[hres];simp only[vT,X3j]at hres;have ih:=fun t ht=>ih t ht (hfk t ht);clear hfk;refine X3 Tryz.func118 ?_;simp only[Tryz.f118];simp only[aT,Tm.enc];refine X1 ?_;refine X0<|X0<|X2 ?_;refine X4<|X0<|X2 ?_;refine(X6 rfl (fun h3=>?_) (fun h3=>?_))
 ·(try simp only[BN]at h3);rw[N9 h3]at hres;subst hres;refine X1 ?_;exact Xb
 (try simp only[BN]at h3);rw[N6 h3]at hres;refine X1 ?_;refine(X6 rfl (fun h7=>?_) (fun h7=>?_))
 ·(try simp only[BN]at h7);rw[N9 h7]at hres;subst h7;obtain⟨hn0,v,hv,_⟩:=X08 hf;have hlt:n.toNat<vs.length:=by rw[hvs];exact(N8.1 hv).1
  obtain⟨x,hx⟩:∃x,vs[n.toNat]? =some x:=⟨vs[n.toNat],by simp[hlt]⟩;rw[hx]at hres;simp only[Option.getD_some]at hres;subst hres;clear hlt hv;refine X1 ?_;exact Xb
 (try simp only[BN]at h7);rw[N6 h7]at hres;refine X1 ?_;refine(X6 rfl (fun h11=>?_) (fun h11=>?_))
 ·(try simp only[BN]at h11);rw[N9 h11]at hres;obtain⟨⟨ao,an,ak⟩,rfl⟩:=kq1 hf (.inl h11);have ca:=ih _ (D1.2 rfl);simp only[aT,Tm.enc,Na,Ng]at ca;obtain⟨A,hA⟩:∃x,vT vs (.mk ao an ak)=x:=⟨_,rfl⟩;rw[hA]at ca;rw[show vTs vs [Tm.mk ao an ak]=[A] by simp[vTs,hA]]at hres;simp only[List.getElem?_cons_zero,Option.getD_some]at hres;subst hres;clear ih hA;refine Xd [⟨true,.v (li A),none⟩] ?_ ?_
  .first|exact ca _|exact trivial|simpa[*]using ca _
  exact Xb
 (try simp only[BN]at h11);rw[N6 h11]at hres;refine X1 ?_;refine(X6 rfl (fun h15=>?_) (fun h15=>?_))
 ·(try simp only[BN]at h15);rw[N9 h15]at hres;obtain⟨⟨ao,an,ak⟩,rfl⟩:=kq1 hf (.inr h15);have ca:=ih _ (D1.2 rfl);simp only[aT,Tm.enc,Na,Ng]at ca;obtain⟨A,hA⟩:∃x,vT vs (.mk ao an ak)=x:=⟨_,rfl⟩;rw[hA]at ca;rw[show vTs vs [Tm.mk ao an ak]=[A] by simp[vTs,hA]]at hres;simp only[List.getElem?_cons_zero,Option.getD_some]at hres;subst hres;clear ih hA;refine Xd [⟨true,.v (li A),none⟩,⟨true,.v (li (QL (decide (A=0)))),none⟩] ?_ ?_
  .first|exact⟨ca _,Qj _ _⟩|exact trivial|(repeat' first|exact trivial|exact ca _|exact Qj _ _|apply And.intro)
  exact Xb
 (try simp only[BN]at h15);rw[N6 h15]at hres;refine X1 ?_;refine(X6 rfl (fun h19=>?_) (fun h19=>?_))
 ·(try simp only[BN]at h19);rw[N9 h19]at hres;subst h19;obtain⟨⟨ao,an,ak⟩,⟨bo,bn,bk⟩,⟨co,cn,ck⟩,rfl⟩:=kq3 hf;have ca:=ih (.mk ao an ak) (by simp);have cb:=ih (.mk bo bn bk) (by simp);have cc:=ih (.mk co cn ck) (by simp);simp only[aT,Tm.enc,Na,Ng]at ca cb cc;obtain⟨A,hA⟩:∃x,vT vs (.mk ao an ak)=x:=⟨_,rfl⟩;obtain⟨B,hB⟩:∃x,vT vs (.mk bo bn bk)=x:=⟨_,rfl⟩;obtain⟨C,hC⟩:∃x,vT vs (.mk co cn ck)=x:=⟨_,rfl⟩;rw[hA]at ca;rw[hB]at cb;rw[hC]at cc;rw[show vTs vs [Tm.mk ao an ak,Tm.mk bo bn bk,Tm.mk co cn ck]=[A,B,C] by simp[vTs,hA,hB,hC]]at hres;simp only[List.getElem?_cons_zero,List.getElem?_cons_succ,Option.getD_some]at hres;clear ih hA hB hC;refine X0<|X0<|(Xl [⟨true,.v (li A),none⟩] ?_ ?_)
  .first|exact ca _|exact trivial|simpa[*]using ca _
  refine(X9 rfl (fun h21=>?_) fun h21=>?_)
  ·(try simp only[BN]at h21);rw[N6 h21]at hres;subst hres;refine Xd [⟨true,.v (li B),none⟩] ?_ ?_
   .first|exact cb _|exact trivial|simpa[*]using cb _
   exact Xb
  (try simp only[BN]at h21);rw[N9 (by simpa using h21)]at hres;subst hres;refine Xd [⟨true,.v (li C),none⟩] ?_ ?_
  .first|exact cc _|exact trivial|simpa[*]using cc _
  exact Xb
 (try simp only[BN]at h19);rw[N6 h19]at hres;refine X1 ?_;refine(X9 rfl (fun h27=>?_) fun h27=>?_)
 ·(try simp only[BN]at h27);rw[N9 h27]at hres;subst h27;have hln:=kqN hf;obtain⟨⟨ao,an,ak⟩,he0⟩:∃t,ks[0]? =some t:=⟨ks[0],by simp⟩;have ca:=ih _ (N3 he0);have he0':=QP he0;simp only[aT,Tm.enc,Na,Ng]at ca he0';obtain⟨A,hA⟩:∃x,vT vs (.mk ao an ak)=x:=⟨_,rfl⟩;rw[hA]at ca;rw[X8E,Nj,Nj,he0,Option.map_some,Option.getD_some,hA,NY]at hres;have hw1:IntKind.i64.wrap ((ks.length:Int) - 2)=(ks.length:Int) - 2:=X8;unfold selI at hres;simp only[wr,hw1]at hres;have hh:=X2f (n:=A) (lo:=0) (hi:=(ks.length:Int) - 2) (by omega);obtain⟨H,hH⟩:∃x,XN A 0 ((ks.length:Int) - 2)=x:=⟨_,rfl⟩;have cheld:=X4j A 0 ((ks.length:Int) - 2);rw[hH]at hres hh cheld;have hw2:IntKind.i64.wrap (1+H)=1+H:=X8;rw[hw2]at hres;obtain⟨⟨bo,bn,bk⟩,he1⟩:∃t,ks[(1+H).toNat]? =some t:=⟨ks[(1+H).toNat]'(by omega),by simp⟩;have cb:=ih _ (N3 he1);have he1':=QP he1;simp only[aT,Tm.enc,Na,Ng]at cb he1';rw[he1,Option.map_some,Option.getD_some]at hres;obtain⟨B,hB⟩:∃x,vT vs (.mk bo bn bk)=x:=⟨_,rfl⟩;rw[hB]at cb hres;subst hres;have hp1:0<=1+H:=by omega
  have hp2:1<=ks.length:=by omega
  clear ih hA hB hH he0 he1 hln hf hvs;refine X0<|(Xv [⟨true,.v (li A),none⟩,⟨true,.v (li H),none⟩,⟨true,.v (li B),none⟩] (by kernel_rfl) (by kernel_rfl) (by rfl) (by simp[*];first|exact⟨rfl,Iff.rfl⟩|exact⟨rfl,trivial⟩|rfl) ?_ ?_)
  .first|exact⟨ca _,cheld _,cb _⟩|exact trivial|(repeat' first|exact trivial|exact ca _|exact cheld _|exact cb _|apply And.intro)
  exact Xb
 (try simp only[BN]at h27);rw[N6 h27]at hres;obtain⟨⟨ao,an,ak⟩,⟨bo,bn,bk⟩,rfl⟩:=kq2 hf h3 h7 h11 h15 h19 h27;have ca:=ih (.mk ao an ak) (by simp);have cb:=ih (.mk bo bn bk) (by simp);simp only[aT,Tm.enc,Na,Ng]at ca cb;simp only[vTs,List.getElem?_cons_zero,List.getElem?_cons_succ,Option.getD_some]at hres;obtain⟨A,hA⟩:∃x,vT vs (.mk ao an ak)=x:=⟨_,rfl⟩;obtain⟨B,hB⟩:∃x,vT vs (.mk bo bn bk)=x:=⟨_,rfl⟩;rw[hA]at ca hres;rw[hB]at cb hres;subst hres;clear ih hA hB;refine X0<|(Xv [⟨true,.v (li A),none⟩,⟨true,.v (li B),none⟩,⟨true,.v (li (binI o A B)),none⟩] (by kernel_rfl) (by kernel_rfl) (by rfl) (by simp[*];first|exact⟨rfl,Iff.rfl⟩|exact⟨rfl,trivial⟩|rfl) ?_ ?_)
 .first|exact⟨ca _,cb _,X8R _ _ _ _⟩|exact trivial|(repeat' first|exact trivial|exact ca _|exact cb _|exact X8R _ _ _ _|apply And.intro)
 exact Xb
theorem X2v (l:List Int) (i:Nat) (d:Nat):Con prog 115 true [lI l,li i] (.tup [li ((l[i]?).getD 0),lb (decide (i<l.length))]) none d:=by
 obtain⟨A,hA⟩:∃x,(l[i]?).getD 0=x:=⟨_,rfl⟩;obtain⟨B,hB⟩:∃x,decide (i<l.length)=x:=⟨_,rfl⟩;rw[hA,hB];refine X3 Tryz.func115 ?_;simp only[Tryz.f115];refine X1 ?_;refine X0<|X0<|X2 ?_;refine(X9 rfl (fun h2=>?_) fun h2=>?_)
 ·(try simp only[BN]at h2);have h3:¬i<l.length:=by omega
  rw[ND (by omega)]at hA;rw[decide_eq_false h3]at hB;simp only[Option.getD_none]at hA;subst hA hB;refine X1 ?_;exact Xb
 (try simp only[BN]at h2);have h3:i<l.length:=by omega
 obtain⟨x,hx⟩:=Zr h3;rw[hx]at hA;rw[Nv h3]at hB;simp only[Option.getD_some]at hA;subst hA hB;clear h3;refine X1 ?_;exact Xb
def stlL:List Int->Int->Int->Bool->Int
 |[],_,best,_=>best
 |b::l,t,best,found=>if t<=b/\(found=false\/b<best)then stlL l t b true else stlL l t best found
theorem X6s (bs:List Int) (t:Int) (hl:bs.length<=1000000000) (d:Nat):Con prog 119 true [lI bs,li t] (.v (li (stlL bs t t false))) none d:=by
 obtain⟨res,hres⟩:∃r,stlL bs t t false=r:=⟨_,rfl⟩;rw[hres];refine X3 Tryz.func119 ?_;simp only[Tryz.f119];refine X1 ?_;refine X1 ?_;refine X0<|X0<|X2 ?_;refine X4<|(Xf [0,1] (fun(x:Nat×Int×Bool)=>[(5,.v (li x.2.1)),(6,.v (lb x.2.2)),(7,.v (li x.1))]) (fun x=>[]) (fun x=>x.1<=bs.length/\stlL (bs.drop x.1) t x.2.1 x.2.2=res) (fun x=>bs.length - x.1) (0,t,false) ⟨Nf _,hres⟩ ?_ ?_)
 .exact X5 (fun n=>n) []
 rintro⟨k,best,found⟩ ⟨hk,hJ⟩;simp only[upS,X7,Xy]
 try simp only[X7,KN,Nat.reduceBEq,Nd,Nb,ins,Nat.reduceLT]
 simp only at hk hJ;clear hres;refine X0<|X0<|X2 ?_;refine(X6 rfl (fun h5=>Xc ?_) (fun h5=>?_))
 ·(try simp only[BN]at h5);have hlt:k<bs.length:=by omega
  obtain⟨b,he,hd⟩:=XF hlt;have hw1:=XB hlt (by omega);have hk1:k+1<=bs.length:=hlt;rw[hd]at hJ;simp only[stlL]at hJ;clear hlt h5 hd;refine X0<|X4<|X0<|X2 ?_;refine(X9 rfl (fun h7=>?_) fun h7=>?_)
  ·(try simp only[BN]at h7);rw[N9 (by simpa using h7)]at hJ;refine X2 ?_;refine X2 ?_;exact⟨(k+1,b,true),⟨hk1,hJ⟩,by simp only;omega,X5 (fun n=>n) []⟩
  (try simp only[BN]at h7);have h7':b<t\/found=true/\best<=b:=by simpa using h7
  rw [N6 (by
      rintro⟨ha,hb⟩;rcases h7' with h|h
      .omega
      rcases hb with hb|hb
      .rw[hb]at h;exact absurd h.1 (by decide)
      omega)]at hJ
  clear h7';refine X2 ?_;exact⟨(k+1,best,found),⟨hk1,hJ⟩,by simp only;omega,X5 (fun n=>n) []⟩
 (try simp only[BN]at h5);have hkl:k=bs.length:=by omega
 rw[hkl,Nq]at hJ;simp only[stlL]at hJ;subst hJ;refine(Xj ?_);refine X1 ?_;exact Xb
def QO (vs:List Int) (l:List Ht):List Int:=l.map fun h=>XN (vT vs h.term) h.low h.high
theorem X9F (f:Fl) (vs:List Int) (hvs:vs.length=f.vars.length) (hh:f.hats.length<=1000000) (hf:∀h∈f.hats,Qb f.vars true h.term=true) (d:Nat):
  Con prog 82 false [aF f,lI vs] (.v (lI (QO vs f.hats))) none d:=by
 obtain⟨vars,hats,body⟩:=f;simp only at hvs hh hf⊢;have hv0:QO vs []=[]:=rfl;refine X3 Tryz.func82 ?_;simp only[Tryz.f82];simp only[aF,Fl.enc,Na,Ng];refine X1 ?_;refine X1 ?_;refine X0<|X0<|X2 ?_;refine X4<|(Xf [1,2] (fun(x:Nat)=>[(5,.v (.one (.own 1005))),(6,.v (li x))]) (fun x=>[(2,.box [.c (.sl 5 (Xt vars)),.c (.sl 6 (Xz hats)),.c (.sl 10 (Xe body))]),(1005,.row 3 1 (Xg (QO vs (hats.take x))))]) (fun x=>x<=hats.length) (fun x=>hats.length - x) (0:Nat) (Nf _) ?_ ?_)
 .exact X5 (fun n=>if n=1005 then 8 else n) []
 rintro k hk;simp only[upS,X7,Xy]
 try simp only[X7,KN,Nat.reduceBEq,Nd,Nb,ins,Nat.reduceLT]
 refine X0<|X0<|X2 ?_;refine(X6 rfl (fun h5=>Xc ?_) (fun h5=>?_))
 ·(try simp only[BN]at h5);have hlt:k<hats.length:=by omega
  obtain⟨h,he,hd⟩:=XF hlt;have hw1:=XB hlt (by omega);have hk1:k+1<=hats.length:=hlt;have htl:(QO vs (hats.take k)).length=k:=by unfold QO;rw[NY,Nt];omega
  have hroom:Qy (k+1) 8:=XC (by omega) (by omega);have cv:=X2E vars true vs hvs h.term (hf h (N3 he))
  have hsn:Xg (QO vs (hats.take (k+1)))=Xg (QO vs (hats.take k))++[[iC (XN (vT vs h.term) h.low h.high)]]:=by
   rw[WN he];simp[QO,Xg]
  obtain⟨nm,lo,hi,⟨o,tn,ks⟩⟩:=h;simp only at cv hsn;obtain⟨A,hA⟩:∃x,vT vs (.mk o tn ks)=x:=⟨_,rfl⟩;have ch:=X4j A lo hi;obtain⟨H,hH⟩:∃x,XN A lo hi=x:=⟨_,rfl⟩;rw[hA,hH]at hsn;rw[hA]at cv;rw[hH]at ch;simp only[aT,Tm.enc,Na,Ng]at cv;clear hlt h5 hd hA hH;refine X0<|X4<|X0<|X2 ?_;refine(Xv [⟨true,.v (li A),none⟩,⟨true,.v (li H),none⟩] (by kernel_rfl) (by kernel_rfl) (by rfl) (by simp[*];first|exact⟨rfl,Iff.rfl⟩|exact⟨rfl,trivial⟩|rfl) ?_ ?_)
  .first|exact⟨cv _,ch _⟩|exact trivial|(repeat' first|exact trivial|exact cv _|exact ch _|apply And.intro)
  refine X2 ?_;exact⟨k+1,hk1,by omega,X5 (fun n=>if n=1005 then 32 else n) []⟩
 (try simp only[BN]at h5);have hkl:k=hats.length:=by omega
 subst hkl;simp only[List.take_length];refine(Xj ?_);refine X1 ?_;exact Xr ⟨.inr rfl,_,XO 1005 rfl,⟨⟨_,by simp;rfl,by simp[Xp]⟩,by simp,fun h=>by cases h⟩⟩
theorem encI_set (l:List Int) (i:Nat) (x:Int):Xg (l.set i x)=(Xg l).set i [iC x]:=by simp[Xg,List.map_set]
theorem set_con (f:Fl) (vs:List Int) (v n:Int) (w:Vr) (hvs:vs.length=f.vars.length) (hl:f.vars.length<=1000000) (h0:0<=v) (hw:f.vars[v.toNat]? =some w) (d:Nat):
  Con prog 117 false [aF f,lI vs,li v,li n] (.v (lI (vs.set v.toNat (XN n w.low w.high)))) none d:=by
 obtain⟨vars,hats,body⟩:=f;simp only at hvs hl hw;have hlt:v.toNat<vars.length:=(N8.1 hw).1;have hroom:Qy vars.length 8:=XC (by omega) (by omega);obtain⟨x,hx⟩:∃x,vs[v.toNat]? =some x:=⟨vs[v.toNat]'(by omega),by simp⟩;have ch:=X4j n w.low w.high;obtain⟨nm,kd,lo,hi,ini⟩:=w;simp only at ch⊢;obtain⟨H,hH⟩:∃x,XN n lo hi=x:=⟨_,rfl⟩;rw[hH]at ch⊢;have hes:=encI_set vs v.toNat H;clear hlt hH;refine X3 Tryz.func117 ?_;simp only[Tryz.f117];simp only[aF,Fl.enc,Na,Ng];refine X1 ?_;refine X1 ?_;refine X0<|(Xv [⟨true,.v (li H),none⟩] (by kernel_rfl) (by kernel_rfl) (by rfl) (by simp[*];first|exact⟨rfl,Iff.rfl⟩|exact⟨rfl,trivial⟩|rfl) ?_ ?_)
 .first|exact ch _|exact trivial|simpa[*]using ch _
 refine X1 ?_;exact Xr ⟨.inr rfl,_,XO 12 rfl,⟨⟨_,by simp;rfl,by simp[Xp,hes]⟩,by simp,fun h=>by cases h⟩⟩
@[simp] theorem encI_app (a b:List Int):Xg (a++b)=Xg a++Xg b:=by simp[Xg]
@[simp] theorem encI_one (x:Int):Xg [x]=[[iC x]]:=rfl
structure Inp where
 s:List Int
 p:List Int
 r:List Int
abbrev aI (i:Inp):TV:=.agg [.c (.sl 1 (Xg i.s)),.c (.sl 1 (Xg i.p)),.c (.sl 1 (Xg i.r))]
structure Pk where
 n:Int
 is_:Bool
 a:Nat
 b:Nat
 c:Nat
def Zc (v:Vr) (i:Inp) (a b c:Nat):Pk:=
 if v.kind=1 then⟨(i.s[a]?).getD 0,decide (a<i.s.length),a+1,b,c⟩
 else if v.kind=2 then⟨(i.p[b]?).getD 0,decide (b<i.p.length),a,b+1,c⟩
 else if v.kind=3 then⟨(i.r[c]?).getD 0,decide (c<i.r.length),a,b,c+1⟩
 else⟨v.init,true,a,b,c⟩
def stL (i:Inp):List Vr->Nat->Nat->Nat->List Int->Bool->List Int×Int
 |[],a,b,c,vals,fits=>if a=i.s.length/\b=i.p.length/\c=i.r.length then(if fits=true then(vals,0)else([],3))else([],1)
 | v::l,a,b,c,vals,fits=>
   if(Zc v i a b c).is_=true then stL i l (Zc v i a b c).a (Zc v i a b c).b (Zc v i a b c).c (vals++[(Zc v i a b c).n]) (fits&&(decide (v.low<=(Zc v i a b c).n)&&decide ((Zc v i a b c).n<=v.high)))
   else([],1)
theorem X9i (vars:List Vr) (i:Inp) (hl:vars.length<=1000000) (d:Nat):Con prog 80 false [lV vars,aI i] (.tup [lI (stL i vars 0 0 0 [] true).1,li (stL i vars 0 0 0 [] true).2]) none d:=by
 obtain⟨res,hres⟩:∃r,stL i vars 0 0 0 [] true=r:=⟨_,rfl⟩;rw[hres];obtain⟨is,ip,ir⟩:=i;refine X3 Tryz.func80 ?_;simp only[Tryz.f80];simp only[aI];refine X1 ?_;refine X1 ?_;refine X1 ?_;refine X1 ?_;refine X0<|X0<|X2 ?_;refine X4<|(Xf [0,3] (fun(x:Nat×Nat×Nat×Nat×List Int×Bool)=>[(6,.v (li x.2.1)),(7,.v (li x.2.2.1)),(8,.v (li x.2.2.2.1)),(9,.v (.one (.own 1009))),(10,.v (lb x.2.2.2.2.2)),(11,.v (li x.1))]) (fun x=>[(3,.box [.c (.sl 1 (Xg is)),.c (.sl 1 (Xg ip)),.c (.sl 1 (Xg ir))]),(1009,.row 3 1 (Xg x.2.2.2.2.1))]) (fun x=>x.1<=vars.length/\stL ⟨is,ip,ir⟩ (vars.drop x.1) x.2.1 x.2.2.1 x.2.2.2.1 x.2.2.2.2.1 x.2.2.2.2.2=res/\x.2.2.2.2.1.length=x.1/\x.2.1<=x.1/\x.2.2.1<=x.1/\x.2.2.2.1<=x.1) (fun x=>vars.length - x.1) (0,0,0,0,[],true) ⟨Nf _,hres,rfl,NG _,NG _,NG _⟩ ?_ ?_)
 .exact X5 (fun n=>if n=1009 then 15 else n) []
 rintro⟨k,a,b,c,vals,fits⟩ ⟨hk,hJ,hvl,ha,hb,hc⟩;simp only[upS,X7,Xy]
 try simp only[X7,KN,Nat.reduceBEq,Nd,Nb,ins,Nat.reduceLT]
 simp only at hk hJ hvl ha hb hc;clear hres;refine X0<|X0<|X2 ?_;refine(X6 rfl (fun h7=>Xc ?_) (fun h7=>?_))
 ·(try simp only[BN]at h7);have hlt:k<vars.length:=by omega
  obtain⟨v,he,hd⟩:=XF hlt;have hw1:=XB hlt (by omega);have hwa:IntKind.i64.wrap ((a:Int)+1)=(a:Int)+1:=X8;have hwb:IntKind.i64.wrap ((b:Int)+1)=(b:Int)+1:=X8;have hwc:IntKind.i64.wrap ((c:Int)+1)=(c:Int)+1:=X8;have hk1:k+1<=vars.length:=hlt;have hroom:Qy (k+1) 8:=XC (by omega) (by omega);rw[hd]at hJ;simp only[stL]at hJ;obtain⟨nm,kd,lo,hi,ini⟩:=v;obtain⟨Q,hQ⟩:∃q,Zc ⟨nm,kd,lo,hi,ini⟩ ⟨is,ip,ir⟩ a b c=q:=⟨_,rfl⟩;rw[hQ]at hJ;unfold Zc at hQ;simp only at hQ;clear hlt h7 hd;refine X0<|X4<|X0<|X2 ?_;refine X1 ?_;refine(Q0 [0,3,9,10,11,12] (fun(z:Pk)=>[(6,.v (li z.a)),(7,.v (li z.b)),(8,.v (li z.c)),(13,.v (li z.n)),(14,.v (lb z.is_))]) (fun(z:Pk)=>[(3,.box [.c (.sl 1 (Xg is)),.c (.sl 1 (Xg ip)),.c (.sl 1 (Xg ir))]),(12,.box [.c (sC nm),.c (iC kd),.c (iC lo),.c (iC hi),.c (iC ini)]),(1009,.row 3 1 (Xg vals))]) (fun(z:Pk)=>z=Q/\z.a<=k+1/\z.b<=k+1/\z.c<=k+1) ?_ ?_)
  ·
   refine X1 ?_;refine X4<|X0<|X2 ?_;refine(X6 rfl (fun h13=>?_) (fun h13=>?_))
   ·(try simp only[BN]at h13);rw[N9 h13]at hQ;refine Xd [⟨true,.tup [li ((is[a]?).getD 0),lb (decide (a<is.length))],none⟩] ?_ ?_
    .first|exact X2v _ _ _|exact trivial|simpa[*]using X2v _ _ _
    refine X2 ?_;exact⟨⟨(is[a]?).getD 0,decide (a<is.length),a+1,b,c⟩,⟨hQ,by simp only;omega,by simp only;omega,by simp only;omega⟩,X5 (fun n=>n) []⟩
   (try simp only[BN]at h13);rw[N6 h13]at hQ;refine X1 ?_;refine(X6 rfl (fun h18=>?_) (fun h18=>?_))
   ·(try simp only[BN]at h18);rw[N9 h18]at hQ;refine Xd [⟨true,.tup [li ((ip[b]?).getD 0),lb (decide (b<ip.length))],none⟩] ?_ ?_
    .first|exact X2v _ _ _|exact trivial|simpa[*]using X2v _ _ _
    refine X2 ?_;exact⟨⟨(ip[b]?).getD 0,decide (b<ip.length),a,b+1,c⟩,⟨hQ,by simp only;omega,by simp only;omega,by simp only;omega⟩,X5 (fun n=>n) []⟩
   (try simp only[BN]at h18);rw[N6 h18]at hQ;refine X1 ?_;refine(X9 rfl (fun h23=>?_) fun h23=>?_)
   ·(try simp only[BN]at h23);rw[N9 h23]at hQ;refine Xd [⟨true,.tup [li ((ir[c]?).getD 0),lb (decide (c<ir.length))],none⟩] ?_ ?_
    .first|exact X2v _ _ _|exact trivial|simpa[*]using X2v _ _ _
    refine X2 ?_;exact⟨⟨(ir[c]?).getD 0,decide (c<ir.length),a,b,c+1⟩,⟨hQ,by simp only;omega,by simp only;omega,by simp only;omega⟩,X5 (fun n=>n) []⟩
   (try simp only[BN]at h23);rw[N6 h23]at hQ;exact⟨⟨ini,true,a,b,c⟩,⟨hQ,by simp only;omega,by simp only;omega,by simp only;omega⟩,X5 (fun n=>n) []⟩
  rintro⟨zn,zi,za,zb,zc⟩ ⟨hz,h1,h2,h3⟩;simp only[upS,X7,Xy]
  try simp only[X7,KN,Nat.reduceBEq,Nd,Nb,ins,Nat.reduceLT]
  clear hQ;subst hz;simp only at h1 h2 h3 hJ;refine X0<|X0<|X2 ?_;refine(X9 rfl (fun h29=>?_) fun h29=>?_)
  ·(try simp only[BN]at h29);rw[N6 (by simp[h29])]at hJ;subst hJ;refine X1 ?_;exact Xr ⟨.inr rfl,_,X2C 4 1 rfl,⟨⟨_,by simp;rfl,by simp[Xp]⟩,by simp,fun h=>by cases h⟩⟩
  (try simp only[BN]at h29);rw[N9 (by simpa using h29)]at hJ;refine X0<|X0<|X2 ?_;refine(X9 rfl (fun h33=>?_) fun h33=>?_)
  .try simp only[BN]at h33
   have hz:(decide (lo<=zn)&&decide (zn<=hi))=false:=by
    simp only[No,Nc];omega
   rw[hz,Bool.and_false]at hJ;refine X2 ?_;refine X2 ?_;refine X2 ?_;exact⟨(k+1,za,zb,zc,vals++[zn],false),⟨hk1,hJ,by simp[hvl],h1,h2,h3⟩,by simp only;omega,X5 (fun n=>if n=1009 then 78 else n) []⟩
  try simp only[BN]at h33
  have hz:(decide (lo<=zn)&&decide (zn<=hi))=true:=by
   simp only[N4,N5];omega
  rw[hz,Bool.and_true]at hJ;refine X2 ?_;refine X2 ?_;exact⟨(k+1,za,zb,zc,vals++[zn],fits),⟨hk1,hJ,by simp[hvl],h1,h2,h3⟩,by simp only;omega,X5 (fun n=>if n=1009 then 78 else n) []⟩
 (try simp only[BN]at h7);have hkl:k=vars.length:=by omega
 rw[hkl,Nq]at hJ;simp only[stL]at hJ;refine(Xj ?_);refine X0<|X0<|X2 ?_;refine(X9 rfl (fun h42=>?_) fun h42=>?_)
 ·(try simp only[BN]at h42);rw[N6 (by omega)]at hJ;subst hJ;refine X1 ?_;exact Xr ⟨.inr rfl,_,X2C 4 1 rfl,⟨⟨_,by simp;rfl,by simp[Xp]⟩,by simp,fun h=>by cases h⟩⟩
 (try simp only[BN]at h42);rw[N9 (by omega)]at hJ;refine X0<|X0<|X2 ?_;refine(X9 rfl (fun h46=>?_) fun h46=>?_)
 ·(try simp only[BN]at h46);rw[N6 (by simp[h46])]at hJ;subst hJ;refine X1 ?_;exact Xr ⟨.inr rfl,_,X2C 4 1 rfl,⟨⟨_,by simp;rfl,by simp[Xp]⟩,by simp,fun h=>by cases h⟩⟩
 (try simp only[BN]at h46);rw[N9 (by simpa using h46)]at hJ;subst hJ;refine X1 ?_;exact Xr ⟨.inr rfl,_,XO 1009 rfl,⟨⟨_,by simp;rfl,by simp[Xp]⟩,by simp,fun h=>by cases h⟩⟩
theorem X4q (t:Tm):t.nodes<=1000000000->∀d:Nat,Con prog 90 true [aT t] (.v (li t.nodes)) none d:=by
 induction t using Tm.ind with
 |h o n ks ih=>
 intro hn d;simp only[Tm.nodes]at hn⊢;have hlen:=W6 ks;obtain⟨res,hres⟩:∃r,Q5 ks=r:=⟨_,rfl⟩;rw[hres]at hn⊢;refine X3 Tryz.func90 ?_;simp only[Tryz.f90];simp only[aT,Tm.enc];refine X1 ?_;refine X1 ?_;refine X0<|X0<|X2 ?_;refine X4<|(Xf [1] (fun(x:Nat×Nat)=>[(3,.v (li ((x.2:Nat):Int))),(4,.v (li x.1))]) (fun x=>[(1,.box [.c (iC o),.c (iC n),.c (.sl 3 (XH ks))])]) (fun x=>x.1<=ks.length/\x.2+Q5 (ks.drop x.1)=1+res) (fun x=>ks.length - x.1) (0,1) ⟨Nf _,by simp[hres]⟩ ?_ ?_)
 .exact X5 (fun n=>n) []
 rintro⟨k,m⟩ ⟨hk,hJ⟩;simp only[upS,X7,Xy]
 try simp only[X7,KN,Nat.reduceBEq,Nd,Nb,ins,Nat.reduceLT]
 simp only at hk hJ;refine X0<|X0<|X2 ?_;refine(X6 rfl (fun h5=>Xc ?_) (fun h5=>?_))
 ·(try simp only[BN]at h5);have hlt:k<ks.length:=by omega
  obtain⟨⟨eo,en,ek⟩,he,hd⟩:=XF hlt;have he':=QP he;simp only[Tm.enc]at he';have hmem:Tm.mk eo en ek∈ks:=N3 he;have hnm:=X00 hmem;have c:=ih _ hmem (by omega);have hw1:=XB hlt (by omega);have hk1:k+1<=ks.length:=hlt;rw[hd]at hJ;simp only[Q5]at hJ;generalize Tm.nodes (.mk eo en ek)=q at*;have hw2:IntKind.i64.wrap ((m:Int)+(q:Int))=(m:Int)+(q:Int):=X8;clear hlt h5 ih hmem;refine X0<|X4<|(Xl [⟨true,.v (li (q:Int)),none⟩] ?_ ?_)
  .first|exact c _|exact trivial|simpa[*]using c _
  refine X2 ?_;exact⟨(k+1,m+q),⟨hk1,by simp only;omega⟩,by simp only;omega,X5 (fun n=>n) []⟩
 (try simp only[BN]at h5);have hkl:k=ks.length:=by omega
 rw[hkl,Nq]at hJ;simp only[Q5]at hJ;have hm:(m:Int)=1+(res:Int):=by omega
 refine(Xj ?_);refine X1 ?_;exact Xb
theorem X9h (l:List St):Xh l<=1000000000->∀d:Nat,Con prog 127 true [lS l] (.v (li (Xh l))) none d:=by
 revert l
 apply St.lists;intro l ih hn d;have hlen:=XW l;obtain⟨res,hres⟩:∃r,Xh l=r:=⟨_,rfl⟩;rw[hres];refine X3 Tryz.func127 ?_;simp only[Tryz.f127];refine X1 ?_;refine X1 ?_;refine X0<|X0<|X2 ?_;refine X4<|(Xf [0] (fun(x:Nat×Nat)=>[(3,.v (li ((x.2:Nat):Int))),(4,.v (li x.1))]) (fun x=>[]) (fun x=>x.1<=l.length/\x.2+Xh (l.drop x.1)=res) (fun x=>l.length - x.1) (0,0) ⟨Nf _,by simp[hres]⟩ ?_ ?_)
 .exact X5 (fun n=>n) []
 rintro⟨k,m⟩ ⟨hk,hJ⟩;simp only[upS,X7,Xy]
 try simp only[X7,KN,Nat.reduceBEq,Nd,Nb,ins,Nat.reduceLT]
 simp only at hk hJ;refine X0<|X0<|X2 ?_;refine(X6 rfl (fun h5=>Xc ?_) (fun h5=>?_))
 ·(try simp only[BN]at h5);have hlt:k<l.length:=by omega
  obtain⟨s,he,hd⟩:=XF hlt;have hmem:s∈l:=N3 he;have hnm:=Qe hmem;have iha:=fun h=>(ih s hmem).1 h;have ihb:=fun h=>(ih s hmem).2 h;have hw1:=XB hlt (by omega);have hk1:k+1<=l.length:=hlt;have ct:=X4q s.term;rw[hd]at hJ;obtain⟨sd,sc,sv,sn,⟨so,stn,sks⟩,sa,sb,sbs⟩:=s;simp only[St.then_,St.else_,St.term]at iha ihb hnm ct;simp only[Xh,St.nodes]at hJ;have ca:=iha (by omega);have cb:=ihb (by omega);have ct:=ct (by omega);have he':=Qo he;simp only[St.enc,Tm.enc,List.cons_append,List.nil_append]at he';generalize Tm.nodes (.mk so stn sks)=q at*;generalize Xh sa=na at*;generalize Xh sb=nb at*;have hw2:IntKind.i64.wrap ((m:Int)+1)=(m:Int)+1:=X8;have hw3:IntKind.i64.wrap ((m:Int)+1+(q:Int))=(m:Int)+1+(q:Int):=X8;have hw4:IntKind.i64.wrap ((m:Int)+1+(q:Int)+(na:Int))=(m:Int)+1+(q:Int)+(na:Int):=X8;have hw5:IntKind.i64.wrap ((m:Int)+1+(q:Int)+(na:Int)+(nb:Int))=(m:Int)+1+(q:Int)+(na:Int)+(nb:Int):=X8;clear hlt h5 ih hmem iha ihb;refine X0<|X4<|(Xv [⟨true,.v (li (q:Int)),none⟩,⟨true,.v (li (na:Int)),none⟩,⟨true,.v (li (nb:Int)),none⟩] (by kernel_rfl) (by kernel_rfl) (by rfl) (by simp[*];first|exact⟨rfl,Iff.rfl⟩|exact⟨rfl,trivial⟩|rfl) ?_ ?_)
  .first|exact⟨ct _,ca _,cb _⟩|exact trivial|(repeat' first|exact trivial|exact ct _|exact ca _|exact cb _|apply And.intro)
  refine X2 ?_;exact⟨(k+1,m+1+q+na+nb),⟨hk1,by simp only;omega⟩,by simp only;omega,X5 (fun n=>n) []⟩
 (try simp only[BN]at h5);have hkl:k=l.length:=by omega
 rw[hkl,Nq]at hJ;simp only[Xh]at hJ;have hm:m=res:=by omega
 refine(Xj ?_);refine X1 ?_;exact Xb
mutual
def tdT:Tm->Nat
 | .mk _ _ ks=>X31 ks+1
def X31:List Tm->Nat
 |[]=>0
 |t::l=>max (tdT t) (X31 l)
end
mutual
theorem td_le:∀t:Tm,tdT t<=t.nodes
 | .mk o n ks=>by have:=X83 ks;simp only[tdT,Tm.nodes];omega
theorem X83:∀l:List Tm,X31 l<=Q5 l
 |[]=>by simp[X31]
 |t::l=>by have:=td_le t;have:=X83 l;simp only[X31,Q5];omega
end
theorem X3V (t:Tm):t.nodes<=1000000000->∀d:Nat,Con prog 128 true [aT t] (.v (li (tdT t))) none d:=by
 induction t using Tm.ind with
 |h o n ks ih=>
 intro hn d;simp only[Tm.nodes]at hn;simp only[tdT];have hlen:=W6 ks;have htl:=X83 ks;obtain⟨res,hres⟩:∃r,X31 ks=r:=⟨_,rfl⟩;rw[hres]at htl⊢;refine X3 Tryz.func128 ?_;simp only[Tryz.f128];simp only[aT,Tm.enc];refine X1 ?_;refine X1 ?_;refine X0<|X0<|X2 ?_;refine X4<|(Xf [1] (fun(x:Nat×Nat)=>[(3,.v (li ((x.2:Nat):Int))),(4,.v (li x.1))]) (fun x=>[(1,.box [.c (iC o),.c (iC n),.c (.sl 3 (XH ks))])]) (fun x=>x.1<=ks.length/\max x.2 (X31 (ks.drop x.1))=res) (fun x=>ks.length - x.1) (0,0) ⟨Nf _,by simp[hres]⟩ ?_ ?_)
 .exact X5 (fun n=>n) []
 rintro⟨k,m⟩ ⟨hk,hJ⟩;simp only[upS,X7,Xy]
 try simp only[X7,KN,Nat.reduceBEq,Nd,Nb,ins,Nat.reduceLT]
 simp only at hk hJ;refine X0<|X0<|X2 ?_;refine(X6 rfl (fun h5=>Xc ?_) (fun h5=>?_))
 ·(try simp only[BN]at h5);have hlt:k<ks.length:=by omega
  obtain⟨⟨eo,en,ek⟩,he,hd⟩:=XF hlt;have he':=QP he;simp only[Tm.enc]at he';have hmem:Tm.mk eo en ek∈ks:=N3 he;have hnm:=X00 hmem;have c:=ih _ hmem (by omega);have hw1:=XB hlt (by omega);have hk1:k+1<=ks.length:=hlt;rw[hd]at hJ;simp only[X31]at hJ;generalize tdT (.mk eo en ek)=q at*;clear hlt h5 ih hmem;refine X0<|X4<|X0<|(Xl [⟨true,.v (li (q:Int)),none⟩] ?_ ?_)
  .first|exact c _|exact trivial|simpa[*]using c _
  refine X1 ?_;refine(X9 rfl (fun h8=>?_) fun h8=>?_)
  ·(try simp only[BN]at h8);refine X2 ?_;refine X2 ?_;exact⟨(k+1,q),⟨hk1,by simp only;omega⟩,by simp only;omega,X5 (fun n=>n) []⟩
  (try simp only[BN]at h8);refine X2 ?_;exact⟨(k+1,m),⟨hk1,by simp only;omega⟩,by simp only;omega,X5 (fun n=>n) []⟩
 (try simp only[BN]at h5);have hkl:k=ks.length:=by omega
 rw[hkl,Nq]at hJ;simp only[X31]at hJ;have hm:m=res:=by omega
 subst hm;have hw:IntKind.i64.wrap ((m:Int)+1)=(m:Int)+1:=X8;refine(Xj ?_);refine X1 ?_;exact Xb
def sdL:List St->Nat
 |[]=>0
 | .mk _ _ _ _ _ a b _::l=>max (max (sdL a+1) (sdL b+1)) (sdL l)
theorem X6f:∀l:List St,sdL l<=Xh l
 |[]=>by simp[sdL]
 | .mk _ _ _ _ t a b _::l=>by have:=X6f a;have:=X6f b;have:=X6f l;have:=X2Y t;simp only[sdL,Xh,St.nodes];omega
theorem X80 (l:List St):Xh l<=1000000000->∀d:Nat,Con prog 129 true [lS l] (.v (li (sdL l))) none d:=by
 revert l
 apply St.lists;intro l ih hn d;have hlen:=XW l;obtain⟨res,hres⟩:∃r,sdL l=r:=⟨_,rfl⟩;rw[hres];refine X3 Tryz.func129 ?_;simp only[Tryz.f129];refine X1 ?_;refine X1 ?_;refine X0<|X0<|X2 ?_;refine X4<|(Xf [0] (fun(x:Nat×Nat)=>[(3,.v (li ((x.2:Nat):Int))),(4,.v (li x.1))]) (fun x=>[]) (fun x=>x.1<=l.length/\max x.2 (sdL (l.drop x.1))=res) (fun x=>l.length - x.1) (0,0) ⟨Nf _,by simp[hres]⟩ ?_ ?_)
 .exact X5 (fun n=>n) []
 rintro⟨k,m⟩ ⟨hk,hJ⟩;simp only[upS,X7,Xy]
 try simp only[X7,KN,Nat.reduceBEq,Nd,Nb,ins,Nat.reduceLT]
 simp only at hk hJ;refine X0<|X0<|X2 ?_;refine(X6 rfl (fun h5=>Xc ?_) (fun h5=>?_))
 ·(try simp only[BN]at h5);have hlt:k<l.length:=by omega
  obtain⟨s,he,hd⟩:=XF hlt;have hmem:s∈l:=N3 he;have hnm:=Qe hmem;have iha:=fun h=>(ih s hmem).1 h;have ihb:=fun h=>(ih s hmem).2 h;have hw1:=XB hlt (by omega);have hk1:k+1<=l.length:=hlt;rw[hd]at hJ;obtain⟨sd,sc,sv,sn,⟨so,stn,sks⟩,sa,sb,sbs⟩:=s;simp only[St.then_,St.else_,St.term]at iha ihb hnm;simp only[sdL]at hJ;have ca:=iha (by omega);have cb:=ihb (by omega);have ha:=X6f sa;have hb:=X6f sb;have he':=Qo he;simp only[St.enc,Tm.enc,List.cons_append,List.nil_append]at he';generalize sdL sa=na at*;generalize sdL sb=nb at*;have hw2:IntKind.i64.wrap ((na:Int)+1)=(na:Int)+1:=X8;have hw3:IntKind.i64.wrap ((nb:Int)+1)=(nb:Int)+1:=X8;clear hlt h5 ih hmem iha ihb;refine X0<|X4<|X0<|(Xl [⟨true,.v (li (na:Int)),none⟩] ?_ ?_)
  .first|exact ca _|exact trivial|simpa[*]using ca _
  refine Xd [⟨true,.v (li (nb:Int)),none⟩] ?_ ?_
  .first|exact cb _|exact trivial|simpa[*]using cb _
  refine(Q0 [0,4,6] (fun(z:Nat)=>[(3,.v (li (z:Int)))]) (fun(z:Nat)=>[]) (fun(z:Nat)=>z=max m (na+1)) ?_ ?_)
  ·
   refine X1 ?_;refine(X9 rfl (fun h10=>?_) fun h10=>?_)
   ·(try simp only[BN]at h10);have hz:max m (na+1)=na+1:=by omega
    refine X2 ?_;exact⟨na+1,hz.symm,X5 (fun n=>n) []⟩
   (try simp only[BN]at h10);have hz:max m (na+1)=m:=by omega
   exact⟨m,hz.symm,X5 (fun n=>n) []⟩
  rintro z hz;simp only[upS,X7,Xy]
  try simp only[X7,KN,Nat.reduceBEq,Nd,Nb,ins,Nat.reduceLT]
  refine X1 ?_;refine(X9 rfl (fun h15=>?_) fun h15=>?_)
  ·(try simp only[BN]at h15);refine X2 ?_;refine X2 ?_;exact⟨(k+1,nb+1),⟨hk1,by simp only;omega⟩,by simp only;omega,X5 (fun n=>n) []⟩
  (try simp only[BN]at h15);refine X2 ?_;exact⟨(k+1,z),⟨hk1,by simp only;omega⟩,by simp only;omega,X5 (fun n=>n) []⟩
 (try simp only[BN]at h5);have hkl:k=l.length:=by omega
 rw[hkl,Nq]at hJ;simp only[sdL]at hJ;have hm:m=res:=by omega
 refine(Xj ?_);refine X1 ?_;exact Xb
def QM:List St->Bool
 |[]=>false
 | .mk _ _ _ _ t a b _::l=>((decide (12<tdT t)||QM a)||QM b)||QM l
theorem X9J (l:List St):Xh l<=1000000000->∀d:Nat,Con prog 130 true [lS l] (.v (lb (QM l))) none d:=by
 revert l
 apply St.lists;intro l ih hn d;have hlen:=XW l;obtain⟨res,hres⟩:∃r,QM l=r:=⟨_,rfl⟩;rw[hres];refine X3 Tryz.func130 ?_;simp only[Tryz.f130];refine X1 ?_;refine X0<|X0<|X2 ?_;refine X4<|(Xf [0] (fun(x:Nat)=>[(3,.v (li x))]) (fun x=>[]) (fun x=>x<=l.length/\QM (l.drop x)=res) (fun x=>l.length - x) (0:Nat) ⟨Nf _,hres⟩ ?_ ?_)
 .exact X5 (fun n=>n) []
 rintro k ⟨hk,hJ⟩;simp only[upS,X7,Xy]
 try simp only[X7,KN,Nat.reduceBEq,Nd,Nb,ins,Nat.reduceLT]
 refine X0<|X0<|X2 ?_;refine(X6 rfl (fun h4=>Xc ?_) (fun h4=>?_))
 ·(try simp only[BN]at h4);have hlt:k<l.length:=by omega
  obtain⟨s,he,hd⟩:=XF hlt;have hmem:s∈l:=N3 he;have hnm:=Qe hmem;have iha:=fun h=>(ih s hmem).1 h;have ihb:=fun h=>(ih s hmem).2 h;have hw1:=XB hlt (by omega);have hk1:k+1<=l.length:=hlt;have ct:=X3V s.term;rw[hd]at hJ;obtain⟨sd,sc,sv,sn,⟨so,stn,sks⟩,sa,sb,sbs⟩:=s;simp only[St.then_,St.else_,St.term]at iha ihb hnm ct;simp only[QM]at hJ;have ca:=iha (by omega);have cb:=ihb (by omega);have ct:=ct (by omega);have he':=Qo he;simp only[St.enc,Tm.enc,List.cons_append,List.nil_append]at he';generalize tdT (.mk so stn sks)=q at*;generalize QM sa=na at*;generalize QM sb=nb at*;clear hlt h4 ih hmem iha ihb;refine X0<|X4<|X0<|(Xl [⟨true,.v (li (q:Int)),none⟩,⟨true,.v (lb na),none⟩,⟨true,.v (lb nb),none⟩] ?_ ?_)
  .first|exact⟨ct _,ca _,cb _⟩|exact trivial|(repeat' first|exact trivial|exact ct _|exact ca _|exact cb _|apply And.intro)
  refine(X9 rfl (fun h6=>?_) fun h6=>?_)
  .try simp only[BN]at h6
   have hz:res=true:=by
    rw[<-hJ];simp only[Ni,N5];rcases h6 with(h|h)|h
    .exact .inl (.inl (.inl (by omega)))
    .exact .inl (.inl (.inr h))
    exact .inl (.inr h)
   refine X1 ?_;exact Xb
  try simp only[BN]at h6
  have hz:QM (l.drop (k+1))=res:=by
   rw[<-hJ];have h12:decide (12<q)=false:=decide_eq_false (by omega);rw[h12,h6.1.2,h6.2];rfl
  clear hJ;refine X2 ?_;exact⟨k+1,⟨hk1,hz⟩,by omega,X5 (fun n=>n) []⟩
 (try simp only[BN]at h4);have hkl:k=l.length:=by omega
 rw[hkl,Nq]at hJ;simp only[QM]at hJ;subst hJ;refine(Xj ?_);refine X1 ?_;exact Xb
def mSs:List St->Int->Int×Bool->Int×Bool
 |[],_,s=>s
 | .mk _ _ _ _ t a b _::l,dep,s=>
   if((s.2||decide (12<dep))||decide (1024<s.1+1))=true then(s.1+1,s.2||decide (12<dep))
   else mSs l dep (mSs b (dep+1) (mSs a (dep+1) (mTm t 1 (s.1+1,s.2||decide (12<dep)))))
theorem Zq:∀(l:List St) (dep:Int) (s:Int×Bool),s.1<=(mSs l dep s).1/\(mSs l dep s).1<=s.1+Xh l
 |[],dep,s=>by simp[mSs,Xh]
 | .mk d c v n t a b bs::l,dep,s=>by
   simp only[mSs,Xh,St.nodes];have h1:=X0j t 1 (s.1+1,s.2||decide (12<dep));have h2:=Zq a (dep+1) (mTm t 1 (s.1+1,s.2||decide (12<dep)));have h3:=Zq b (dep+1) (mSs a (dep+1) (mTm t 1 (s.1+1,s.2||decide (12<dep))));have h4:=Zq l dep (mSs b (dep+1) (mSs a (dep+1) (mTm t 1 (s.1+1,s.2||decide (12<dep)))));split
   .simp only;omega
   simp only at h1;omega
theorem X7C (l:List St):∀(dep c:Int) (b:Bool),0<=dep->0<=c->c+Xh l<=1000000000->
  X6r prog 66 [iC c,bC b] [lS l,li dep] (.tup []) [iC (mSs l dep (c,b)).1,bC (mSs l dep (c,b)).2]:=by
 revert l
 apply St.lists;intro l ih dep c b hdep hc hn;have hlen:=XW l;obtain⟨res,hres⟩:∃r,mSs l dep (c,b)=r:=⟨_,rfl⟩;rw[hres];refine X2r Tryz.func66 rfl (by kernel_rfl) (Dj rfl) ?_;simp only[Tryz.f66];refine X1 ?_;refine X4<|(Xf [0,2,8,9] (fun(x:Nat×Int×Bool)=>[(10,.v (li x.1))]) (fun x=>[(1000000,.box [.c (iC x.2.1),.c (bC x.2.2)])]) (fun x=>x.1<=l.length/\mSs (l.drop x.1) dep x.2=res/\0<=x.2.1/\x.2.1+Xh (l.drop x.1)<=1000000000) (fun x=>l.length - x.1) (0,c,b) ⟨Nf _,hres,hc,by simpa using hn⟩ ?_ ?_)
 .exact X5 (fun n=>n) []
 rintro⟨k,m,q⟩ ⟨hk,hJ,hm,hb⟩;simp only[upS,X7,Xy]
 try simp only[X7,KN,Nat.reduceBEq,Nd,Nb,ins,Nat.reduceLT]
 simp only at hk hJ hm hb;clear hres;refine X1 ?_;refine X0<|(X6 rfl (fun h3=>Xc ?_) (fun h3=>?_))
 ·(try simp only[BN]at h3);have hlt:k<l.length:=by omega
  obtain⟨s,he,hd⟩:=XF hlt;have hmem:s∈l:=N3 he;have iha:=(ih s hmem).1;have ihb:=(ih s hmem).2;have hw1:=XB hlt (by omega);have hk1:k+1<=l.length:=hlt;rw[hd]at hJ hb;obtain⟨sd,sc,sv,sn,⟨so,stn,sks⟩,sa,sb,sbs⟩:=s;simp only[St.then_,St.else_]at iha ihb;simp only[mSs]at hJ;simp only[Xh,St.nodes]at hb;have he':=Qo he;simp only[St.enc,Tm.enc,List.cons_append,List.nil_append]at he';have hw2:IntKind.i64.wrap (m+1)=m+1:=X8;clear hlt h3 ih hmem hd he;refine X0<|X4<|X0<|X2 ?_;refine X1 ?_;refine X1 ?_;refine X0<|X0<|(Xl [⟨true,.v (lb ((q||decide (12<dep))||decide (1024<m+1))),none⟩] ?_ ?_)
  .first|exact Wr _ _ _|exact trivial|simpa[*]using Wr _ _ _
  refine(X9 rfl (fun h8=>?_) fun h8=>?_)
  ·(try simp only[BN]at h8);rw[N9 (by simpa using h8)]at hJ;subst hJ;exact Xr (⟨.inr rfl,_,le_refl _,⟨_,by simp[*];rfl,by simp[Xp]⟩,by simp[*]⟩)
  (try simp only[BN]at h8);rw[N6 (by simpa using h8)]at hJ;have hq0:q=false:=h8.1.1;have hdep2:dep<=12:=by omega
  have hwd:IntKind.i64.wrap (dep+1)=dep+1:=X8;have hqd:(q||decide (12<dep))=false:=by rw[hq0];simp;omega
  rw[hqd]at hJ;have e1:=X0j (.mk so stn sks) 1 (m+1,false);obtain⟨p1,hp1⟩:∃p,mTm (.mk so stn sks) 1 (m+1,false)=p:=⟨_,rfl⟩;have cio1:=X4G (.mk so stn sks) 1 (m+1) false (by omega) (by omega) (by omega);rw[hp1]at cio1 e1 hJ;obtain⟨c1,b1⟩:=p1;simp only at cio1 e1;have e2:=Zq sa (dep+1) (c1,b1);have cio2:=iha (dep+1) c1 b1 (by omega) (by omega) (by omega);obtain⟨p2,hp2⟩:∃p,mSs sa (dep+1) (c1,b1)=p:=⟨_,rfl⟩;rw[hp2]at cio2 e2 hJ;obtain⟨c2,b2⟩:=p2;simp only at cio2 e2;have e3:=Zq sb (dep+1) (c2,b2);have cio3:=ihb (dep+1) c2 b2 (by omega) (by omega) (by omega);obtain⟨p3,hp3⟩:∃p,mSs sb (dep+1) (c2,b2)=p:=⟨_,rfl⟩;rw[hp3]at cio3 e3 hJ;obtain⟨c3,b3⟩:=p3;simp only at cio3 e3;clear iha ihb hp1 hp2 hp3 h8 hqd;refine X0<|(ZW 3 (.tup []) ([iC c1,bC b1]) rfl (by simp[*];rfl) (by simp[ioOf, *];first|exact⟨rfl,rfl,rfl,rfl,rfl⟩|exact⟨rfl,rfl,rfl,rfl⟩|exact⟨rfl,rfl,rfl⟩|exact⟨rfl,rfl⟩|rfl) (cio1) (by simp) (by simp[*];rfl) ?_);refine X0<|(ZW 5 (.tup []) ([iC c2,bC b2]) rfl (by simp[*];rfl) (by simp[ioOf, *];first|exact⟨rfl,rfl,rfl,rfl,rfl⟩|exact⟨rfl,rfl,rfl,rfl⟩|exact⟨rfl,rfl,rfl⟩|exact⟨rfl,rfl⟩|rfl) (cio2) (by simp) (by simp[*];rfl) ?_);refine(ZW 5 (.tup []) ([iC c3,bC b3]) rfl (by simp[*];rfl) (by simp[ioOf, *];first|exact⟨rfl,rfl,rfl,rfl,rfl⟩|exact⟨rfl,rfl,rfl,rfl⟩|exact⟨rfl,rfl,rfl⟩|exact⟨rfl,rfl⟩|rfl) (cio3) (by simp) (by simp[*];rfl) ?_);refine X2 ?_;exact⟨(k+1,c3,b3),⟨hk1,hJ,by simp only;omega,by simp only;omega⟩,by simp only;omega,X5 (fun n=>n) []⟩
 (try simp only[BN]at h3);have hkl:k=l.length:=by omega
 subst hkl;rw[Nq]at hJ;simp only[mSs]at hJ;subst hJ;refine(Xj ?_);exact(⟨.inl rfl,_,le_refl _,⟨_,by simp[*];rfl,by simp[Xp]⟩,by simp[*]⟩)
def QF (s:Int×Bool):Bool:=s.2||decide (1024<s.1)
theorem X2Z {s:Int×Bool} (h:QF s=false):s.2=false/\s.1<=1024:=by
 simp only[QF,NC,Nc]at h;exact⟨h.1,by omega⟩
mutual
theorem mTm_over:∀(t:Tm) (dep:Int) (s:Int×Bool),0<=s.1->QF s=true->QF (mTm t dep s)=true
 | .mk o n ks,dep,s,h0,h=>by
   have h1:QF (s.1+1,s.2||decide (12<dep))=true:=by
    simp only[QF,Ni,N5]at h⊢;rcases h with h|h
    .exact .inl (.inl h)
    exact .inr (by omega)
   simp only[mTm];split
   .exact h1
   exact X2L ks (dep+1) _ (by simp only;omega) h1
theorem X2L:∀(l:List Tm) (dep:Int) (s:Int×Bool),0<=s.1->QF s=true->QF (X1P l dep s)=true
 |[],dep,s,_,h=>h
 |t::l,dep,s,h0,h=>X2L l dep _ (Int.le_trans h0 (X0j t dep s).1) (mTm_over t dep s h0 h)
end
mutual
theorem X5r:∀(t:Tm) (dep:Int) (s:Int×Bool),0<=s.1->dep<=13->QF s=false->
  (s.1+t.nodes<=1024/\dep+tdT t<=13->mTm t dep s=(s.1+t.nodes,false))/\(¬(s.1+t.nodes<=1024/\dep+tdT t<=13)->QF (mTm t dep s)=true)
 | .mk o n ks,dep,s,h0,hd,h=>by
   obtain⟨h1,h2⟩:=X2Z h;simp only[mTm,Tm.nodes,tdT,h1,Bool.false_or];by_cases hc:(decide (12<dep)||decide (1024<s.1+1))=true
   .rw[N9 hc];simp only[Ni,N5]at hc;refine⟨fun hf=>by omega,fun _=>?_⟩;simp only[QF,Ni,N5];omega
   rw[N6 hc];simp only[Ni,N5,not_or]at hc;have hdd:decide (12<dep)=false:=decide_eq_false hc.1;rw[hdd];have hov:QF (s.1+1,false)=false:=by simp only[QF,Bool.false_or,Nc];omega
   have:=X6p ks (dep+1) (s.1+1,false) (by simp only;omega) (by omega) hov;simp only at this;refine⟨fun hf=>?_,fun hf=>this.2 (by omega)⟩;rw[this.1 (by omega)];simp only[Prod.mk.injEq,and_true];omega
theorem X6p:∀(l:List Tm) (dep:Int) (s:Int×Bool),0<=s.1->dep<=13->QF s=false->
  (s.1+Q5 l<=1024/\dep+X31 l<=13->X1P l dep s=(s.1+Q5 l,false))/\(¬(s.1+Q5 l<=1024/\dep+X31 l<=13)->QF (X1P l dep s)=true)
 | [],dep,s,h0,hd,h=>by
   obtain⟨h1,h2⟩:=X2Z h;obtain⟨c,b⟩:=s;simp only at h1 h2;subst h1;simp only[X1P,Q5,X31];refine⟨fun _=>by simp,fun hf=>by omega⟩
 | t ::l,dep,s,h0,hd,h=>by
   simp only[X1P,Q5,X31];have ht:=X5r t dep s h0 hd h;by_cases hf:s.1+t.nodes<=1024/\dep+tdT t<=13
   .rw[ht.1 hf];have hov:QF (s.1+t.nodes,false)=false:=by simp only[QF,Bool.false_or,Nc];omega
    have hl:=X6p l dep (s.1+t.nodes,false) (by simp only;omega) hd hov;simp only at hl;refine⟨fun h2=>?_,fun h2=>hl.2 (by omega)⟩;rw[hl.1 (by omega)];simp only[Prod.mk.injEq,and_true];omega
   refine⟨fun h2=>by omega,fun _=>X2L l dep _ (Int.le_trans h0 (X0j t dep s).1) (ht.2 hf)⟩
end
theorem ZT:∀(l:List St) (dep:Int) (s:Int×Bool),0<=s.1->QF s=true->QF (mSs l dep s)=true
 |[],dep,s,_,h=>by simp only[mSs];exact h
 | .mk d c v n t a b bs::l,dep,s,h0,h=>by
   have h1:QF (s.1+1,s.2||decide (12<dep))=true:=by
    simp only[QF,Ni,N5]at h⊢;rcases h with h|h
    .exact .inl (.inl h)
    exact .inr (by omega)
   simp only[mSs];split
   .exact h1
   rename_i hc;exact absurd h1 hc
theorem X3x:∀(l:List St) (dep:Int) (s:Int×Bool),0<=s.1->dep<=13->QF s=false->
  (s.1+Xh l<=1024/\dep+sdL l<=13/\QM l=false->mSs l dep s=(s.1+Xh l,false))/\(¬(s.1+Xh l<=1024/\dep+sdL l<=13/\QM l=false)->QF (mSs l dep s)=true)
 | [],dep,s,h0,hd,h=>by
   obtain⟨h1,h2⟩:=X2Z h;obtain⟨c,b⟩:=s;simp only at h1 h2;subst h1;simp only[mSs,Xh,sdL,QM];refine⟨fun _=>by simp,fun hf=>absurd ⟨by omega,by omega,trivial⟩ hf⟩
 | .mk d c v n t a b bs::l,dep,s,h0,hd,h=>by
   obtain⟨h1,h2⟩:=X2Z h;simp only[mSs,Xh,St.nodes,sdL,QM,h1,Bool.false_or,NC,Nc];by_cases hc:(decide (12<dep)||decide (1024<s.1+1))=true
   .rw[N9 hc];simp only[Ni,N5]at hc;refine⟨fun hf=>by omega,fun _=>?_⟩;simp only[QF,Ni,N5];omega
   rw[N6 hc];simp only[Ni,N5,not_or]at hc;have hdd:decide (12<dep)=false:=decide_eq_false hc.1;rw[hdd]
   have ov:∀x:Int,x<=1024->QF (x,false)=false:=by
    intro x hx;simp only[QF,Bool.false_or,Nc];omega
   have ht:=X5r t 1 (s.1+1,false) (by simp only;omega) (by omega) (ov _ (by omega));have g1:=(X0j t 1 (s.1+1,false)).1;have g2:=(Zq a (dep+1) (mTm t 1 (s.1+1,false))).1;have g3:=(Zq b (dep+1) (mSs a (dep+1) (mTm t 1 (s.1+1,false)))).1;simp only at ht g1;by_cases f1:s.1+1+t.nodes<=1024/\1+(tdT t:Int)<=13
   .rw[ht.1 f1];have ha:=X3x a (dep+1) (s.1+1+t.nodes,false) (by simp only;omega) (by omega) (ov _ (by omega));simp only at ha;by_cases f2:s.1+1+t.nodes+Xh a<=1024/\dep+1+sdL a<=13/\QM a=false
    .rw[ha.1 f2];have hb:=X3x b (dep+1) (s.1+1+t.nodes+Xh a,false) (by simp only;omega) (by omega) (ov _ (by omega));simp only at hb;by_cases f3:s.1+1+t.nodes+Xh a+Xh b<=1024/\dep+1+sdL b<=13/\QM b=false
     .rw[hb.1 f3];have hl:=X3x l dep (s.1+1+t.nodes+Xh a+Xh b,false) (by simp only;omega) hd (ov _ (by omega));simp only at hl;refine⟨fun hf=>?_,fun hf=>hl.2 fun h4=>hf ⟨by omega,by omega,⟨⟨by omega,f2.2.2⟩,f3.2.2⟩,h4.2.2⟩⟩;rw[hl.1 ⟨by omega,by omega,hf.2.2.2⟩];simp only[Prod.mk.injEq,and_true];omega
     refine⟨fun hf=>absurd ⟨by omega,by omega,hf.2.2.1.2⟩ f3,fun _=>ZT l dep _ ?_ (hb.2 f3)⟩;have:=(Zq b (dep+1) (s.1+1+t.nodes+Xh a,false)).1;simp only at this;omega
    refine⟨fun hf=>absurd ⟨by omega,by omega,hf.2.2.1.1.2⟩ f2,fun _=>?_⟩;have q1:=(Zq a (dep+1) (s.1+1+t.nodes,false)).1;have q2:=(Zq b (dep+1) (mSs a (dep+1) (s.1+1+t.nodes,false))).1;simp only at q1;exact ZT l dep _ (by omega) (ZT b (dep+1) _ (by omega) (ha.2 f2))
   refine⟨fun hf=>absurd ⟨by omega,by omega⟩ f1,fun _=>?_⟩;exact ZT l dep _ (by omega) (ZT b (dep+1) _ (by omega) (ZT a (dep+1) _ (by omega) (ht.2 f1)))
end Go.Proofs.YtdccocolnaklkaaGreatDoor
