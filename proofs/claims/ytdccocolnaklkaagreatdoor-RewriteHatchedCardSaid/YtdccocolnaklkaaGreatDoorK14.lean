/- Contracts of functions and plain facts about what they compute. Conditions: as each theorem states. -/
import Derived.Test.YtdccocolnaklkaaGreatDoorK13
set_option linter.unusedSimpArgs false
set_option linter.unusedVariables false
set_option linter.unnecessarySimpa false
set_option maxRecDepth 100000
set_option maxHeartbeats 2000000
namespace Go.Hl
open Go Go.RowKit
theorem X2U.nil {P:Program} {f:FuncId} {n:Nat} {e:TypeId} {s:Nat} {t:TV} {r:RV} {objs':List (Nat×Ob)} (hs:0<s) (ht:∀m,¬t.men m) (h:X2U P f [(n,.row e s [])] [t,.one (.own n)] r objs'):X2U P f [] [t,.one (.c (.lit XR))] r objs':=by
 refine⟨h.1,fun F T w vs hh hsz hargs=>?_⟩;obtain⟨γ1,hγ⟩:∃γ1:Nat->Value,γ1=fun m=>if m=n then XR else T m:=⟨_,rfl⟩;have hγn:γ1 n=XR:=by rw[hγ];simp
 have hno:∀b,¬X0Q γ1 [(n,.row e s [])] b:=by
  rintro b ⟨m,o,hl,hb⟩
  have hm:m=n:=by
   simp only[lkp]at hl;split at hl
   .rename_i e;exact e.symm
   cases hl
  rw[hm,hγn]at hb;cases hb
 have hno2:∀b,¬X0Q T [] b:=by
  rintro b ⟨m,o,hl,hb⟩;cases hl
 have hB:ownB γ1 [(n,.row e s [])] w=ownB T [] w:=by
  funext b
  exact propext ⟨fun h=>⟨h.1,hno2 b⟩,fun h=>⟨h.1,hno b⟩⟩
 have hl1:∀m o,lkp [(n,Ob.row e s [])] m=some o->m=n/\o=.row e s []:=by
  intro m o hl;simp only[lkp]at hl;split at hl
  .rename_i e;cases hl;exact⟨e.symm,rfl⟩
  cases hl
 have hh1:HeapRel w (ownB γ1 [(n,.row e s [])] w) (fun _=>none) F γ1 [(n,.row e s [])] w:={
  below:=Kept.refl _ _
  hB:=fun b hb=>hb.1
  fsz:=hh.fsz
  ob:=fun m o hl=>by
   obtain⟨rfl,rfl⟩:=hl1 m o hl;rw[hγn];exact⟨hs,by simp,[],Qu.nil _ _ _ _,by simp,fun i j d hd=>by simp[XV]at hd⟩
  apart:=fun m o hl b hb=>by
   obtain⟨rfl,rfl⟩:=hl1 m o hl;rw[hγn]at hb;cases hb
  sep:=fun m k om ok hm hk hne=>by
   obtain⟨rfl,_⟩:=hl1 m om hm;obtain⟨rfl,_⟩:=hl1 k ok hk;exact absurd rfl hne
  pin:=fun m v hv=>by cases hv}
 have:=h.2 F γ1 w vs hh1 (by simpa using hsz) fun j t' u ht' hu=>by
  match j,ht' with
  | 0,ht'=>
    cases ht';exact XJ.agree (fun m hm=>absurd hm (ht m)) (hargs 0 t u rfl hu)
  | 1,ht'=>
    cases ht';have h2:CRel F w (.lit XR) u:=hargs 1 (.one (.c (.lit XR))) u rfl hu;cases h2;exact⟨by rw[hγn];rfl,rfl⟩
  |j+2,ht'=>simp at ht'
 rw[hB]at this;refine this.mono ?_;rintro x w' ⟨v,N,T',h1,h2,h3,h4,h5,h6⟩;exact⟨v,N,T',h1,h2,h3,h4,h5,fun m cs hl=>by cases hl⟩
end Go.Hl
namespace Go.Proofs.YtdccocolnaklkaaGreatDoor
open Go Go.Hl
open Tryz(prog)
theorem Xag (t:Tm) (hn:t.nodes<=1000000):
  X2U prog 84 [] [aT t,.one (.c (.lit XR))] (.v (.one (.own 900002))) [(900002,.row 3 1 (Xk (Qh t)))]:=by
 have:=refs_con t hn [] (by simp;omega);rw[List.nil_append]at this;refine X2U.nil (by decide) (fun m hm=>?_) this;obtain⟨x,hx,hm⟩:=hm;simp only[NN]at hx;obtain⟨y,_,rfl⟩:=hx;exact hm
def otP (f:Fl) (a:Int):Tm:=otG (stP f.vars) f.vars f.body a.toNat (f.body[a.toNat]?.getD (asg 0 (.mk 0 0 [])))
def mpE (f:Fl) (a:Int):Value×CD:=(.int .i64 a,.ag (otP f a).enc)
def mpT (f:Fl) (last:Int):List (Value×CD):=((cuL f.body 0).takeWhile fun a=>decide (a<=last)).map (mpE f)
theorem Xa3 (f:Fl) (a:Int):∀l:List Int,a∉l->X0t (.int .i64) (.int .i64 a) (l.map (mpE f))=some none
 |[],_=>rfl
 | b::l,h=>by
   have h1:¬a=b:=fun e=>h (by simp[e]);have h2:=Xa3 f a l fun hm=>h (by simp[hm]);have hb:(a==b)=false:=by simp[h1]
   simp only[Na,mpE,X0t,Instr.sameNow,hb];exact h2
theorem X7y (f:Fl) (a:Int):∀l:List Int,a∈l->X0t (.int .i64) (.int .i64 a) (l.map (mpE f))=some (some (.ag (otP f a).enc))
 | b ::l,h=>by
   by_cases e:a=b
   .subst e;have hb:(a==a)=true:=by simp
    simp only[Na,mpE,X0t,Instr.sameNow,hb,NG]
   have:=X7y f a l ((Ni.1 h).resolve_left e);have hb:(a==b)=false:=by simp[e]
   simp only[Na,mpE,X0t,Instr.sameNow,hb,NG];exact this
@[simp] theorem mapT_te:mapT prog 90=some (.int .i64,.agg #[.int .i64 0,.int .i64 0,.slice none 0 0]):=by kernel_rfl
def zT:List CD:=[iC 0,iC 0,.lit XR]
theorem X6s {o n:Int} {rows:List (List CD)}:nlL [iC o,iC n,.lit XR] [iC o,iC n,.sl 3 []]:=by simp[nlL]
theorem X9h:∀{a b:List (List CD)},a.length=b.length->(∀(i:Nat) x y,a[i]? =some x->b[i]? =some y->nlL x y)->nlR a b
 |[],[],_,_=>trivial
 |x::a,y::b,h,hg=>⟨hg 0 x y rfl rfl,X9h (by simpa using h) fun i x y hx hy=>hg (i+1) x y (by simpa using hx) (by simpa using hy)⟩
 |[],_::_,h,_=>by simp at h
 |_::_,[],h,_=>by simp at h
theorem X6x {a:List (List CD)} {i:Nat} {x y:List CD} (h:nlL x y):nlR (a.set i x) (a.set i y):=by
 refine X9h (by simp) fun j p q hp hq=>?_;rw[D1]at hp hq;split at hp
 .rename_i e;rw[N9 e]at hq;split at hp
  .rename_i hl;rw[N9 hl]at hq;cases hp;cases hq;exact h
  cases hp
 rename_i e;rw[N6 e]at hq;rw[hp]at hq;cases hq;exact X4P p
def rowV (i:Nat) (v:Vr):List CD:=if v.kind=0 then [iC 0,iC v.init,.lit XR] else [iC 24,iC i,.lit XR]
def VR0 (vars:List Vr) (k:Nat):List (List CD):=vars.mapIdx fun i v=>if i<k then rowV i v else zT
theorem VR_0 (vars:List Vr):VR0 vars 0=List.replicate vars.length zT:=by
 refine NP fun i=>?_;simp only[VR0,List.getElem?_mapIdx,List.getElem?_replicate,Dk,NW];by_cases h:i<vars.length
 .simp[h]
 simp[h]
theorem VR_get {vars:List Vr} {k:Nat} {v:Vr} (h:vars[k]? =some v):(VR0 vars k)[k]? =some zT:=by simp[VR0,h]
theorem VR_set {vars:List Vr} {k:Nat} {v:Vr} (h:vars[k]? =some v):(VR0 vars k).set k (rowV k v)=VR0 vars (k+1):=by
 refine NP fun i=>?_;have hlt:=(N5.1 h).1;rw[D1];by_cases e:k=i
 .subst e;rw[N9 rfl,N9 (by simp[VR0,hlt])];simp[VR0,h]
 simp only[N6 e,VR0,List.getElem?_mapIdx];cases vars[i]? with
 |none=>rfl
 | some x=>
   simp only[Option.map_some,Option.some.injEq];by_cases h1:i<k
   .rw[N9 h1,N9 (by omega)]
   rw[N6 h1,N6 (by omega)]
theorem VR_end (vars:List Vr):nlR (VR0 vars vars.length) (Xg (vl0 vars)):=by
 refine X9h (by simp[VR0,vl0]) fun i x y hx hy=>?_;cases hv:vars[i]? with
 |none=>simp[VR0,hv]at hx
 | some v=>
   have hlt:=(N5.1 hv).1;rw[Qc (X1l hv)]at hy;simp only[VR0,List.getElem?_mapIdx,hv,Option.map_some,N9 hlt,Option.some.injEq]at hx hy;subst hx;subst hy;unfold rowV;split
   .simp only[QX,Tm.enc,Xg];exact X6s (rows:=[])
   simp only[tref,Tm.enc,Xg];exact X6s (rows:=[])
theorem X0e (l:List Tm) (i:Nat) (t:Tm):Xg (l.set i t)=(Xg l).set i t.enc:=by simp[WZ,List.map_set]
structure Plc (f:Fl) (j:Nat) (a:Int) (i:Nat) (s:St) (w:Vr) (vi:Nat):Prop where
 ai:a=(i:Int)
 get:f.body[i]? =some s
 var:s.var=(vi:Int)
 vget:f.vars[vi]? =some w
 form:Xt f.vars false s.term=true
 next:vqG (stP f.vars) f.vars f.body (j+1)=(vqG (stP f.vars) f.vars f.body j).set vi (stP f.vars (vqG (stP f.vars) f.vars f.body j) w s.term).2
 out:otP f a=(stP f.vars (vqG (stP f.vars) f.vars f.body j) w s.term).1
theorem plc_of {f:Fl} (h:XU f=0) {j:Nat} {a:Int} (ha:(cuL f.body 0)[j]? =some a):∃i s w vi,Plc f j a i s w vi:=by
 obtain⟨i,s,h1,h2,h3,_⟩:=X6o f.body 0 j a ha;rw[Nat.zero_add]at h1;obtain⟨ht,hl⟩:=Z8 f.body true i s (XA h).2.2.2.1 h2;obtain⟨h0,w,hw⟩:=W0 (hl h3);have hi:a.toNat=i:=by omega
 refine⟨i,s,w,s.var.toNat,h1,h2,by omega,hw,QA ht,?_,?_⟩
 .rw[vq_succ ha,vq_get ha,hi];simp only[vlG,h2,N9 h3,hw,Option.getD_some]
 unfold otP otG;rw[vq_get ha,hi,h2,Option.getD_some,hw,Option.getD_some]
theorem vq_len (st:List Tm->Vr->Tm->Tm×Tm) (vars:List Vr) (body:List St) (j:Nat):(vqG st vars body j).length=vars.length:=by
 cases j with
 |zero=>simp[vqG,vl0]
 | succ j=>
   simp only[vqG];split
   .exact X51 _ _ _ _
   simp[vl0]
theorem vq_nodes {st:List Tm->Vr->Tm->Tm×Tm} {B:Nat} (hst:∀vl w t,(st vl w t).2.nodes<=B) (hB:1<=B) (vars:List Vr) (body:List St) (j:Nat):∀u∈vqG st vars body j,u.nodes<=B:=by
 cases j with
 |zero=>intro u hu;rw[X04 hu];exact hB
 | succ j=>
   simp only[vqG];split
   .exact X0V hst hB vars body _
   intro u hu;rw[X04 hu];exact hB
def Mj (f:Fl) (j:Nat):List (Value×CD):=((cuL f.body 0).take j).map (mpE f)
theorem Mj_succ {f:Fl} {j:Nat} {a:Int} (h:(cuL f.body 0)[j]? =some a):Mj f j++[(.int .i64 a,.ag (otP f a).enc)]=Mj f (j+1):=by
 unfold Mj;rw[List.take_add_one,h,Option.toList_some,Ds];rfl
theorem asc_no {l:List Int} (h:l.Pairwise (· < ·)) {j:Nat} {a:Int} (ha:l[j]? =some a):a∉l.take j:=by
 intro hm;obtain⟨i,hi⟩:=Nu.1 hm;rw[Nv]at hi;split at hi
 .rename_i hij;have e1:=N5.1 ha;have e2:=N5.1 hi;have:=List.pairwise_iff_getElem.1 h i j e2.1 e1.1 hij;rw[e1.2,e2.2]at this;omega
 cases hi
theorem Mj_find {f:Fl} {j:Nat} {a:Int} (h:(cuL f.body 0)[j]? =some a):X0t (.int .i64) (.int .i64 a) (Mj f j)=some none:=Xa3 f a _ (asc_no (X3w f.body 0).1 h)
theorem X7P (vars:List Vr) (vl:List Tm) (w:Vr) (t:Tm) {P1 P2:Tm} (h:stP vars vl w t=(P1,P2)):(4096<szP vl (Qh t)->P1=X18/\P2=X18)/\
  (¬4096<szP vl (Qh t)->P1=Qa vl t/\(QC vars false (Qa vl t)=0->(Qa vl t).nodes<=1024->P2=clT (rgP vars (Qa vl t)).1 w (Qa vl t))/\(¬(QC vars false (Qa vl t)=0/\(Qa vl t).nodes<=1024)->P2=X18)):=by
 unfold stP at h;refine⟨fun hz=>?_,fun hz=>?_⟩
 .rw[N9 hz]at h;cases h;exact⟨rfl,rfl⟩
 rw[N6 hz]at h;cases h;exact⟨rfl,fun h1 h2=>N9 ⟨h1,h2⟩,fun h1=>N6 h1⟩
theorem X4t {p:Int->Bool}:∀{l:List Int} {j:Nat},(l.take j).all p=true->(∀a,l[j]? =some a->p a=false)->l.takeWhile p=l.take j
 |[],_,_,_=>by simp
 | b::l,0,_,h=>by
   have:=h b rfl;simp[this]
 | b::l,j+1,h,h2=>by
   simp only[List.take_succ_cons,List.all_cons,N4]at h;have:=X4t (l:=l) (j:=j) h.2 fun a ha=>h2 a (by simpa using ha);simp[h.1,this]
theorem Mj_end {f:Fl} {j:Nat} {last:Int} (h:((cuL f.body 0).take j).all (fun a=>decide (a<=last))=true) (h2:∀a,(cuL f.body 0)[j]? =some a->¬a<=last):mpT f last=Mj f j:=by
 unfold mpT Mj;rw[X4t h fun a ha=>by simp[h2 a ha]]
set_option maxHeartbeats 64000000 in
theorem Xaq (f:Fl) (h0:XU f=0) (last:Int) (d:Nat):Con prog 51 false [aF f,li last] (.v (.one (.c (.mp (mpT f last))))) none d:=by
 have hsz:=(XA h0).1;simp only[W5,N4,N7]at hsz;have hV:f.vars.length<=64:=by omega
 have hN:Xe f.body<=1024:=by omega
 have hvc:=(XA h0).2.1;have hbl:=XB f.body;have cc:=X7a f (by omega);have ccl:=fun t=>X9e f hvc (by omega) t;have hcl:=X40 f.body 0;have hpl:=fun j a ha=>@plc_of f h0 j a ha;have hM1:=fun j a ha=>@Mj_succ f j a ha;have hM2:=fun j a ha=>@Mj_find f j a ha;have hM3:=fun j h1 h2=>@Mj_end f j last h1 h2;have hVl:=vq_len (stP f.vars) f.vars f.body;have hVn:=vq_nodes (st:=stP f.vars) (B:=1030) (fun vl w t=>X3r f.vars vl w t) (by omega) f.vars f.body;have hVR0:=VR_0 f.vars;have hVRg:=fun k v h=>@VR_get f.vars k v h;have hVRs:=fun k v h=>@VR_set f.vars k v h;have hVRe:=VR_end f.vars;have hM0:Mj f 0=[]:=rfl;have hVQ0:vqG (stP f.vars) f.vars f.body 0=vl0 f.vars:=rfl
 have hns:∀(i:Nat) (s:St),f.body[i]? =some s->s.term.nodes<=1024:=fun i s hs=>by
  have h1:=Q2 (N3 hs);omega
 obtain⟨CL,hCL⟩:∃x,cuL f.body 0=x:=⟨_,rfl⟩;rw[hCL]at cc hcl hpl hM1 hM2 hM3;obtain⟨VQ,hVQ⟩:∃x,vqG (stP f.vars) f.vars f.body=x:=⟨_,rfl⟩;obtain⟨M,hM⟩:∃x,Mj f=x:=⟨_,rfl⟩;obtain⟨MT,hMT⟩:∃x,mpT f last=x:=⟨_,rfl⟩;obtain⟨ot,hot⟩:∃x,otP f=x:=⟨_,rfl⟩;obtain⟨VR,hVR⟩:∃x,VR0 f.vars=x:=⟨_,rfl⟩
 have hpl:∀(j:Nat) (a:Int),CL[j]? =some a->∃(i:Nat) (s:St) (w:Vr) (vi:Nat),a=(i:Int)/\f.body[i]? =some s/\s.var=(vi:Int)/\f.vars[vi]? =some w/\Xt f.vars false s.term=true/\
   VQ (j+1)=(VQ j).set vi (stP f.vars (VQ j) w s.term).2/\ot a=(stP f.vars (VQ j) w s.term).1:=by
  intro j a ha;obtain⟨i,s,w,vi,h⟩:=hpl j a ha;rw[<-hVQ,<-hot];exact⟨i,s,w,vi,h.ai,h.get,h.var,h.vget,h.form,h.next,h.out⟩
 rw[hVQ]at hVl hVn hVQ0;rw[hM]at hM0;simp only[hM,hMT,hot,hVR]at hM1 hM2 hM3 hVR0 hVRg hVRs hVRe;rw[hMT];simp only[zT]at hVR0 hVRg;clear hVQ hM hMT hot hVR hCL hsz h0 hvc;obtain⟨vars,hats,body⟩:=f;simp only at*;have hmk:vars.length<=maxLen/\40*(vars.length:Int)<=281474976710656:=⟨by unfold maxLen;omega,by omega⟩;simp only[aF,Fl.enc,Na,Nb]at cc ccl;refine X2 Tryz.func51 ?_;simp only[Tryz.f51];simp only[aF,Fl.enc,Na,Nb];refine X4 ?_;refine X4 ?_;refine X0<|X0<|X1 ?_;refine X3<|(Xb [1,2,5,23,24] (fun(k:Nat)=>[(25,.v (li k))]) (fun(k:Nat)=>[(2,.box [.c (.sl 5 (Xr vars)),.c (.sl 6 (Xu hats)),.c (.sl 10 (Xf body))]),(21,.row 56 3 (VR k))]) (fun(k:Nat)=>k<=vars.length) (fun(k:Nat)=>vars.length - k) (0:Nat) (Nc _) ?_);rintro k hk;simp only[LN,Nat.reduceBEq,Nat.reduceLT];clear hVR0 hmk;refine(XS (fun h5=>X6 ?_) fun h5=>?_)
 .have hlt:k<vars.length:=by omega
  obtain⟨v,he,hd⟩:=Xw hlt;have hw1:=Xz hlt (by omega);have hk1:k+1<=vars.length:=hlt;have hg:=hVRg k v he;have hs:=hVRs k v he;obtain⟨vn,vk,vl,vh,vi⟩:=v;have he':(Xr vars)[k]? =some [sC vn,iC vk,iC vl,iC vh,iC vi]:=by rw[X0f,he];rfl
  have hltV:k<(VR k).length:=(N5.1 hg).1;obtain⟨W,hW⟩:∃W,(VR k).set k [iC 24,iC k,.lit (.slice none 0 0)]=W:=⟨_,rfl⟩;have hWg:W[k]? =some [iC 24,iC k,.lit XR]:=by rw[<-hW,NE hltV];rfl
  have hs1:vk=0->W.set k [iC 0,iC vi,.lit (.slice none 0 0)]=VR (k+1):=fun h=>by
   rw[<-hs,<-hW,List.set_set];unfold rowV;rw[N9 h];rfl
  have hs2:¬vk=0->W=VR (k+1):=fun h=>by
   rw[<-hs,<-hW];unfold rowV;rw[N6 h];rfl
  clear hlt h5 hd he hs hVRg hVRs hVRe hltV ccl hpl hM1 hM2 hM3 hVl hVn hM0 hVQ0 hns cc;refine X0<|X3<|X0<|X1 ?_;refine X0<|(XF (by simp[*,XG,Qp,XW];rfl) ?_);refine(X8 (fun h9=>?_) fun h9=>?_)
  .have hs1:=hs1 (by simpa using h9);clear hs2;refine(XF (by simp[*,XG,Qp,XW];rfl) ?_);refine X1 ?_;exact Xj (k+1) (hk1)
  have hs2:=hs2 (by simpa using h9);clear hs1;subst hs2;refine X1 ?_;exact Xj (k+1) (hk1)
 obtain rfl:k=vars.length:=by omega
 clear h5 hVRg hVRs;refine(Xd ?_);refine Q6 (s':=⟨⟨121,none⟩,[(1,.v (li last)),(2,.v (.one (.at_ 2 0))),(5,.v (.one (.own 21)))],[(2,.box [.c (.sl 5 (Xr vars)),.c (.sl 6 (Xu hats)),.c (.sl 10 (Xf body))]),(21,.row 56 3 (Xg (vl0 vars)))]⟩) (le_trans (ZH (rows':=Xg (vl0 vars)) 21 rfl hVRe) (QJ (fun n=>n) [] rfl (by simp[rwO]) (by simp[rwO]) (by simp[rwO]))) ?_;rw[<-hVQ0];clear hVRe hVQ0;refine X4 ?_;refine X0<|X0<|(Xa cc ?_);refine X3<|(Xb [1,2,5,8,47,48] (fun(j:Nat)=>[(49,.v (li j))]) (fun(j:Nat)=>[(2,.box [.c (.sl 5 (Xr vars)),.c (.sl 6 (Xu hats)),.c (.sl 10 (Xf body))]),(21,.row 56 3 (Xg (VQ j))),(45,.mp (M j))]) (fun(j:Nat)=>j<=CL.length/\(CL.take j).all (fun a=>decide (a<=last))=true) (fun(j:Nat)=>CL.length - j) (0:Nat) ⟨Nc _,by simp⟩ ?_);rintro j ⟨hj,hall⟩;simp only[LN,Nat.reduceBEq,Nat.reduceLT];clear cc hM0;refine(XS (fun h19=>X6 ?_) fun h19=>?_)
 .have hlt:j<CL.length:=by omega
  obtain⟨a,ha,_⟩:=Xw hlt;have ha':(Xk CL)[j]? =some [iC a]:=by rw[ZB,ha];rfl
  have hw1:=Xz hlt (by omega);have hj1:j+1<=CL.length:=hlt;have hM1:=hM1 j a ha;have hM2:=hM2 j a ha;have hM3:=hM3 j hall;clear hlt h19;refine X0<|X3<|X0<|X1 ?_;refine X0<|(X8 (fun h22=>?_) fun h22=>?_)
  .have hM3:=hM3 fun b hb=>by rw[ha]at hb;cases hb;omega
   rw[hM3];clear hM1 hM2 hM3 hpl hns hVn hVl ccl;refine(Xd ?_);refine Q6 (Xa0 45 rfl) ?_;exact X7
  have hall2:(CL.take (j+1)).all (fun a=>decide (a<=last))=true:=by
   rw[List.take_add_one,ha,Option.toList_some,List.all_append,hall];simp;omega
  clear hM3 hall h22;obtain⟨i,s,w,vi,rfl,hs,hvar,hw,hform,hnext,hout⟩:=hpl j a ha;have hsn:=hns i s hs;have hs':=Q7 hs;have hVl:=hVl j;have hVn:=hVn j;clear hpl hns ha;obtain⟨VL,hVL⟩:∃x,VQ j=x:=⟨_,rfl⟩;rw[hVL]at hVl hVn hout hnext⊢;clear hVL;obtain⟨RF,hRF⟩:∃x,Qh s.term=x:=⟨_,rfl⟩;have cref:=Xag s.term (by omega);have csub:=X96 vars VL hVl (fun u hu=>by have:=hVn u hu;omega) s.term (by omega) hform;have hRl:=X1q s.term
  have hRv:∀(y:Nat) (m:Int),RF[y]? =some m->∃(v:Nat) (u:Tm),m=(v:Int)/\VL[v]? =some u:=fun y m hm=>by
   obtain⟨h1,v,h2⟩:=X5o s.term hform (n:=m) (by rw[hRF];exact N3 hm);have h3:=(N5.1 h2).1;exact⟨m.toNat,VL[m.toNat]'(by rw[hVl];exact h3),by omega,Nr _⟩
  obtain⟨SZ,hS0,hSs,hSb,hSe⟩:∃SZ:Nat->Nat,SZ 0=0/\(∀(y v:Nat) (u:Tm),RF[y]? =some (v:Int)->VL[v]? =some u->((SZ y:Int)+(X0q u.nodes:Int))=((SZ (y+1):Nat):Int))/\(∀y,y<=RF.length->SZ y<=1050000)/\SZ RF.length=szP VL RF:=by
   refine⟨fun y=>szP VL (RF.take y),by simp[szP],fun y v u h1 h2=>?_,fun y hy=>?_,by simp⟩
   .simp only[List.take_add_one,h1,Option.toList_some,szP,Ds,List.sum_append,Na,Nb,List.sum_cons,List.sum_nil,Int.toNat_natCast,h2,Option.getD_some,X0q];omega
   show szP VL (RF.take y)<=1050000;have h1:=X6c VL (RF.take y);rw[Ns]at h1;have h2:min y RF.length*1025<=1024*1025:=NI _ (by rw[hRF]at hRl;omega);omega
  have hRl2:RF.length<=1024:=by rw[hRF]at hRl;omega
  have hvl:vi<VL.length:=by rw[hVl];exact(N5.1 hw).1
  obtain⟨x0,hx0,_⟩:=Xw hvl;have hVv:=Qc hx0;rcases hP:stP vars VL w s.term with⟨P1,P2⟩;rw[hP]at hout hnext;obtain⟨hPA,hPB⟩:=X7P vars VL w s.term hP;simp only at hout hnext;clear hP;rw[hRF]at cref
  have hTn:(Qa VL s.term).nodes<=1000000000:=by
   have h1:=X6G VL s.term;have h2:=X9n hVn (Qh s.term);have h3:=X6c VL (Qh s.term);have h4:(Qh s.term).length*1025<=1024*1025:=NI _ (by omega);omega
  rw[hRF]at hPA hPB;rw[hout]at hM1;obtain⟨sd,sc,sv,sn,⟨tq,tn,tk⟩,sa,sb,sbs⟩:=s;obtain⟨xo,xn,xk⟩:=x0;obtain⟨wn,wk,wl,wh,wi⟩:=w;simp only[St.var,St.term]at hvar hPB cref csub hTn;subst hvar;have hw':(Xr vars)[vi]? =some [sC wn,iC wk,iC wl,iC wh,iC wi]:=by rw[X0f,hw];rfl
  simp only[St.enc,Tm.enc,aT,Na,Nb,List.cons_append,List.nil_append]at hs' hVv cref csub;clear hRF hRl hs hw hx0 hform hout hsn hVl hvl;refine X4 ?_;refine X4 ?_;refine X0<|X0<|(X4I ?_);refine RunsS.cutE 2 [] (by simp[*];rfl) trivial (le_refl _) ?_;refine RunsS.call (fun n=>n) (fun n=>n) (by simp;rfl) (ZD (by simp) (by simp) (by simp) (by simp) (by simp)) cref (by rfl) ?_;refine RunsS.doneE [] (by simp;rfl) trivial ?_;refine X3<|(Xb [1,2,5,8,10,11,47,48,49,63,64] (fun(y:Nat)=>[(12,.v (li ((SZ y:Nat):Int))),(65,.v (li y))]) (fun(y:Nat)=>[(2,.box [.c (.sl 5 (Xr vars)),.c (.sl 6 (Xu hats)),.c (.sl 10 (Xf body))]),(11,.box [.c (iC sd),.c (iC sc),.c (iC vi),.c (iC sn),.c (iC tq),.c (iC tn),.c (.sl 3 (Xg tk)),.c (.sl 10 (Xf sa)),.c (.sl 10 (Xf sb)),.c (.sl 1 (Xk sbs))]),(21,.row 56 3 (Xg VL)),(45,.mp (M j)),(900002,.row 3 1 (Xk RF))]) (fun(y:Nat)=>y<=RF.length) (fun(y:Nat)=>RF.length - y) (0:Nat) (Nc _) ?_);rintro y hy;simp only[LN,Nat.reduceBEq,Nat.reduceLT];clear hS0 cref hs';refine(XS (fun h30=>X6 ?_) fun h30=>?_)
  .have hlt:y<RF.length:=by omega
   obtain⟨m,hm,_⟩:=Xw hlt;obtain⟨v,u,rfl,hu⟩:=hRv y m hm;have hm':(Xk RF)[y]? =some [iC v]:=by rw[ZB,hm];rfl
   have hu':=Qc hu;have cn:=X4T u (by have:=hVn u (N3 hu);omega);have hS:=hSs y v u hm hu;have hSb1:=hSb (y+1) hlt;have hw2:=Xz hlt (by omega);have hy1:y+1<=RF.length:=hlt;obtain⟨q,hq⟩:∃q,X0q u.nodes=q:=⟨_,rfl⟩;rw[hq]at cn hS;have hw3:IntKind.i64.wrap ((SZ y:Int)+(q:Int))=((SZ (y+1):Nat):Int):=by rw[X5 (by omega) (by omega),hS]
   obtain⟨uo,un,uk⟩:=u;simp only[aT,Tm.enc,Na,Nb]at hu' cn;clear hlt h30 hm hu hS hSb1 hSs hSb hSe hRv hPA hPB csub ccl hVn hM1 hM2 hTn hq;refine X0<|X3<|X0<|X1 ?_;refine(Xa cn ?_);refine X1 ?_;exact Xj (y+1) (hy1)
  obtain rfl:y=RF.length:=by omega
  clear h30 hSs hSb hRv hVn;rw[hSe];clear hSe;obtain⟨Z,hZ⟩:∃x,szP VL RF=x:=⟨_,rfl⟩;rw[hZ]at hPA hPB⊢;clear hZ;refine(Xd ?_);refine X0<|(X8 (fun h36=>?_) fun h36=>?_)
  .obtain⟨rfl,rfl⟩:=hPA (by omega);clear hPA hPB;simp only[X18,Tm.enc,Xg]at hM1;clear csub ccl hTn h36;obtain⟨W,hW⟩:∃W,(Xg VL).set vi [iC (-1),iC 0,.lit (.slice none 0 0)]=W:=⟨_,rfl⟩
   have hnl:nlR W (Xg (VL.set vi X18)):=by
    rw[<-hW,X0e];exact X6x (X6s (rows:=[]))
   refine X0<|(XF (by simp[*,XG,Qp,XW];rfl) ?_);refine X0<|(X0d ?_);refine RunsF.cutE 3 [] (by simp[*,XG,Qp,XW];rfl) trivial (le_trans (Zn 86 [.c (iC (-1)),.c (iC 0),.c (.sl 3 [])] rfl (by(repeat'(first|exact LWk.nil|apply LWk.cons|exact CWk.refl _|exact CWk.nil _)))) (X9o 86 [iC (-1),iC 0,.sl 3 []] rfl)) ?_;refine RunsF.doneE [] (by simp[*];rfl) trivial ?_;refine(Xd ?_);refine X1 ?_;exact Xj (j+1) ⟨hj1,hall2⟩ (hl:=by rw[hnext];exact le_trans (ZH (rows':=Xg (VL.set vi X18)) 21 rfl hnl) (QJ (fun n=>n) [] rfl (by simp[*,upS,Ql,rwO]) (by simp[*,upS,rwO]) (by simp[upS])))
  obtain⟨hPC,hPD,hPE⟩:=hPB (by omega);clear hPA hPB;rcases hT:Qa VL (.mk tq tn tk)with⟨uo,un,uk⟩;rw[hT]at hPC hPD hPE csub hTn;subst hPC;have cl:=ccl _ hTn ⟨wn,wk,wl,wh,wi⟩;have cn:=X4T _ hTn;simp only[aT,aV,Vr.enc,Tm.enc,Na,Nb]at hM1 csub cl cn;obtain⟨TC,hTC⟩:∃x,QC vars false (.mk uo un uk)=x:=⟨_,rfl⟩;rw[hTC]at cl hPD hPE;obtain⟨TN,hTN⟩:∃x,(Tm.mk uo un uk).nodes=x:=⟨_,rfl⟩;rw[hTN]at cn hPD hPE;clear ccl hTn h36 hT hTC hTN;rcases hH:(if TC=0 then clT (rgP vars (.mk uo un uk)).1 ⟨wn,wk,wl,wh,wi⟩ (.mk uo un uk)else .mk uo un uk)with⟨ho,hn,hk⟩;rw[hH]at cl;simp only[Tm.enc,Na,Nb]at cl
  have hP3:TC=0->TN<=1024->P2=.mk ho hn hk:=fun h1 h2=>by
   rw[hPD h1 h2,<-hH,N9 h1]
  have hP4:¬(TC=0/\TN<=1024)->P2=X18:=hPE;clear hH hPD hPE;obtain⟨W,hW⟩:∃W,(Xg VL).set vi [iC (-1),iC 0,.lit (.slice none 0 0)]=W:=⟨_,rfl⟩
  have hnl:P2=X18->nlR W (Xg (VL.set vi P2)):=fun h=>by
   rw[h,<-hW,X0e];exact X6x (X6s (rows:=[]))
  obtain⟨W2,hW2⟩:∃W,(Xg VL).set vi [iC ho,iC hn,.sl 3 (Xg hk)]=W:=⟨_,rfl⟩
  have hnl2:P2=.mk ho hn hk->W2=Xg (VL.set vi P2):=fun h=>by
   rw[h,<-hW2,X0e];rfl
  refine X0<|(X6l 3 [(1000000,.row 56 3 (Xg VL))] [.agg [.c (iC tq),.c (iC tn),.c (.sl 3 (Xg tk))],.one (.own 1000000)] (fun n=>if n=1000000 then 21 else n) (.v (.agg [.c (iC uo),.c (iC un),.c (.sl 3 (Xg uk))])) [] [] rfl (by simp[*];rfl) trivial (by simp;rfl) (X2Q (by simp[Ob.isRow]) (by simp)) (by simp) csub rfl (by simp[*];rfl) trivial ?_);clear csub;refine X0<|(X0d ?_);refine RunsF.cutE 3 [] (by simp[*];rfl) trivial (X9o 93 [iC uo,iC un,.sl 3 (Xg uk)] rfl) ?_;refine RunsF.doneE [] (by simp[*];rfl) trivial ?_;refine X0<|(Xx [⟨false,.tup [.agg [.c (iC ho),.c (iC hn),.c (.sl 3 (Xg hk))],lb (decide (TC=0))],none⟩] (by kernel_rfl) (by kernel_rfl) (by rfl) (by simp[*];first|exact⟨rfl,Iff.rfl⟩|exact⟨rfl,trivial⟩|rfl) ?_ ?_)
  .first|exact cl _|exact trivial|simpa[*]using cl _
  clear cl;obtain⟨B,hB⟩:∃B,decide (TC=0)=B:=⟨_,rfl⟩;rw[hB];cases B
  .refine X0<|X0<|(WI [none] (by simp[*];first|exact⟨rfl,trivial⟩|exact⟨rfl,Iff.rfl⟩|rfl) ?_ ?_)
   .trivial
   refine(XM (fun h45=>?_) fun h45=>?_)
   .have hPh:=hP4 (fun h=>by rw[Nw h.1]at hB;cases hB);have hnl:=hnl hPh;clear hP3 hP4 hnl2 hB;refine(XF (by simp[*,XG,Qp,XW];rfl) ?_);refine X1 ?_;refine X1 ?_;exact Xj (j+1) ⟨hj1,hall2⟩ (hl:=by rw[hnext];exact le_trans (ZH (rows':=Xg (VL.set vi P2)) 21 rfl hnl) (QJ (fun n=>n) [] rfl (by simp[*,upS,Ql,rwO]) (by simp[*,upS,rwO]) (by simp[upS])))
   exact absurd h45 (by simp)
  refine X0<|X0<|(Xa cn ?_);refine(XM (fun h45=>?_) fun h45=>?_)
  .have hPh:=hP4 (fun h=>by have:=h.2;unfold X0q at h45;omega);have hnl:=hnl hPh;clear hP3 hP4 hnl2 hB;refine(XF (by simp[*,XG,Qp,XW];rfl) ?_);refine X1 ?_;refine X1 ?_;exact Xj (j+1) ⟨hj1,hall2⟩ (hl:=by rw[hnext];exact le_trans (ZH (rows':=Xg (VL.set vi P2)) 21 rfl hnl) (QJ (fun n=>n) [] rfl (by simp[*,upS,Ql,rwO]) (by simp[*,upS,rwO]) (by simp[upS])))
  have hPh:=hP3 (by simpa using hB) (by unfold X0q at h45;omega);have hnl2:=hnl2 hPh;clear hP3 hP4 hnl hB;refine X1 ?_;refine X1 ?_;exact Xj (j+1) ⟨hj1,hall2⟩ (hl:=by rw[hnext,<-hnl2];exact ZC)
 have hjl:j=CL.length:=by omega
 have hM3:=hM3 j hall fun b hb=>by rw[hjl,NB (ND _)]at hb;cases hb
 rw[hM3];clear hM1 hM2 hM3 hpl hns hVn hVl ccl;refine(Xd ?_);refine Q6 (Xa0 45 rfl) ?_;exact X7
end Go.Proofs.YtdccocolnaklkaaGreatDoor
