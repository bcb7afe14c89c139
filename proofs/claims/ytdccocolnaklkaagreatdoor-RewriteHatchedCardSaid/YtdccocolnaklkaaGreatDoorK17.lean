/- Contracts of functions and plain facts about what they compute. Conditions: as each theorem states. -/
import Derived.Test.YtdccocolnaklkaaGreatDoorK16
import Derived.Test.YtdccocolnaklkaaGreatDoorK13
set_option linter.unusedSimpArgs false
set_option linter.unusedVariables false
set_option linter.unnecessarySimpa false
set_option maxRecDepth 100000
set_option maxHeartbeats 2000000
namespace Go.Proofs.YtdccocolnaklkaaGreatDoor
open Go Go.Hl
def VA0 (vars:List Vr) (k:Nat):List (List CD):=(vars.take k).mapIdx rowV
theorem VA_succ {vars:List Vr} {k:Nat} {v:Vr} (h:vars[k]? =some v):VA0 vars (k+1)=VA0 vars k++[rowV k v]:=by
 have hlt:=(N5.1 h).1;unfold VA0;rw[List.take_add_one,h,Option.toList_some,List.mapIdx_append];simp[Nat.min_eq_left (Nat.le_of_lt hlt)]
theorem VA_end (vars:List Vr):nlR (VA0 vars vars.length) (Xg (vl0 vars)):=by
 have:=VR_end vars
 have e:VA0 vars vars.length=VR0 vars vars.length:=by
  refine NP fun i=>?_;simp only[VA0,VR0,List.take_length,List.getElem?_mapIdx];cases hv:vars[i]? with
  |none=>rfl
  |some v=>simp[(N5.1 hv).1]
 rw[e];exact this
def otQ (f:Fl) (a:Int):Tm:=otG (stQ f.vars) f.vars f.body a.toNat (f.body[a.toNat]?.getD (asg 0 (.mk 0 0 [])))
set_option maxHeartbeats 64000000 in
theorem subR_con (f:Fl) (h0:XU f=0) (a:Nat) (s0:St) (hs0:f.body[a]? =some s0) (hd0:s0.do_=0) (d:Nat):Con Tryz.prog 60 false [aF f,li (a:Nat)] (.tup [aT (otQ f (a:Nat)),lb true]) none d:=by
 have hsz:=(XA h0).1;simp only[W5,N4,N7]at hsz;have hV:f.vars.length<=64:=by omega
 have hN:Xe f.body<=1024:=by omega
 have hvc:=(XA h0).2.1;have hg:=Qz hvc;have hbl:=XB f.body;have hlta:=(N5.1 hs0).1;have hVAs:=fun k v h=>@VA_succ f.vars k v h;have hVAe:=VA_end f.vars;have hVA0:VA0 f.vars 0=[]:=rfl;have hVl:=X51 (stQ f.vars) f.vars f.body;have hVn:=X0V (st:=stQ f.vars) (B:=2010) (fun vl w t=>Xan f.vars vl w t) (by omega) f.vars f.body;have hVf:=X9q h0;have hV0:vlG (stQ f.vars) f.vars f.body 0=vl0 f.vars:=rfl
 have hstep:∀(k:Nat) (s:St),f.body[k]? =some s->(s.do_≠0->vlG (stQ f.vars) f.vars f.body (k+1)=vlG (stQ f.vars) f.vars f.body k)/\(s.do_=0->∃(v:Nat) (w:Vr),s.var=(v:Int)/\f.vars[v]? =some w/\Xt f.vars false s.term=true/\s.term.nodes<=1024/\
   vlG (stQ f.vars) f.vars f.body (k+1)=(vlG (stQ f.vars) f.vars f.body k).set v (clT (rgQ f.vars (lwT (Qa (vlG (stQ f.vars) f.vars f.body k) s.term))).1 w (lwT (Qa (vlG (stQ f.vars) f.vars f.body k) s.term)))/\
   (k=a->otQ f (a:Nat)=lwT (Qa (vlG (stQ f.vars) f.vars f.body k) s.term))):=by
  intro k s hs;refine⟨fun hd=>?_,fun hd=>?_⟩
  .simp only[vlG,hs,N6 hd]
  obtain⟨ht,hl⟩:=Z8 f.body true k s (XA h0).2.2.2.1 hs;obtain⟨hv0,w,hw⟩:=W0 (hl hd);have hnm:=Q2 (N3 hs);refine⟨s.var.toNat,w,by omega,hw,QA ht,by omega,?_,fun hk=>?_⟩
  .simp only[vlG,hs,N9 hd,hw,Option.getD_some];rfl
  subst hk;unfold otQ otG;rw[Int.toNat_natCast,hs,Option.getD_some];rfl
 obtain⟨VA,hVA⟩:∃x,VA0 f.vars=x:=⟨_,rfl⟩;obtain⟨VG,hVG⟩:∃x,vlG (stQ f.vars) f.vars f.body=x:=⟨_,rfl⟩;obtain⟨OT,hOT⟩:∃x,otQ f (a:Nat)=x:=⟨_,rfl⟩;simp only[hVA,hVG,hOT]at hVAs hVAe hVA0 hVl hVn hVf hV0 hstep⊢;have hane:∀(s:St),f.body[a]? =some s->s.do_=0:=fun s hs=>by rw[hs0]at hs;cases hs;exact hd0
 clear hVA hVG hOT hsz h0 hvc hs0 hd0;obtain⟨vars,hats,body⟩:=f;simp only at*;refine X2 Tryz.func60 ?_;simp only[Tryz.f60];simp only[aF,Fl.enc,Na,Nb];refine X4 ?_;refine X4 ?_;refine X0<|X0<|X1 ?_
 refine X3<|(Xb [1,2,4,18,19] (fun(k:Nat)=>[(6,.v (.one (.own 1006))),(20,.v (li k))]) (fun(k:Nat)=>[(2,.box [.c (.sl 5 (Xr vars)),.c (.sl 6 (Xu hats)),.c (.sl 10 (Xf body))]),(4,.box [.c (iC 0),.c (iC 0),.c (.lit XR)]),(1006,.row 56 3 (VA k))]) (fun(k:Nat)=>k<=vars.length/\(VA k).length=k) (fun(k:Nat)=>vars.length - k) (0:Nat) ⟨Nc _,by rw[hVA0];rfl⟩ ?_ (by
  rw[hVA0]
  exact ZC))
 rintro k ⟨hk,hkl⟩;simp only[LN,Nat.reduceBEq,Nat.reduceLT];clear hVA0;refine(XS (fun h5=>X6 ?_) fun h5=>?_)
 .have hlt:k<vars.length:=by omega
  obtain⟨v,he,hd⟩:=Xw hlt;have hw1:=Xz hlt (by omega);have hk1:k+1<=vars.length:=hlt;have hs:=hVAs k v he;obtain⟨vn,vk,vl,vh,vi⟩:=v;have he':(Xr vars)[k]? =some [sC vn,iC vk,iC vl,iC vh,iC vi]:=by rw[X0f,he];rfl
  have hroom:QF (k+1) 40:=XO (by omega) (by decide)
  have hs1:vk=0->VA (k+1)=VA k++[[iC 0,iC vi,.lit XR]]:=fun h=>by
   rw[hs];unfold rowV;rw[N9 h]
  have hs2:¬vk=0->VA (k+1)=VA k++[[iC 24,iC k,.lit XR]]:=fun h=>by
   rw[hs];unfold rowV;rw[N6 h]
  clear hlt h5 hd he hs hVAs hVAe hVl hVn hVf hV0 hstep hane hg;refine X0<|X3<|X0<|X1 ?_;refine(Xc (fun h8=>?_) fun h8=>?_)
  .have hs1:=hs1 (by simpa using h8);clear hs2;refine(XF (by simp[*,XG,Qp,XW,hroom];rfl) ?_);refine X1 ?_;exact Xj (k+1) ⟨hk1,by rw[hs1];simp[hkl]⟩ (hl:=by rw[hs1];exact ZC)
  have hs2:=hs2 (by simpa using h8);clear hs1;refine(XF (by simp[*,XG,Qp,XW,hroom];rfl) ?_);refine X1 ?_;exact Xj (k+1) ⟨hk1,by rw[hs2];simp[hkl]⟩ (hl:=by rw[hs2];exact ZC)
 have hkv:k=vars.length:=by omega
 subst hkv;clear h5 hVAs hkl;refine(Xd ?_);refine Q6 (s':=⟨⟨108,none⟩,[(1,.v (li (a:Nat))),(2,.v (.one (.at_ 2 0))),(4,.v (.one (.at_ 4 0))),(6,.v (.one (.own 1006)))],[(2,.box [.c (.sl 5 (Xr vars)),.c (.sl 6 (Xu hats)),.c (.sl 10 (Xf body))]),(4,.box [.c (iC 0),.c (iC 0),.c (.lit XR)]),(1006,.row 56 3 (Xg (vl0 vars)))]⟩) (le_trans (ZH (rows':=Xg (vl0 vars)) 1006 rfl hVAe) (QJ (fun n=>n) [] rfl (by simp[rwO]) (by simp[rwO]) (by simp[rwO]))) ?_;rw[<-hV0];clear hVAe hV0;refine X0<|X0<|X1 ?_;refine X3<|(Xb [1,2,4,6,41,42] (fun(k:Nat)=>[(43,.v (li k))]) (fun(k:Nat)=>[(2,.box [.c (.sl 5 (Xr vars)),.c (.sl 6 (Xu hats)),.c (.sl 10 (Xf body))]),(4,.box [.c (iC 0),.c (iC 0),.c (.lit XR)]),(1006,.row 56 3 (Xg (VG k)))]) (fun(k:Nat)=>k<=a) (fun(k:Nat)=>body.length - k) (0:Nat) (Nc _) ?_);rintro k hka;simp only[LN,Nat.reduceBEq,Nat.reduceLT];refine(XS (fun h18=>X6 ?_) fun h18=>?_)
 .have hlt:k<body.length:=by omega
  obtain⟨s,hs,_⟩:=Xw hlt;have hs':=Q7 hs;have hw1:=Xz hlt (by omega);obtain⟨hst1,hst2⟩:=hstep k s hs;have hane2:k=a->s.do_=0:=fun h=>by subst h;exact hane s hs
  have hVl:=hVl k;have hVn:=hVn k;have hVf:=hVf k;obtain⟨VL,hVL⟩:∃x,VG k=x:=⟨_,rfl⟩;rw[hVL]at hst1 hst2 hVl hVn hVf⊢;obtain⟨sd,sc,sv,sn,⟨tq,tn,tk⟩,sa,sb,sbs⟩:=s;simp only[St.do_,St.var,St.term]at hst1 hst2 hane2;simp only[St.enc,Tm.enc,List.cons_append,List.nil_append]at hs';clear hlt hstep hane hs hVL h18;refine X0<|X3<|X0<|X1 ?_;refine X0<|(X8 (fun h21=>?_) fun h21=>?_)
  .have hdn:¬sd=0:=by simpa using h21
   have hst1:=hst1 hdn;clear hst2 hVn hVf
   have hkne:k<a:=by
    rcases Nat.lt_or_eq_of_le hka with h|h
    .exact h
    exact absurd (hane2 h) hdn
   refine X0<|(X8 (fun h23=>?_) fun h23=>?_)
   .omega
   refine(Xd ?_);refine X1 ?_;exact Xj (k+1) (by omega) (hl:=by rw[hst1];exact ZC)
  have hd0:sd=0:=by simpa using h21
  obtain⟨v,w,rfl,hw,hfm,htn,hnx,hot⟩:=hst2 hd0;subst hd0;have crp:=XaM vars VL hVl (.mk tq tn tk) (by omega) hfm;have hTf:=X5a hVl hVf (.mk tq tn tk) hfm;have hTn:=X5M (vl:=VL) (B:=2010) (fun i u hu=>hVn u (N3 hu)) (by omega) (.mk tq tn tk);have hTn2:(Qa VL (.mk tq tn tk)).nodes<=1024*2010:=Dj hTn (NI _ htn);have hvl:v<VL.length:=by rw[hVl];exact(N5.1 hw).1
  obtain⟨x0,hx0,_⟩:=Xw hvl;have hVv:=Qc hx0;rcases hT:Qa VL (.mk tq tn tk)with⟨uo,un,uk⟩;rw[hT]at crp hTf hTn2 hnx hot;have ctn:=X1I (.mk uo un uk) (by omega);have hLf:=X9V hTf;obtain⟨TN,hTN⟩:∃x,(Tm.mk uo un uk).nodes=x:=⟨_,rfl⟩;rw[hTN]at ctn;have hL1:2000<TN->lwT (.mk uo un uk)=ZE 13:=fun h=>by unfold lwT;rw[N9 (by omega)]
  have hL2:¬2000<TN->lwT (.mk uo un uk)=.mk uo un uk:=fun h=>by unfold lwT;rw[N6 (by omega)]
  have crg:=X5H vars true hg (lwT (.mk uo un uk)) hLf;obtain⟨LT,hLT⟩:∃x,lwT (.mk uo un uk)=x:=⟨_,rfl⟩;rw[hLT]at hL1 hL2 crg hnx hot;obtain⟨wn,wk,wl,wh,wi⟩:=w;obtain⟨xo,xn,xk⟩:=x0;have hw':(Xr vars)[v]? =some [sC wn,iC wk,iC wl,iC wh,iC wi]:=by rw[X0f,hw];rfl
  have cdp:=deep_con;simp only[aT,Tm.enc,Na,Nb]at crp ctn hVv;clear hst1 hVn hVf hfm htn hTf hTn hTn2 hx0 hT hLf hTN hLT hw hvl hane2 h21 hg hVl;refine X0<|(X6l 3 [(1000000,.row 56 3 (Xg VL))] [.agg [.c (iC tq),.c (iC tn),.c (.sl 3 (Xg tk))],.one (.own 1000000)] (fun n=>if n=1000000 then 1006 else n) (.v (.agg [.c (iC uo),.c (iC un),.c (.sl 3 (Xg uk))])) [] [] rfl (by simp[*];rfl) trivial (by simp;rfl) (X2Q (by simp[Ob.isRow]) (by simp)) (by simp) crp rfl (by simp[*];rfl) trivial ?_);clear crp;refine(XY [1,2,4,6,9,10,11,41,42,43] (fun(z:Tm)=>[]) (fun(z:Tm)=>[(2,.box [.c (.sl 5 (Xr vars)),.c (.sl 6 (Xu hats)),.c (.sl 10 (Xf body))]),(4,.box [.c (iC 0),.c (iC 0),.c (.lit XR)]),(10,.box [.c (iC 0),.c (iC sc),.c (iC v),.c (iC sn),.c (iC tq),.c (iC tn),.c (.sl 3 (Xg tk)),.c (.sl 10 (Xf sa)),.c (.sl 10 (Xf sb)),.c (.sl 1 (Xk sbs))]),(11,.box [.c (iC z.op),.c (iC z.n),.c (.sl 3 (Xg z.kids))]),(1006,.row 56 3 (Xg VL))]) (fun(z:Tm)=>z=LT) ?_ ?_)
  .refine X0<|(Xa ctn ?_);refine(XM (fun h31=>?_) fun h31=>?_)
   .have hd9:=hL1 (by omega);rcases hD9:ZE 13 with⟨do9,dn9,dk9⟩;rw[hD9]at cdp hd9;simp only[aT,Tm.enc,Na,Nb]at cdp;refine(Xa cdp ?_);exact⟨.mk do9 dn9 dk9,hd9.symm,QJ (fun n=>n) [] rfl (by simp[upS,Ql]) (by simp[upS,Tm.op,Tm.n,Tm.kids]) (by simp[upS])⟩
   exact⟨.mk uo un uk,(hL2 (by omega)).symm,QJ (fun n=>n) [] rfl (by simp[upS,Ql]) (by simp[upS,Tm.op,Tm.n,Tm.kids]) (by simp[upS])⟩
  rintro⟨lo,ln,lk⟩ hz;simp only[LN,Nat.reduceBEq,Nat.reduceLT];subst hz;simp only[Tm.op,Tm.n,Tm.kids];clear hL1 hL2 ctn cdp;refine X0<|(X8 (fun h36=>?_) fun h36=>?_)
  .have hka2:k=a:=by omega
   have hot:=hot hka2;subst hot;clear hnx crg;refine X4 ?_;exact Xn ⟨.inr rfl,_,le_refl _,⟨⟨_,by simp;rfl,by simp[Xl,Tm.enc]⟩,by simp,fun h=>by cases h⟩⟩
  have hkne:k<a:=by
   rcases Nat.lt_or_eq_of_le hka with h|h
   .exact h
   exact absurd h (by omega)
  obtain⟨⟨⟨p1,p2⟩,pb⟩,hR⟩:∃x,rgQ vars (.mk lo ln lk)=x:=⟨_,rfl⟩;rw[hR]at crg hnx;simp only[aT,Tm.enc,Na,Nb]at crg;obtain⟨T1,hT1⟩:∃x,(if wh<p2 then Tm.mk 21 0 [.mk lo ln lk,QX wh] else .mk lo ln lk)=x:=⟨_,rfl⟩;unfold clT at hnx;simp only[hT1]at hnx;clear hR hot;refine X4 ?_;refine X0<|(Xa crg ?_);refine(XY [1,2,4,6,10,11,12,13,41,42,43] (fun(z:Tm)=>[]) (fun(z:Tm)=>[(2,.box [.c (.sl 5 (Xr vars)),.c (.sl 6 (Xu hats)),.c (.sl 10 (Xf body))]),(4,.box [.c (iC 0),.c (iC 0),.c (.lit XR)]),(10,.box [.c (iC 0),.c (iC sc),.c (iC v),.c (iC sn),.c (iC tq),.c (iC tn),.c (.sl 3 (Xg tk)),.c (.sl 10 (Xf sa)),.c (.sl 10 (Xf sb)),.c (.sl 1 (Xk sbs))]),(11,.box [.c (iC z.op),.c (iC z.n),.c (.sl 3 (Xg z.kids))]),(12,.box [.c (sC wn),.c (iC wk),.c (iC wl),.c (iC wh),.c (iC wi)]),(1006,.row 56 3 (Xg VL))]) (fun(z:Tm)=>z=T1) ?_ ?_)
  .refine(X8 (fun h43=>?_) fun h43=>?_)
   .refine X1 ?_;exact⟨.mk 21 0 [.mk lo ln lk,QX wh],by rw[<-hT1,N9 (by simpa using h43)],le_trans (ZH (rows':=[[iC lo,iC ln,.sl 3 (Xg lk)],[iC 0,iC wh,.sl 3 []]]) 89 rfl (by simp[nlR,nlL])) (le_trans (XL 89 rfl) (QJ (fun n=>n) [] rfl (by simp[upS,Ql,rwO]) (by simp[upS,rwO,Tm.op,Tm.n,Tm.kids,QX]) (by simp[upS,rwO])))⟩
   exact⟨.mk lo ln lk,by rw[<-hT1,N6 (by simpa using h43)],QJ (fun n=>n) [] rfl (by simp[upS,Ql]) (by simp[upS,Tm.op,Tm.n,Tm.kids]) (by simp[upS])⟩
  rintro⟨o1,n1,k1⟩ hz;simp only[LN,Nat.reduceBEq,Nat.reduceLT];rw[<-hz]at hnx;simp only[Tm.op,Tm.n,Tm.kids];clear hz hT1 crg;refine X0<|(X8 (fun h48=>?_) fun h48=>?_)
  .rw[N9 (by simpa using h48)]at hnx
   have hse:(Xg VL).set v [iC 22,iC 0,.sl 3 [[iC o1,iC n1,.sl 3 (Xg k1)],[iC 0,iC wl,.sl 3 []]]]=Xg (VG (k+1)):=by
    rw[hnx,X0e];rfl
   clear hnx;refine X1 ?_;refine Q6 (le_trans (ZH (rows':=[[iC o1,iC n1,.sl 3 (Xg k1)],[iC 0,iC wl,.sl 3 []]]) 99 rfl (by simp[nlR,nlL])) (le_trans (XL 99 rfl) (Zo (by simp[rwO,HS.frz,X0R,RV.frz,TV.frz,CV.frz,Ob.frz,del];rfl)))) ?_;refine X1 ?_;refine X1 ?_;exact Xj (k+1) (by omega)
  rw[N6 (by simpa using h48)]at hnx
  have hse:(Xg VL).set v [iC o1,iC n1,.sl 3 (Xg k1)]=Xg (VG (k+1)):=by
   rw[hnx,X0e];rfl
  clear hnx;refine X1 ?_;refine X1 ?_;exact Xj (k+1) (by omega)
 omega
end Go.Proofs.YtdccocolnaklkaaGreatDoor
