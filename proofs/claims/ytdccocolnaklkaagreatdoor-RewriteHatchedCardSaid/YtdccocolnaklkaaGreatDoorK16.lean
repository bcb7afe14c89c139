/- Contracts of functions and plain facts about what they compute. Conditions: as each theorem states. -/
import Derived.Test.YtdccocolnaklkaaGreatDoorK15
import Derived.Test.YtdccocolnaklkaaGreatDoorK11
set_option linter.unusedSimpArgs false
set_option linter.unusedVariables false
set_option linter.unnecessarySimpa false
set_option maxRecDepth 100000
set_option maxHeartbeats 2000000
namespace Go.Proofs.YtdccocolnaklkaaGreatDoor
open Go Go.Hl
theorem X8d:∀(l:List Int) (x:Int) (k:Nat),0<=X21 l x k↔x∈l
 |[],x,k=>by simp[X21]
 | y::l,x,k=>by
   simp only[X21,Ni];by_cases h:x=y
   .rw[N9 h];simp only[h,true_or,iff_true];omega
   rw[N6 h,X8d l x (k+1)];simp[h]
def X4b (n:Nat) (CL:List Int):List Int->Int
 |[]=>0
 |i::l=>if i<0\/(n:Int)<=i then 3 else if 0<=X21 CL i 0 then X4b n CL l else 15
def e5 (f:Fl) (at_:List Int):Int:=if Z5 at_=true then X4b (szL f.body) (cuL f.body 0) at_ else 10
noncomputable def htF (f:Fl) (at_:List Int):Fl×Int:=
 if XU f=0 then(if e5 f at_=0 then Z9 (QM nmH (otG (stP f.vars) f.vars f.body) f (at_.map Int.toNat))else(fl0,e5 f at_))else(fl0,XU f)
theorem X9G {n:Nat} {CL:List Int}:∀{l:List Int},X4b n CL l=0->∀i∈l,i∈CL
 |[],_,i,hi=>by cases hi
 | j ::l,h,i,hi=>by
   simp only[X4b]at h;split at h
   .cases h
   split at h
   .rename_i hm;rcases Ni.1 hi with rfl|hi
    .exact(X8d _ _ _).1 hm
    exact X9G h i hi
   cases h
theorem X6S:∀{l:List Int},Z5 l=true->l.Pairwise (· < ·)
 |[],_=>List.Pairwise.nil
 |x::l,h=>NV.2 ⟨X8l l x h,X6S (X7Y h)⟩
theorem at_ok {f:Fl} {at_:List Int} (h:e5 f at_=0):AtOK f (at_.map Int.toNat)/\∀i∈at_,0<=i/\i∈cuL f.body 0:=by
 unfold e5 at h;split at h
 .rename_i hr;have hm:=X9G h;have ha:=X6S hr;have h0:∀i∈at_,0<=i/\i∈cuL f.body 0:=fun i hi=>⟨by have:=(X3w f.body 0).2 i (hm i hi);omega,hm i hi⟩
  have hg:∀a∈at_.map Int.toNat,∃s,f.body[a]? =some s/\s.do_=0/\∀(q:Nat) (t:St),q<=a->f.body[q]? =some t->t.do_≠3/\t.do_≠4/\t.do_≠5:=by
   intro a ham;obtain⟨i,hi,rfl⟩:=NN.1 ham;obtain⟨j,hj⟩:=Nu.1 (h0 i hi).2;obtain⟨p,s,h1,h2,h3,h4⟩:=X6o f.body 0 j i hj;rw[Nat.zero_add]at h1;have:i.toNat=p:=by omega
   rw[this];exact⟨s,h2,h3,h4⟩
  refine⟨⟨?_,fun a ham=>?_,fun a ham j s hj hs=>?_⟩,h0⟩
  .rw[List.pairwise_map];exact(List.pairwise_and_iff.2 ⟨ha,List.pairwise_of_forall_mem_list (fun a ha b hb=>(⟨(h0 a ha).1,(h0 b hb).1⟩:0<=a/\0<=b))⟩).imp fun {a b} ⟨h1,h2,h3⟩=>by omega
  .obtain⟨s,h1,h2,_⟩:=hg a ham;exact⟨s,h1,h2⟩
  obtain⟨_,_,_,h4⟩:=hg a ham;exact h4 j s hj hs
 cases h
theorem X9O {nh:Nat} {al:List Nat} {body:List St} {y a:Nat} {s:St} (hp:al.Pairwise (· < ·)) (ha:al[y]? =some a) (hs:body[a]? =some s):(WR nh al y body)[a]? =some s:=by
 have hno:a∉al.take y:=by
  intro hm;obtain⟨i,hi⟩:=Nu.1 hm;rw[Nv]at hi;split at hi
  .rename_i hij;have e1:=N5.1 ha;have e2:=N5.1 hi;have:=List.pairwise_iff_getElem.1 hp i y e2.1 e1.1 hij;rw[e1.2,e2.2]at this;omega
  cases hi
 simp[WR,hs,hno]
theorem idx_asc {al:List Nat} {y a:Nat} (hp:al.Pairwise (· < ·)) (ha:al[y]? =some a):al.idxOf a=y:=by
 have hm:=N3 ha;have h1:=X6Q hm;have e1:=N5.1 ha;have e2:=N5.1 h1;rcases Nat.lt_trichotomy (al.idxOf a) y with h|h|h
 .have:=List.pairwise_iff_getElem.1 hp _ _ e2.1 e1.1 h;rw[e1.2,e2.2]at this;omega
 .exact h
 have:=List.pairwise_iff_getElem.1 hp _ _ e1.1 e2.1 h;rw[e1.2,e2.2]at this;omega
theorem bdy_set {nh:Nat} {al:List Nat} {body:List St} {y a:Nat} {s:St} (hp:al.Pairwise (· < ·)) (ha:al[y]? =some a) (hs:body[a]? =some s):(WR nh al y body).set a (X3Q nh al a s)=WR nh al (y+1) body:=by
 refine NP fun i=>?_;have hlt:=(N5.1 hs).1;have htk:al.take (y+1)=al.take y++[a]:=by rw[List.take_add_one,ha];rfl
 rw[D1];by_cases e:a=i
 .subst e;rw[N9 rfl,N9 (by simp[WR,hlt])];simp[WR,hs,htk]
 rw[N6 e];simp only[WR,List.getElem?_mapIdx,htk,NC,NS,Ne.symm e,or_false]
theorem Xay (l:List St) (i:Nat) (t:St):Xf (l.set i t)=(Xf l).set i t.enc:=by simp[QZ,List.map_set]
theorem X4G (l:List Ht) (h:Ht):Xu (l++[h])=Xu l++[h.enc]:=by simp[Xu]
theorem rel_nl {nh:Nat} {al:List Nat} {body:List St} {y a:Nat} {s:St} {n:Int} (hp:al.Pairwise (· < ·)) (ha:al[y]? =some a) (hs:body[a]? =some s) (hn:n=(nh:Int)+y):
  nlR ((Xf (WR nh al y body)).set a [iC 5,iC s.cost,iC s.var,iC n,iC 0,iC 0,.lit (.slice none 0 0),.lit (.slice none 0 0),.lit (.slice none 0 0),.lit (.slice none 0 0)]) (Xf (WR nh al (y+1) body)):=by
 rw[<-bdy_set hp ha hs,Xay];refine X6x ?_;unfold X3Q;rw[idx_asc hp ha,<-hn];simp[St.enc,Tm.enc,Xg,Xf,Xk,nlL]
theorem hat_nil (f:Fl) (T:Nat->St->Tm):QM nmH T f []=f:=by
 unfold QM WR QW
 have:(fun(k:Nat) (s:St)=>if k∈([]:List Nat).take ([]:List Nat).length then X3Q f.hats.length [] k s else s)=fun _ s=>s:=by
  funext k s
  simp
 rw[this,X0h]
theorem X9B (vars:List Vr) {vl:List Tm} (w:Vr) {t:Tm} (h:∀u∈vl,u.nodes<=1030) (ht:t.nodes<=1024):(stP vars vl w t).1.nodes<=1000000:=by
 rcases hP:stP vars vl w t with⟨P1,P2⟩;obtain⟨hA,hB⟩:=X7P vars vl w t hP;by_cases hz:4096<szP vl (Qh t)
 .rw[(hA hz).1];simp[X18,Tm.nodes,Xs]
 rw[(hB hz).1];have h4:=X6G vl t;have h5:=X9n h (Qh t);simp only;omega
theorem mem_tw {last i:Int}:∀{L:List Int},L.Pairwise (· < ·)->i∈L->i<=last->i∈L.takeWhile fun a=>decide (a<=last)
 |[],_,h,_=>by cases h
 | b::L,hp,h,hi=>by
   have hbl:b<=last:=by
    rcases Ni.1 h with rfl|h
    .exact hi
    have:=(NV.1 hp).1 i h;omega
   rw[List.takeWhile_cons_of_pos (by simpa using hbl)];rcases Ni.1 h with rfl|h
   .simp
   exact Nx _ (mem_tw (NV.1 hp).2 h hi)
set_option maxHeartbeats 64000000 in
theorem X8j (f:Fl) (at_:List Int) (hla:at_.length<=12) (hv:f.vars.length<=1000) (hh:f.hats.length<=10) (hn:Xe f.body+XN f.hats<=100000) (hb:Qm f.body=true)
  (hk:XU f=0->e5 f at_=0->∀d,Con Tryz.prog 37 false [aF (QM nmH (otG (stP f.vars) f.vars f.body) f (at_.map Int.toNat))] (.tup [aF (Z9 (QM nmH (otG (stP f.vars) f.vars f.body) f (at_.map Int.toNat))).1,li (Z9 (QM nmH (otG (stP f.vars) f.vars f.body) f (at_.map Int.toNat))).2]) none d) (d:Nat):
  Con Tryz.prog 17 false [aF f,lI at_] (.tup [aF (htF f at_).1,li (htF f at_).2]) none d:=by
 have cc:=X1W f (by omega) (by omega) (by omega) hb;have ccu:=X7a f (by have:=XB f.body;omega);have csz:=Xar f (by omega);have cp:=X4k f (by omega) (by omega) (fun h hm=>by have:=Wz hm;omega) (by omega) hb;have cps:=X5e f (by omega) (by omega) (fun h hm=>by have:=Wz hm;omega) (by omega) hb;have ct:=fun h0 last=>Xaq f h0 last;have cko:=fun x=>X2u (cuL f.body 0) x (by have:=X40 f.body 0;have:=XB f.body;omega);have hszl:szL f.body<=100000:=by have:=X0z f.body;omega
 have hok:=@at_ok f at_;have Zf:=@XA f;obtain⟨res,hres⟩:∃r,htF f at_=r:=⟨_,rfl⟩;rw[hres];unfold htF at hres;have he5:e5 f at_=if Z5 at_=true then X4b (szL f.body) (cuL f.body 0) at_ else 10:=rfl;have hnil:=hat_nil f (otG (stP f.vars) f.vars f.body)
 have hHT:∀(y:Nat) (a:Nat) (s:St) (w:Vr),(at_.map Int.toNat)[y]? =some a->f.body[a]? =some s->f.vars[s.var.toNat]? =some w->
   QW nmH (otG (stP f.vars) f.vars f.body) f.vars f.body f.hats ((at_.map Int.toNat).take (y+1))=QW nmH (otG (stP f.vars) f.vars f.body) f.vars f.body f.hats ((at_.map Int.toNat).take y)++[⟨nmH (QW nmH (otG (stP f.vars) f.vars f.body) f.vars f.body f.hats ((at_.map Int.toNat).take y)),w.low,w.high,otP f (a:Int)⟩]:=by
  intro y a s w h1 h2 h3;rw[List.take_add_one,h1,Option.toList_some,X1g];unfold X1x otP;rw[h2,Option.getD_some,h3,Option.getD_some,Int.toNat_natCast,h2,Option.getD_some]
 have hHl:=fun y=>X26 (nm:=nmH) (T:=otG (stP f.vars) f.vars f.body) (vars:=f.vars) (body:=f.body) ((at_.map Int.toNat).take y) f.hats
 have hmt:∀last i:Int,i∈cuL f.body 0->i<=last->X0t (.int .i64) (.int .i64 i) (mpT f last)=some (some (.ag (otP f i).enc)):=fun last i h1 h2=>by
  exact X7y f i _ (mem_tw (X3w f.body 0).1 h1 h2)
 obtain⟨CL,hCL⟩:∃x,cuL f.body 0=x:=⟨_,rfl⟩;rw[hCL]at ccu cko he5 hok hmt;obtain⟨SZ,hSZ⟩:∃x,szL f.body=x:=⟨_,rfl⟩;rw[hSZ]at csz hszl he5;obtain⟨al,hal⟩:∃x,at_.map Int.toNat=x:=⟨_,rfl⟩;rw[hal]at hres hHT hHl hok hk;obtain⟨ot,hot⟩:∃x,otP f=x:=⟨_,rfl⟩;obtain⟨MT,hMT⟩:∃x,mpT f=x:=⟨_,rfl⟩;rw[hot]at hmt hHT;rw[hMT]at hmt ct;obtain⟨E5,hE5⟩:∃x,e5 f at_=x:=⟨_,rfl⟩;rw[hE5]at hres he5 hok hk;obtain⟨HX,hHS⟩:∃HX:Nat->List Ht,∀y,QW nmH (otG (stP f.vars) f.vars f.body) f.vars f.body f.hats (al.take y)=HX y:=⟨_,fun _=>rfl⟩;obtain⟨BD,hBD⟩:∃BD:Nat->List St,∀y,WR f.hats.length al y f.body=BD y:=⟨_,fun _=>rfl⟩
 have hB0:BD 0=f.body:=by
  rw[<-hBD];unfold WR
  have:(fun(k:Nat) (s:St)=>if k∈al.take 0 then X3Q f.hats.length al k s else s)=fun _ s=>s:=by
   funext k s
   simp
  rw[this,X0h]
 have hH0:HX 0=f.hats:=by rw[<-hHS];rfl
 have hBg:=fun hp y a s h1 h2=>@X9O f.hats.length al f.body y a s hp h1 h2;have hBn:=fun hp y a s n h1 h2 h3=>@rel_nl f.hats.length al f.body y a s n hp h1 h2 h3;simp only[hHS,hBD]at hHT hHl hBg hBn
 have hF:QM nmH (otG (stP f.vars) f.vars f.body) f al=⟨f.vars,HX al.length,BD al.length⟩:=by
  unfold QM;rw[<-hHS,<-hBD,List.take_length]
 have hnil2:at_=[]->QM nmH (otG (stP f.vars) f.vars f.body) f al=f:=fun h=>by
  rw[<-hal,h];exact hnil
 rw[hF]at hres hk hnil2;obtain⟨C,hC⟩:∃x,XU f=x:=⟨_,rfl⟩;have hkf:C=0->Z9 f=(f,0):=fun h=>by unfold Z9;rw[hC,N9 h]
 rw[hC]at cc hres ct hk
 have hvl:C=0->∀(a:Nat) (s:St),f.body[a]? =some s->s.do_=0->∃(v:Nat) (w:Vr),s.var=(v:Int)/\f.vars[v]? =some w/\s.term.nodes<=1024:=fun h a s h1 h2=>by
  obtain⟨hz,_,_,hsc,_⟩:=Zf (hC.trans h);obtain⟨h3,w,h4⟩:=W0 ((Z8 f.body true a s hsc h1).2 h2);simp only[W5,N4,N7]at hz;have:=Q2 (N3 h1);exact⟨s.var.toNat,w,by omega,h4,by omega⟩
 have hall:al.length=at_.length:=by rw[<-hal];simp
 have halg:∀(y:Nat) (i:Int),at_[y]? =some i->al[y]? =some i.toNat:=fun y i h=>by rw[<-hal];simp[h]
 have hon:∀(a:Nat) (s:St),f.body[a]? =some s->s.do_=0->s.term.nodes<=1024->(ot (a:Int)).nodes<=1000000:=fun a s h1 h2 h3=>by
  rw[<-hot];unfold otP otG;rw[Int.toNat_natCast,h1,Option.getD_some];exact X9B f.vars _ (X0V (st:=stP f.vars) (B:=1030) (fun vl w t=>X3r f.vars vl w t) (by omega) f.vars f.body a) h3
 clear hC hHS hBD hal hCL hSZ hot hMT hE5 hnil Zf hF;obtain⟨vars,hats,body⟩:=f;simp only at hv hh hn hb hHT hHl hB0 hH0 hBg hBn hk hnil2 hvl hon hres;refine X2 Tryz.func17 ?_;simp only[Tryz.f17];simp only[aF,Fl.enc,Na,Nb]at cc ccu csz cp cps ct⊢;refine X4 ?_;refine X0<|X0<|(Xa cc ?_);refine(X8 (fun h3=>?_) fun h3=>?_)
 .rw[N6 h3]at hres;subst hres;refine X4 ?_;refine Q6 (Ww 4 [.c (.sl 5 []),.c (.sl 6 []),.c (.sl 10 [])] rfl (by(repeat'(first|exact LWk.nil|apply LWk.cons|exact CWk.refl _|exact CWk.nil _)))) ?_;exact Xn ⟨.inr rfl,_,le_refl _,⟨⟨_,by simp;rfl,by simp[Xl,fl0]⟩,by simp,fun h=>by cases h⟩⟩
 have hC0:C=0:=by simpa using h3
 rw[N9 hC0]at hres;have ct:=ct hC0;have hk:=hk hC0;have hvl:=hvl hC0;have hkf:=hkf hC0;clear h3 cc;refine X0<|X0<|X1 ?_;refine X3<|(Xb [1,2,4] (fun(x:Nat)=>[(7,.v (li ((x:Int)+1)))]) (fun(x:Nat)=>[(2,.box [.c (.sl 5 (Xr vars)),.c (.sl 6 (Xu hats)),.c (.sl 10 (Xf body))]),(4,.box [.c (.lit XR),.c (.lit XR),.c (.lit XR)])]) (fun(x:Nat)=>x<=at_.length/\∀j:Nat,j<x->WQ at_ j=true) (fun(x:Nat)=>at_.length - x) (0:Nat) ⟨Nc _,fun j hj=>absurd hj (by omega)⟩ ?_);rintro j ⟨hj,hJ⟩;simp only[LN,Nat.reduceBEq,Nat.reduceLT];refine X0<|(Xc (fun h9=>X6 ?_) fun h9=>?_)
 .have hlt:j+1<at_.length:=by omega
  obtain⟨x,hx⟩:=X0i hlt;obtain⟨y,hy⟩:=X0i (show j<at_.length by omega);have hwm:IntKind.i64.wrap (j:Int)=j:=X5;have hw2:IntKind.i64.wrap ((j:Int)+1+1)=(j:Int)+1+1:=X5;have hri:WQ at_ j=decide (y<x):=by unfold WQ;rw[hx,hy]
  have hj1:0<=(j:Int)+1:=by omega
  have hj2:((j:Int)+1).toNat=j+1:=by omega
  have hk1:j+1<=at_.length:=by omega
  have hj9:j<=1000:=by omega
  clear hlt h9 hBg hBn hHT hHl hvl hon hmt halg hok hk hnil2 hkf ct cp cps cko csz ccu hB0 hH0;refine X0<|X3<|X0<|(N0 ?_);refine(XM (fun h11=>?_) fun h11=>?_)
  .have hz:Z5 at_=false:=X3V (i:=j) (by omega) (by rw[hri];simp at h11⊢;omega);rw[N6 (by rw[hz];simp)]at he5;rw[N6 (by omega),he5]at hres;subst hres;clear he5 hJ;refine X4 ?_;refine Q6 (Ww 4 [.c (.sl 5 []),.c (.sl 6 []),.c (.sl 10 [])] rfl (by(repeat'(first|exact LWk.nil|apply LWk.cons|exact CWk.refl _|exact CWk.nil _)))) ?_;exact Xn ⟨.inr rfl,_,le_refl _,⟨⟨_,by simp;rfl,by simp[Xl,fl0]⟩,by simp,fun h=>by cases h⟩⟩
  refine X1 ?_
  exact Xj (j+1) (⟨hk1,fun i hi=>by
   rcases Nat.lt_or_eq_of_le (Nat.le_of_lt_succ hi)with h|h
   .exact hJ i (by omega)
   rw[h,hri];simp at h11⊢
   omega⟩)
 have hz:Z5 at_=true:=X1d fun i hi=>hJ i (by omega);have hasc:=X6S hz;rw[N9 hz]at he5;clear hJ hj h9 hz;refine(Xd ?_);refine X0<|(Xa ccu ?_);refine X0<|X0<|X1 ?_;refine X3<|(Xb [1,2,4,8,42,43] (fun(k:Nat)=>[(44,.v (li k))]) (fun(k:Nat)=>[(2,.box [.c (.sl 5 (Xr vars)),.c (.sl 6 (Xu hats)),.c (.sl 10 (Xf body))]),(4,.box [.c (.lit XR),.c (.lit XR),.c (.lit XR)])]) (fun(k:Nat)=>k<=at_.length/\X4b SZ CL (at_.drop k)=E5) (fun(k:Nat)=>at_.length - k) (0:Nat) ⟨Nc _,by simpa using he5.symm⟩ ?_);rintro k ⟨hk2,hJ⟩;simp only[LN,Nat.reduceBEq,Nat.reduceLT];clear he5 ccu;refine(XS (fun h20=>X6 ?_) fun h20=>?_)
 .have hlt:k<at_.length:=by omega
  obtain⟨i,hi,hd⟩:=Xw hlt;have hi':(Xk at_)[k]? =some [iC i]:=by rw[ZB,hi];rfl
  have hw1:=Xz hlt (by omega);have hk1:k+1<=at_.length:=hlt;have cko:=cko i;rw[hd]at hJ;simp only[X4b]at hJ;clear hlt h20 hi hd hBg hBn hHT hHl hvl hon hmt halg hok hk hnil2 hkf ct cp cps hB0 hH0;refine X0<|X3<|X0<|X1 ?_;by_cases hneg:i<0
  .refine X0<|X0<|(WI [none] (by simp[*];first|exact⟨rfl,trivial⟩|exact⟨rfl,Iff.rfl⟩|rfl) ?_ ?_)
   .trivial
   refine(XM (fun h23=>?_) fun h23=>?_)
   .rw[N9 (.inl hneg)]at hJ;rw[N6 (by omega),<-hJ]at hres;subst hres;clear hJ;refine X4 ?_;refine Q6 (Ww 4 [.c (.sl 5 []),.c (.sl 6 []),.c (.sl 10 [])] rfl (by(repeat'(first|exact LWk.nil|apply LWk.cons|exact CWk.refl _|exact CWk.nil _)))) ?_;exact Xn ⟨.inr rfl,_,le_refl _,⟨⟨_,by simp;rfl,by simp[Xl,fl0]⟩,by simp,fun h=>by cases h⟩⟩
   exact absurd h23 (by simp[hneg])
  refine X0<|X0<|(Xa csz ?_);refine(XM (fun h23=>?_) fun h23=>?_)
  .have h23':(SZ:Int)<=i:=by simpa[hneg]using h23
   rw[N9 (.inr h23')]at hJ;rw[N6 (by omega),<-hJ]at hres;subst hres;clear hJ;refine X4 ?_;refine Q6 (Ww 4 [.c (.sl 5 []),.c (.sl 6 []),.c (.sl 10 [])] rfl (by(repeat'(first|exact LWk.nil|apply LWk.cons|exact CWk.refl _|exact CWk.nil _)))) ?_;exact Xn ⟨.inr rfl,_,le_refl _,⟨⟨_,by simp;rfl,by simp[Xl,fl0]⟩,by simp,fun h=>by cases h⟩⟩
  have h23':¬(SZ:Int)<=i:=by simpa[hneg]using h23
  rw[N6 (by omega)]at hJ;obtain⟨B,hB⟩:∃B,decide (0<=X21 CL i 0)=B:=⟨_,rfl⟩;rw[hB]at cko;clear h23;refine X0<|(Xa cko ?_);refine(XM (fun h27=>?_) fun h27=>?_)
  .have hBf:B=false:=by simpa using h27
   rw[N6 (by rw[hBf]at hB;simpa using hB)]at hJ;rw[N6 (by omega),<-hJ]at hres;subst hres;clear hJ hB;refine X4 ?_;refine Q6 (Ww 4 [.c (.sl 5 []),.c (.sl 6 []),.c (.sl 10 [])] rfl (by(repeat'(first|exact LWk.nil|apply LWk.cons|exact CWk.refl _|exact CWk.nil _)))) ?_;exact Xn ⟨.inr rfl,_,le_refl _,⟨⟨_,by simp;rfl,by simp[Xl,fl0]⟩,by simp,fun h=>by cases h⟩⟩
  have hBt:B=true:=by simpa using h27
  rw[N9 (by rw[hBt]at hB;simpa using hB)]at hJ;refine X1 ?_;exact Xj (k+1) (⟨hk1,hJ⟩)
 have hkl:k=at_.length:=by omega
 rw[hkl,Nj]at hJ;have hE0:E5=0:=hJ.symm;rw[N9 hE0]at hres;obtain⟨hA,hA2⟩:=hok hE0;have hk:=hk hE0;clear hJ h20 hok cko csz hk2;refine(Xd ?_);refine X0<|(X8 (fun h33=>?_) fun h33=>?_)
 .have hat:at_=[]:=by simpa using h33
  have hn2:=hnil2 hat;rw[hn2,hkf]at hres;subst hres;clear hBg hBn hHT hHl hvl hon hmt halg hk hnil2 hkf ct cps hB0 hH0 hA hA2;refine X0<|(Xa cp ?_);exact Xn ⟨.inr rfl,_,le_refl _,⟨⟨_,by simp;rfl,by simp[Xl]⟩,by simp,fun h=>by cases h⟩⟩
 have hne:at_≠[]:=fun e=>h33 (by simp[e]);have hlp:=List.length_pos_iff.2 hne;have hpos:at_.length - 1<at_.length:=by omega
 clear hne;obtain⟨last,hlast⟩:=X0i hpos;have hlast':(Xk at_)[at_.length - 1]? =some [iC last]:=by rw[ZB,hlast];rfl
 have hwl:IntKind.i64.wrap ((at_.length:Int) - 1)=((at_.length - 1:Nat):Int):=by rw[X5 (by omega) (by omega)];omega
 have hle:∀(y:Nat) (i:Int),at_[y]? =some i->i<=last:=fun y i hi=>by
  have e1:=N5.1 hi;have e2:=N5.1 hlast;rcases Nat.lt_or_ge y (at_.length - 1)with h|h
  .have:=List.pairwise_iff_getElem.1 hasc y _ e1.1 e2.1 h;rw[e1.2,e2.2]at this;omega
  have:y=at_.length - 1:=by have:=e1.1;omega
  subst this;rw[hi]at hlast;cases hlast;exact NX _
 have ct:=ct last;have hmt:=hmt last;obtain⟨M0,hM0⟩:∃x,MT last=x:=⟨_,rfl⟩;rw[hM0]at ct hmt;clear hM0 hlast hpos cp hnil2 hkf hasc h33;refine X0<|(Xx [⟨false,.v (.one (.c (.mp M0))),none⟩] (by kernel_rfl) (by kernel_rfl) (by rfl) (by simp[*];first|exact⟨rfl,Iff.rfl⟩|exact⟨rfl,trivial⟩|rfl) ?_ ?_)
 .first|exact ct _|exact trivial|simpa[*]using ct _
 refine X0<|(X4I ?_);refine RunsS.cutE 1 [] (by simp[*];rfl) trivial (le_refl _) ?_;refine RunsS.call (fun n=>n) (fun n=>n) (by simp;rfl) (ZD (by simp) (by simp) (by simp) (by simp) (by simp)) cps (by rfl) ?_;refine RunsS.doneE [] (by simp;rfl) trivial ?_;clear ct cps hwl hlast';refine X0<|X0<|X1 ?_
 refine X3<|(Xb [2,4,11,78,79] (fun(y:Nat)=>[(80,.v (li y))]) (fun(y:Nat)=>[(2,.box [.c (.sl 5 (Xr vars)),.own 1001,.own 1002]),(4,.box [.c (.lit XR),.c (.lit XR),.c (.lit XR)]),(1001,.row 94 6 (Xu (HX y))),(1002,.row 63 10 (Xf (BD y)))]) (fun(y:Nat)=>y<=at_.length) (fun(y:Nat)=>at_.length - y) (0:Nat) (Nc _) ?_ (by
  rw[hH0,hB0]
  exact X59))
 rintro y hy;simp only[LN,Nat.reduceBEq,Nat.reduceLT];clear hH0 hB0;refine(XS (fun h41=>X6 ?_) fun h41=>?_)
 .have hlt:y<at_.length:=by omega
  obtain⟨i,hi,_⟩:=Xw hlt;have hmem:=hA2 i (N3 hi);have hla9:=hle y i hi;have hay9:=halg y i hi;obtain⟨a,rfl⟩:∃a:Nat,i=a:=⟨i.toNat,by omega⟩;rw[Int.toNat_natCast]at hay9;have hi':(Xk at_)[y]? =some [iC (a:Nat)]:=by rw[ZB,hi];rfl
  obtain⟨s,hs,hd0⟩:=hA.get a (N3 hay9);obtain⟨v,w,hvv,hw,htn⟩:=hvl a s hs hd0;have hHT:=hHT y a s w hay9 hs (by rw[hvv];simpa using hw);have hBg:=Q7 (hBg hA.asc y a s hay9 hs);have hnl:=hBn hA.asc y a s ((hats.length:Int)+y) hay9 hs rfl;have hfind:=hmt a hmem.2 hla9
  have hln:(HX y).length=hats.length+y:=by
   rw[hHl,Ns,hall];omega
  obtain⟨hf1,_⟩:=X14 (hs:=HX y) (by omega);have cf:=X8K ⟨vars,HX y,BD y⟩ (by simp only;omega);have hcat:=(X4O (frK (HX y)) (by omega)).1;have cn:=X7E X0c (frK (HX y)) (by omega) hcat;have ctm:=X0p (ot (a:Nat)) (hon a s hs hd0 htn);have hHe:=X4G (HX y) ⟨nmH (HX y),w.low,w.high,ot (a:Nat)⟩;rw[<-hHT]at hHe;unfold nmH at hHe;obtain⟨kf,hkf9⟩:∃k,frK (HX y)=k:=⟨_,rfl⟩;simp only at cf;rw[hkf9]at cf cn hHe;obtain⟨NM,hNM⟩:∃x,X0c++X2e kf=x:=⟨_,rfl⟩;rw[hNM]at cn hHe;rcases hO:ot (a:Nat)with⟨uo,un,uk⟩;rw[hO]at ctm hfind hHe;obtain⟨sd,sc,sv,sn,⟨so,stn,sks⟩,sa,sb,sbs⟩:=s;obtain⟨wn,wk,wl,wh,wi⟩:=w;simp only[St.cost,St.var]at hnl hvv;subst hvv;have hw':(Xr vars)[v]? =some [sC wn,iC wk,iC wl,iC wh,iC wi]:=by rw[X0f,hw];rfl
  simp only[aT,Ht.enc,Tm.enc,St.enc,Fl.enc,Na,Nb,List.cons_append,List.nil_append]at ctm hfind hHe hBg cf;obtain⟨W,hW⟩:∃W,(Xf (BD y)).set a [iC 5,iC sc,iC v,iC ((hats.length:Int)+y),iC 0,iC 0,.lit (.slice none 0 0),.lit (.slice none 0 0),.lit (.slice none 0 0),.lit (.slice none 0 0)]=W:=⟨_,rfl⟩;rw[hW]at hnl;have hw1:=Xz hlt (by omega);have hy1:y+1<=at_.length:=hlt;have hroom:QF ((HX y).length+1) 72:=XO (by omega) (by decide);simp only[sC,X0c]at cn;clear hlt h41 hi hmem hla9 hay9 hs hd0 hw htn hHT hBn hmt hHl hon hvl hA hA2 hle halg hf1 hcat hkf9 hNM hO hk hres;refine X0<|X3<|X0<|X1 ?_;refine X4 ?_;refine X0<|(Xa cf ?_);refine X4 ?_;refine X0<|(XF (by simp[*,XG,Qp,XW];rfl) ?_);clear cf;refine Q6 (s':=⟨⟨130,none⟩,[(2,.v (.one (.at_ 2 0))),(4,.v (.one (.at_ 4 0))),(11,.v (.one (.c (.mp M0)))),(13,.v (li (a:Nat))),(14,.v (.one (.at_ 14 0))),(15,.v (li kf)),(16,.v (.one (.at_ 16 0))),(78,.v (lI at_)),(79,.v (li at_.length)),(80,.v (li y))],[(2,.box [.c (.sl 5 (Xr vars)),.own 1001,.own 1002]),(4,.box [.c (.lit XR),.c (.lit XR),.c (.lit XR)]),(14,.box [.c (iC sd),.c (iC sc),.c (iC v),.c (iC sn),.c (iC so),.c (iC stn),.c (.sl 3 (Xg sks)),.c (.sl 10 (Xf sa)),.c (.sl 10 (Xf sb)),.c (.sl 1 (Xk sbs))]),(16,.box [.c (sC wn),.c (iC wk),.c (iC wl),.c (iC wh),.c (iC wi)]),(1001,.row 94 6 (Xu (HX y))),(1002,.row 63 10 W)]⟩) X59 ?_;refine(X55 (fun D=>⟨⟨130,none⟩,(2,.v (.one (.at_ 2 0)))::(4,.v (.one (.at_ 4 0)))::(11,.v (.one (.c (.mp M0))))::(13,.v (li (a:Nat)))::(14,.v (.one (.at_ 14 0)))::(15,.v (li kf))::(16,.v (.one (.at_ 16 0)))::(78,.v (lI at_))::(79,.v (li at_.length))::(80,.v (li y))::oL (D 0) (109,.v (.one (.at_ 2 1))) (oL (D 1) (110,.v (.one (.own 1001))) (oL (D 2) (111,.v (li kf)) (oL (D 3) (112,.v (.one (.c (sC NM)))) (oL (D 4) (113,.v (.one (.at_ 16 2))) (oL (D 5) (114,.v (li wl)) (oL (D 6) (115,.v (.one (.at_ 16 3))) (oL (D 7) (116,.v (li wh)) (oL (D 8) (117,.v (.one (.c (.mp M0)))) (oL (D 9) (118,.v (li (a:Nat))) (oL (D 10) (119,.v (.agg [.c (iC uo),.c (iC un),.c (.sl 3 (Xg uk))])) (oL (D 11) (120,.v (.agg [.c (iC uo),.c (iC un),.c (.sl 3 (Xg uk))])) (oL (D 12) (121,.v (.agg [.c (sC NM),.c (iC wl),.c (iC wh),.c (iC uo),.c (iC un),.c (.sl 3 (Xg uk))])) (oL (D 13) (122,.v (.one (.c (.sl 6 [[sC NM,iC wl,iC wh,iC uo,iC un,.sl 3 (Xg uk)]])))) (oL (D 14) (123,.v (.one (.own 123))) (oL (D 15) (124,.v (.one (.at_ 2 1))) ([])))))))))))))))),(2,.box [.c (.sl 5 (Xr vars)),if D 16=true then .own 123 else .own 1001,.own 1002])::(4,.box [.c (.lit XR),.c (.lit XR),.c (.lit XR)])::(14,.box [.c (iC sd),.c (iC sc),.c (iC v),.c (iC sn),.c (iC so),.c (iC stn),.c (.sl 3 (Xg sks)),.c (.sl 10 (Xf sa)),.c (.sl 10 (Xf sb)),.c (.sl 1 (Xk sbs))])::(16,.box [.c (sC wn),.c (iC wk),.c (iC wl),.c (iC wh),.c (iC wi)])::oL (D 14) (123,.row 94 6 (Xu (HX y)++[[sC NM,iC wl,iC wh,iC uo,iC un,.sl 3 (Xg uk)]])) (oL (!D 14) (1001,.row 94 6 (Xu (HX y))) ((1002,.row 63 10 W)::[]))⟩) [(0,[],[1,14,15,16]),(1,[0],[14,15,16]),(2,[],[3,11,12,13,14,15,16]),(3,[2],[11,12,13,14,15,16]),(4,[],[5,12,13,14,15,16]),(5,[4],[12,13,14,15,16]),(6,[],[7,12,13,14,15,16]),(7,[6],[12,13,14,15,16]),(8,[],[10,11,12,13,14,15,16]),(9,[],[10,11,12,13,14,15,16]),(10,[8,9],[11,12,13,14,15,16]),(11,[2,3,8,9,10],[12,13,14,15,16]),(12,[2,3,4,5,6,7,8,9,10,11],[13,14,15,16]),(13,[2,3,4,5,6,7,8,9,10,11,12],[14,15,16]),(14,[0,1,2,3,4,5,6,7,8,9,10,11,12,13],[15,16]),(15,[0,1,2,3,4,5,6,7,8,9,10,11,12,13,14],[16]),(16,[0,1,2,3,4,5,6,7,8,9,10,11,12,13,14,15],[])] rfl (by kernel_rfl) (by kernel_rfl) (Zo (by simp)) (fun D=>⟨?_,?_,?_,?_,?_,?_,?_,?_,?_,?_,?_,?_,?_,?_,?_,?_,?_,trivial⟩) ?_)
  all_goals try(intro h0 h1 h2;simp only[allM]at h1 h2)
  case refine_4=>refine Qk.evZ [⟨true,.v (.one (.c (sC NM))),none⟩] rfl (by simp[h0,h1,h2];first|exact⟨rfl,Iff.rfl⟩|exact⟨rfl,trivial⟩|rfl) (by first|exact cn _|simpa using cn _) ?_;exact Zo (by simp[h0,h1,h2])
  case refine_11=>refine Qk.evZ [] rfl (by simp[h0,h1,h2,hfind];rfl) trivial ?_;exact le_trans (le_ofAg 119 [iC uo,iC un,.sl 3 (Xg uk)] (by simp[h0,h1,h2])) (Zo (by simp[h0,h1,h2]))
  case refine_12=>refine Qk.evZ [⟨false,.v (.agg [.c (iC uo),.c (iC un),.c (.sl 3 (Xg uk))]),none⟩] rfl (by simp[h0,h1,h2];first|exact⟨rfl,Iff.rfl⟩|exact⟨rfl,trivial⟩|rfl) (by first|exact ctm _|simpa using ctm _) ?_;exact Zo (by simp[h0,h1,h2])
  case refine_14=>refine Qk.evZ [] rfl (by simp[h0,h1,h2,XG,Qp,XW,cellsOf,WG,WE];rfl) trivial ?_;exact le_trans (XL 122 (by simp[h0,h1,h2];exact⟨rfl,rfl,rfl⟩)) (Zo (by simp[h0,h1,h2,HS.frz,X0R,RV.frz,TV.frz,CV.frz,Ob.frz]))
  all_goals try(refine Qk.evZ [] rfl (by simp[h0,h1,h2,hroom,XG,Qp,XW,cellsOf,WG,WE,X0O,WT,Zm,Wt];rfl) trivial ?_;exact Zo (by simp[h0,h1,h2]))
  refine Q6 (s':=⟨⟨130,none⟩,[(2,.v (.one (.at_ 2 0))),(4,.v (.one (.at_ 4 0))),(11,.v (.one (.c (.mp M0)))),(13,.v (li (a:Nat))),(14,.v (.one (.at_ 14 0))),(15,.v (li kf)),(16,.v (.one (.at_ 16 0))),(78,.v (lI at_)),(79,.v (li at_.length)),(80,.v (li y))],[(2,.box [.c (.sl 5 (Xr vars)),.own 1001,.own 1002]),(4,.box [.c (.lit XR),.c (.lit XR),.c (.lit XR)]),(1001,.row 94 6 (Xu (HX y)++[[sC NM,iC wl,iC wh,iC uo,iC un,.sl 3 (Xg uk)]])),(1002,.row 63 10 W)]⟩) ?_ ?_
  .exact QJ (fun n=>if n=1001 then 123 else n) [] rfl (by simp) (by simp) (by simp)
  refine X1 ?_;exact Xj (y+1) hy1 (hl:=by rw[hHe];exact le_trans (ZH (rows':=Xf (BD (y+1))) 1002 rfl hnl) (QJ (fun n=>n) [] rfl (by simp[upS,Ql,rwO]) (by simp[upS,rwO]) (by simp[upS])))
 obtain rfl:y=at_.length:=by omega
 have hk:=hk;rw[hall]at hk hres;clear hBg hBn hHT hHl hvl hon hmt halg hle hA hA2 h41 hy;obtain⟨HZ,hHZ⟩:∃x,HX at_.length=x:=⟨_,rfl⟩;obtain⟨BZ,hBZ⟩:∃x,BD at_.length=x:=⟨_,rfl⟩;rw[hHZ,hBZ]at hk hres;rw[hHZ,hBZ];rw[hres]at hk;obtain⟨⟨kv,kh,kb⟩,kc⟩:=res;simp only[aF,Fl.enc,Na,Nb]at hk⊢;clear hres hHZ hBZ;refine(Xd ?_);refine Q6 (XL 1001 rfl) ?_;refine Q6 (XL 1002 rfl) ?_;refine X0<|(Xa hk ?_);exact Xn ⟨.inr rfl,_,le_refl _,⟨⟨_,by simp;rfl,by simp[Xl]⟩,by simp,fun h=>by cases h⟩⟩
end Go.Proofs.YtdccocolnaklkaaGreatDoor
