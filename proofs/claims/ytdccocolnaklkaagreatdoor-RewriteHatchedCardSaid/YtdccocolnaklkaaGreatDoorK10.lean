/- Contracts of functions and plain facts about what they compute. Conditions: as each theorem states. -/
import Derived.Test.YtdccocolnaklkaaGreatDoorK9
import Derived.Test.YtdccocolnaklkaaGreatDoorK6
import Derived.Test.YtdccocolnaklkaaGreatDoorH5
set_option linter.unusedSimpArgs false
set_option linter.unusedVariables false
set_option linter.unnecessarySimpa false
set_option maxRecDepth 100000
set_option maxHeartbeats 2000000
namespace Go.Proofs.YtdccocolnaklkaaGreatDoor
open Go Go.Hl
open Tryz(prog)
theorem X5I (n:Int):Qm (Zg n)=true:=by
 unfold Zg;split<;>simp[Qm,X01]
theorem X7F:∀a b:List St,Qm (a++b)=(Qm a&&Qm b)
 |[],b=>by simp[Qm]
 |s::a,b=>by simp[Qm,X7F a b,NR]
theorem balS_bnd (s:St) (h:X01 s=true):X01 (balS s)=true:=by
 obtain⟨d,c,v,n,t,a,b,bs⟩:=s;simp only[X01,N4,N7]at h;unfold balS;simp only;split
 .simp[X01,X7F,X5I,h.1,h.2.1,h.2.2]
 split
 .simp[X01,Qm,X5I,h.1,h.2.1,h.2.2]
 simp[X01,h.1,h.2.1,h.2.2]
theorem X41:∀l:List St,Qm l=true->Qm (evL l)=true
 |[],_=>by simp[evL,Qm]
 | .mk d c v n t a b bs::l,h=>by
   simp only[Qm,X01,N4,N7]at h;have ha:=X41 a h.1.2.1;have hb:=X41 b h.1.2.2;have hl:=X41 l h.2;simp only[evL,Qm,hl,Bool.and_true];exact balS_bnd _ (by simp[X01,ha,hb,h.1.1])
def fl0:Fl:=⟨[],[],[]⟩
def Z9 (f:Fl):Fl×Int:=if XU f=0 then(f,0)else(fl0,4)
def evF (f:Fl):Fl×Int:=if XU f=0 then Z9 ⟨f.vars,f.hats,evL f.body⟩ else(fl0,XU f)
theorem X3A (f:Fl) (hv:f.vars.length<=1000000) (hh:f.hats.length<=1000000) (hn:Xe f.body+XN f.hats<=900000000) (hb:Qm f.body=true) (d:Nat):
  Con prog 37 false [aF f] (.tup [aF (Z9 f).1,li (Z9 f).2]) none d:=by
 have cc:=X1W f hv hh hn hb;obtain⟨vars,hats,body⟩:=f;obtain⟨res,hres⟩:∃r,Z9 ⟨vars,hats,body⟩=r:=⟨_,rfl⟩;rw[hres];unfold Z9 at hres;obtain⟨C,hC⟩:∃x,XU ⟨vars,hats,body⟩=x:=⟨_,rfl⟩;rw[hC]at cc hres;clear hC;refine X2 Tryz.func37 ?_;simp only[Tryz.f37];simp only[aF,Fl.enc,Na,Nb]at cc⊢;refine X4 ?_;refine X0<|X0<|(Xa cc ?_);refine(XM (fun h2=>?_) fun h2=>?_)
 .rw[N6 h2]at hres;subst hres;refine X4 ?_;refine Q6 (Ww 2 [.c (.sl 5 []),.c (.sl 6 []),.c (.sl 10 [])] rfl (by(repeat'(first|exact LWk.nil|apply LWk.cons|exact CWk.refl _|exact CWk.nil _)))) ?_;exact Xn ⟨.inr rfl,_,le_refl _,⟨⟨_,by simp;rfl,by simp[Xl,fl0]⟩,by simp,fun h=>by cases h⟩⟩
 rw[N9 (by simpa using h2)]at hres;subst hres;refine X4 ?_;exact Xn ⟨.inr rfl,_,le_refl _,⟨⟨_,by simp;rfl,by simp[Xl]⟩,by simp,fun h=>by cases h⟩⟩
theorem X5x (f:Fl) (hv:f.vars.length<=1000000) (hh:f.hats.length<=1000000) (hn:Xe f.body+XN f.hats<=100000) (hb:Qm f.body=true) (d:Nat):
  Con prog 24 false [aF f] (.tup [aF (evF f).1,li (evF f).2]) none d:=by
 have cc:=X1W f hv hh (by omega) hb;have cp:=X4k f hv hh (fun h hm=>by have:=Wz hm;omega) (by omega) hb;have ce:=even_con f.body (by omega);have hen:=Zw f.body;have ck:=X3A ⟨f.vars,f.hats,evL f.body⟩ hv hh (by simp only;omega) (X41 _ hb);obtain⟨res,hres⟩:∃r,evF f=r:=⟨_,rfl⟩;rw[hres];unfold evF at hres;obtain⟨C,hC⟩:∃x,XU f=x:=⟨_,rfl⟩;obtain⟨K,hK⟩:∃x,Z9 ⟨f.vars,f.hats,evL f.body⟩=x:=⟨_,rfl⟩;rw[hC]at cc hres;rw[hK]at ck hres;clear hC hK hen;obtain⟨vars,hats,body⟩:=f;obtain⟨⟨kv,kh,kb⟩,kc⟩:=K;simp only at hv hh hn hb cc cp ce ck hres;refine X2 Tryz.func24 ?_;simp only[Tryz.f24];simp only[aF,Fl.enc,Na,Nb]at cc cp ck⊢;refine X4 ?_;refine X0<|X0<|(Xa cc ?_);refine(X8 (fun h3=>?_) fun h3=>?_)
 .rw[N6 h3]at hres;subst hres;refine X4 ?_;refine Q6 (Ww 2 [.c (.sl 5 []),.c (.sl 6 []),.c (.sl 10 [])] rfl (by(repeat'(first|exact LWk.nil|apply LWk.cons|exact CWk.refl _|exact CWk.nil _)))) ?_;exact Xn ⟨.inr rfl,_,le_refl _,⟨⟨_,by simp;rfl,by simp[Xl,fl0]⟩,by simp,fun h=>by cases h⟩⟩
 rw[N9 (by simpa using h3)]at hres;subst hres;refine X0<|(Xa cp ?_);refine ZY [⟨false,.v (.one (.own 15)),some (.row 63 10 (Xf (evL body)))⟩] ?_ ?_
 .first|exact ce 15 (by decide)|exact trivial|simpa[*]using ce 15 (by decide)
 refine Q6 (XL 15 rfl) ?_;refine X0<|(Xa ck ?_);exact Xn ⟨.inr rfl,_,le_refl _,⟨⟨_,by simp;rfl,by simp[Xl]⟩,by simp,fun h=>by cases h⟩⟩
theorem Xa4 (n:Int) (d:Nat):Con prog 23 false [li n] (.v (aT (.mk 24 n []))) none d:=by
 refine X2 Tryz.func23 ?_;simp only[Tryz.f23];simp only[aT,Tm.enc,Na,Nb,Xg];refine X4 ?_;refine X4 ?_;refine Q6 (Ww 2 [.c (iC 24),.c (iC n),.c (.sl 3 [])] rfl (by(repeat'(first|exact LWk.nil|apply LWk.cons|exact CWk.refl _|exact CWk.nil _)))) ?_;exact Xn ⟨.inr rfl,_,le_refl _,⟨⟨_,by simp;rfl,by simp[Xl]⟩,by simp,fun h=>by cases h⟩⟩
def nX:ByteArray:=⟨#[120]⟩
def nY:ByteArray:=⟨#[121]⟩
def F1:Fl:=⟨[⟨nX,1,0,3,0⟩,⟨nY,0,0,3,0⟩],[],[.mk 3 1 0 0 (.mk 24 0 []) [.mk 2 5 0 0 (.mk 0 0 []) [] [] []] [] [],.mk 1 2 0 0 (.mk 24 1 []) [] [] []]⟩
def F2:Fl:=⟨[⟨nX,0,0,3,2⟩],[],[.mk 4 1 0 3 (.mk 24 0 []) [.mk 0 2 0 0 (.mk 9 0 [.mk 24 0 [],.mk 0 1 []]) [] [] []] [] []]⟩
def G1:Fl:=⟨[⟨nX,1,0,3,0⟩,⟨nY,0,0,3,0⟩],[],[.mk 3 1 0 0 (.mk 24 0 []) [.mk 2 5 0 0 (.mk 0 0 []) [] [] []] [.mk 2 5 0 0 (.mk 0 0 []) [] [] []] [],.mk 1 2 0 0 (.mk 24 1 []) [] [] []]⟩
def G2:Fl:=⟨[⟨nX,0,0,3,2⟩],[],[.mk 4 1 0 3 (.mk 0 1 []) [.mk 3 0 0 0 (.mk 24 0 []) [.mk 0 2 0 0 (.mk 9 0 [.mk 24 0 [],.mk 0 1 []]) [] [] []] [.mk 2 2 0 0 (.mk 0 0 []) [] [] []] []] [] []]⟩
theorem cF1:XU F1=0:=by
 simp only[XU,W5,F1,sdL,QT,ssC];kernel_rfl
theorem cF2:XU F2=0:=by
 simp only[XU,W5,F2,sdL,QT,ssC];kernel_rfl
theorem cG1:XU G1=0:=by
 simp only[XU,W5,G1,sdL,QT,ssC];kernel_rfl
theorem cG2:XU G2=0:=by
 simp only[XU,W5,G2,sdL,QT,ssC];kernel_rfl
theorem eF1:evL F1.body=G1.body:=by
 simp only[F1,evL];kernel_rfl
theorem eF2:evL F2.body=G2.body:=by
 simp only[F2,evL];kernel_rfl
theorem ev1:evF F1=(G1,0):=by
 unfold evF;rw[N9 cF1,eF1];exact N9 cG1
theorem ev2:evF F2=(G2,0):=by
 unfold evF;rw[N9 cF2,eF2];exact N9 cG2
theorem play1:WP G1 ⟨[0],[],[]⟩=(⟨[0,0],[0],8⟩,0):=by
 unfold WP;rw[N9 cG1];simp only[G1,XT];kernel_rfl
theorem play2:WP G2 ⟨[],[],[]⟩=(⟨[0],[],9⟩,0):=by
 unfold WP;rw[N9 cG2];simp only[G2,XT];kernel_rfl
theorem run1:ZO G1 ⟨[0],[],[]⟩=(⟨[0],8⟩,0):=by
 unfold ZO;rw[play1];rfl
theorem run2:ZO G2 ⟨[],[],[]⟩=(⟨[],9⟩,0):=by
 unfold ZO;rw[play2];rfl
theorem Xb6 (d:Nat):Con prog 5 true [] (.v (lb true)) none d:=by
 have r0:=Xa4 0;have r1:=Xa4 1;have e1:=X5x F1 (by decide) (by decide) (by decide) (by kernel_rfl);have e2:=X5x F2 (by decide) (by decide) (by decide) (by kernel_rfl);have u1:=X69 G1 ⟨[0],[],[]⟩ (by decide) (by decide) (by decide) (by kernel_rfl) (fun _=>⟨by kernel_rfl,by decide,by intro h hh;cases hh⟩);have u2:=X69 G2 ⟨[],[],[]⟩ (by decide) (by decide) (by decide) (by kernel_rfl) (fun _=>⟨by kernel_rfl,by decide,by intro h hh;cases hh⟩);rw[ev1]at e1;rw[ev2]at e2;rw[run1]at u1;rw[run2]at u2;have hq1:QF 1 144:=XO (by decide) (by decide);have hq2:QF 2 144:=XO (by decide) (by decide);have hq3:QF 2 48:=XO (by decide) (by decide);have hq4:QF 1 48:=XO (by decide) (by decide);have hq5:QF 1 8:=XO (by decide) (by decide);have hq6:QF 2 40:=XO (by decide) (by decide);simp only[F1,F2,G1,G2,nX,nY,aF,Fl.enc,Vr.enc,Xr,Xu,Xk,Xf,Xg,St.enc,Tm.enc,aI,aO,aT,Na,Nb,List.cons_append,List.nil_append]at r0 r1 e1 e2 u1 u2;refine X2 Tryz.func5 ?_;simp only[Tryz.f5];refine X4 ?_;refine X4 ?_;refine X0<|(X0d ?_);refine RunsF.cutE 6 [⟨false,.v (.agg [.c (iC 24),.c (iC 0),.c (.sl 3 [])]),none⟩] (by simp[*,XG,Qp,XW];first|exact⟨rfl,Iff.rfl⟩|exact⟨rfl,trivial⟩|rfl) ?_ (Zn 17 [.c (iC 2),.c (iC 5),.c (iC 0),.c (iC 0),.c (iC 0),.c (iC 0),.c (.sl 3 []),.c (.sl 10 []),.c (.sl 10 []),.c (.sl 1 [])] rfl (by(repeat'(first|exact LWk.nil|apply LWk.cons|exact CWk.refl _|exact CWk.nil _)))) ?_
 .first|exact r0 _|exact trivial|simpa using r0 _
 refine RunsF.cutE 5 [⟨false,.v (.agg [.c (iC 24),.c (iC 1),.c (.sl 3 [])]),none⟩] (by simp[*,XG,Qp,XW];first|exact⟨rfl,Iff.rfl⟩|exact⟨rfl,trivial⟩|rfl) ?_ (le_trans (XL 18 rfl) (le_trans (Zn 19 [.c (iC 3),.c (iC 1),.c (iC 0),.c (iC 0),.c (iC 24),.c (iC 0),.c (.sl 3 []),.c (.sl 10 [[iC 2,iC 5,iC 0,iC 0,iC 0,iC 0,.sl 3 [],.sl 10 [],.sl 10 [],.sl 1 []]]),.c (.sl 10 []),.c (.sl 1 [])] rfl (by(repeat'(first|exact LWk.nil|apply LWk.cons|exact CWk.refl _|exact CWk.nil _)))) (Zn 22 [.c (iC 1),.c (iC 2),.c (iC 0),.c (iC 0),.c (iC 24),.c (iC 1),.c (.sl 3 []),.c (.sl 10 []),.c (.sl 10 []),.c (.sl 1 [])] rfl (by(repeat'(first|exact LWk.nil|apply LWk.cons|exact CWk.refl _|exact CWk.nil _)))))) ?_
 .first|exact r1 _|exact trivial|simpa using r1 _
 refine RunsF.cutE 2 [] (by simp[*,XG,Qp,XW];rfl) trivial (le_trans (XL 14 rfl) (le_trans (XL 23 rfl) (Zn 24 [.c (.sl 5 [[sC ⟨#[120]⟩,iC 1,iC 0,iC 3,iC 0],[sC ⟨#[121]⟩,iC 0,iC 0,iC 3,iC 0]]),.c (.sl 6 []),.c (.sl 10 [[iC 3,iC 1,iC 0,iC 0,iC 24,iC 0,.sl 3 [],.sl 10 [[iC 2,iC 5,iC 0,iC 0,iC 0,iC 0,.sl 3 [],.sl 10 [],.sl 10 [],.sl 1 []]],.sl 10 [],.sl 1 []],[iC 1,iC 2,iC 0,iC 0,iC 24,iC 1,.sl 3 [],.sl 10 [],.sl 10 [],.sl 1 []]])] rfl (by(repeat'(first|exact LWk.nil|apply LWk.cons|exact CWk.refl _|exact CWk.nil _)))))) ?_;refine RunsF.doneE [] (by simp[*,XG,Qp,XW];rfl) trivial ?_;refine X0<|(Xa e1 ?_);refine X0<|(X0d ?_);refine RunsF.cutE 3 [] (by simp[*,XG,Qp,XW];rfl) trivial (le_trans (XL 32 rfl) (Zn 33 [.c (.sl 1 [[iC 0]]),.c (.sl 1 []),.c (.sl 1 [])] rfl (by(repeat'(first|exact LWk.nil|apply LWk.cons|exact CWk.refl _|exact CWk.nil _))))) ?_;refine RunsF.doneE [⟨false,.tup [.agg [.c (.sl 1 [[iC 0]]),.c (iC 8)],li 0],none⟩] (by simp[*,XG,Qp,XW];first|exact⟨rfl,Iff.rfl⟩|exact⟨rfl,trivial⟩|rfl) ?_ ?_
 .first|exact u1 _|exact trivial|simpa using u1 _
 refine X0<|(X0d ?_);refine RunsF.cutE 7 [⟨false,.v (.agg [.c (iC 24),.c (iC 0),.c (.sl 3 [])]),none⟩,⟨false,.v (.agg [.c (iC 24),.c (iC 0),.c (.sl 3 [])]),none⟩] (by simp[*,XG,Qp,XW];first|exact⟨rfl,Iff.rfl⟩|exact⟨rfl,trivial⟩|rfl) ?_ (Zn 43 [.c (iC 0),.c (iC 1),.c (.sl 3 [])] rfl (by(repeat'(first|exact LWk.nil|apply LWk.cons|exact CWk.refl _|exact CWk.nil _)))) ?_
 .first|exact trivial|(repeat' first|exact trivial|exact r0 _|apply And.intro)
 refine RunsF.cutE 3 [] (by simp[*,XG,Qp,XW];rfl) trivial (le_trans (XL 44 rfl) (Zn 46 [.c (iC 0),.c (iC 2),.c (iC 0),.c (iC 0),.c (iC 9),.c (iC 0),.c (.sl 3 [[iC 24,iC 0,.sl 3 []],[iC 0,iC 1,.sl 3 []]]),.c (.sl 10 []),.c (.sl 10 []),.c (.sl 1 [])] rfl (by(repeat'(first|exact LWk.nil|apply LWk.cons|exact CWk.refl _|exact CWk.nil _))))) ?_;refine RunsF.cutE 2 [] (by simp[*,XG,Qp,XW];rfl) trivial (le_trans (XL 47 rfl) (Zn 48 [.c (iC 4),.c (iC 1),.c (iC 0),.c (iC 3),.c (iC 24),.c (iC 0),.c (.sl 3 []),.c (.sl 10 [[iC 0,iC 2,iC 0,iC 0,iC 9,iC 0,.sl 3 [[iC 24,iC 0,.sl 3 []],[iC 0,iC 1,.sl 3 []]],.sl 10 [],.sl 10 [],.sl 1 []]]),.c (.sl 10 []),.c (.sl 1 [])] rfl (by(repeat'(first|exact LWk.nil|apply LWk.cons|exact CWk.refl _|exact CWk.nil _))))) ?_;refine RunsF.cutE 2 [] (by simp[*,XG,Qp,XW];rfl) trivial (le_trans (XL 38 rfl) (le_trans (XL 49 rfl) (Zn 50 [.c (.sl 5 [[sC ⟨#[120]⟩,iC 0,iC 0,iC 3,iC 2]]),.c (.sl 6 []),.c (.sl 10 [[iC 4,iC 1,iC 0,iC 3,iC 24,iC 0,.sl 3 [],.sl 10 [[iC 0,iC 2,iC 0,iC 0,iC 9,iC 0,.sl 3 [[iC 24,iC 0,.sl 3 []],[iC 0,iC 1,.sl 3 []]],.sl 10 [],.sl 10 [],.sl 1 []]],.sl 10 [],.sl 1 []]])] rfl (by(repeat'(first|exact LWk.nil|apply LWk.cons|exact CWk.refl _|exact CWk.nil _)))))) ?_;refine RunsF.doneE [] (by simp[*,XG,Qp,XW];rfl) trivial ?_;refine X0<|(Xa e2 ?_);refine X0<|(X0d ?_);refine RunsF.cutE 2 [] (by simp[*,XG,Qp,XW];rfl) trivial (Zn 58 [.c (.sl 1 []),.c (.sl 1 []),.c (.sl 1 [])] rfl (by(repeat'(first|exact LWk.nil|apply LWk.cons|exact CWk.refl _|exact CWk.nil _)))) ?_;refine RunsF.doneE [⟨false,.tup [.agg [.c (.sl 1 []),.c (iC 9)],li 0],none⟩] (by simp[*,XG,Qp,XW];first|exact⟨rfl,Iff.rfl⟩|exact⟨rfl,trivial⟩|rfl) ?_ ?_
 .first|exact u2 _|exact trivial|simpa using u2 _
 exact X7
end Go.Proofs.YtdccocolnaklkaaGreatDoor
