/- Contracts of functions and plain facts about what they compute. Conditions: as each theorem states. -/
import Derived.Test.YtdccocolnaklkaaGreatDoorG9
import Derived.Test.YtdccocolnaklkaaGreatDoorG6
import Derived.Test.YtdccocolnaklkaaGreatDoorH5
set_option linter.unusedSimpArgs false
set_option linter.unusedVariables false
set_option linter.unnecessarySimpa false
set_option maxRecDepth 100000
set_option maxHeartbeats 2000000
namespace Go.Proofs.YtdccocolnaklkaaGreatDoor
open Go Go.Hl
open Tryz(prog)
theorem X4E (n:Int):Qi (Z4 n)=true:=by
 unfold Z4;split<;>simp[Qi,ZK]
theorem X2d:∀a b:List St,Qi (a++b)=(Qi a&&Qi b)
 |[],b=>by simp[Qi]
 |s::a,b=>by simp[Qi,X2d a b,NO]
theorem balS_bnd (s:St) (h:ZK s=true):ZK (balS s)=true:=by
 obtain⟨d,c,v,n,t,a,b,bs⟩:=s;simp only[ZK,N4,N5]at h;unfold balS;simp only;split
 .simp[ZK,X2d,X4E,h.1,h.2.1,h.2.2]
 split
 .simp[ZK,Qi,X4E,h.1,h.2.1,h.2.2]
 simp[ZK,h.1,h.2.1,h.2.2]
theorem X3z:∀l:List St,Qi l=true->Qi (evL l)=true
 |[],_=>by simp[evL,Qi]
 | .mk d c v n t a b bs::l,h=>by
   simp only[Qi,ZK,N4,N5]at h;have ha:=X3z a h.1.2.1;have hb:=X3z b h.1.2.2;have hl:=X3z l h.2;simp only[evL,Qi,hl,Bool.and_true];exact balS_bnd _ (by simp[ZK,ha,hb,h.1.1])
def fl0:Fl:=⟨[],[],[]⟩
def ZB (f:Fl):Fl×Int:=if Q2 f=0 then(f,0)else(fl0,4)
def evF (f:Fl):Fl×Int:=if Q2 f=0 then ZB ⟨f.vars,f.hats,evL f.body⟩ else(fl0,Q2 f)
theorem X3b (f:Fl) (hv:f.vars.length<=1000000) (hh:f.hats.length<=1000000) (hn:Xh f.body+XV f.hats<=900000000) (hb:Qi f.body=true) (d:Nat):
  Con prog 37 false [aF f] (.tup [aF (ZB f).1,li (ZB f).2]) none d:=by
 have cc:=X1y f hv hh hn hb;obtain⟨vars,hats,body⟩:=f;obtain⟨res,hres⟩:∃r,ZB ⟨vars,hats,body⟩=r:=⟨_,rfl⟩;rw[hres];unfold ZB at hres;obtain⟨C,hC⟩:∃x,Q2 ⟨vars,hats,body⟩=x:=⟨_,rfl⟩;rw[hC]at cc hres;clear hC;refine X3 Tryz.func37 ?_;simp only[Tryz.f37];simp only[aF,Fl.enc,Na,Ng]at cc⊢;refine X1 ?_;refine X0<|X0<|(Xl [⟨true,.v (li C),none⟩] ?_ ?_)
 .first|exact cc _|exact trivial|simpa[*]using cc _
 refine(X9 rfl (fun h2=>?_) fun h2=>?_)
 ·(try simp only[BN]at h2);rw[N6 h2]at hres;subst hres;refine X1 ?_;refine Q9 (Wc 2 [.c (.sl 5 []),.c (.sl 6 []),.c (.sl 10 [])] rfl (by(repeat'(first|exact LWk.nil|apply LWk.cons|exact CWk.refl _|exact CWk.nil _)))) ?_;exact Xr ⟨.inr rfl,_,le_refl _,⟨⟨_,by simp;rfl,by simp[Xp,fl0]⟩,by simp,fun h=>by cases h⟩⟩
 (try simp only[BN]at h2);rw[N9 (by simpa using h2)]at hres;subst hres;refine X1 ?_;exact Xr ⟨.inr rfl,_,le_refl _,⟨⟨_,by simp;rfl,by simp[Xp]⟩,by simp,fun h=>by cases h⟩⟩
theorem X4P (f:Fl) (hv:f.vars.length<=1000000) (hh:f.hats.length<=1000000) (hn:Xh f.body+XV f.hats<=100000) (hb:Qi f.body=true) (d:Nat):
  Con prog 24 false [aF f] (.tup [aF (evF f).1,li (evF f).2]) none d:=by
 have cc:=X1y f hv hh (by omega) hb;have cp:=X7q f hv hh (fun h hm=>by have:=Zs hm;omega) (by omega) hb;have ce:=even_con f.body (by omega);have hen:=Zl f.body;have ck:=X3b ⟨f.vars,f.hats,evL f.body⟩ hv hh (by simp only;omega) (X3z _ hb);obtain⟨res,hres⟩:∃r,evF f=r:=⟨_,rfl⟩;rw[hres];unfold evF at hres;obtain⟨C,hC⟩:∃x,Q2 f=x:=⟨_,rfl⟩;obtain⟨K,hK⟩:∃x,ZB ⟨f.vars,f.hats,evL f.body⟩=x:=⟨_,rfl⟩;rw[hC]at cc hres;rw[hK]at ck hres;clear hC hK hen;obtain⟨vars,hats,body⟩:=f;obtain⟨⟨kv,kh,kb⟩,kc⟩:=K;simp only at hv hh hn hb cc cp ce ck hres;refine X3 Tryz.func24 ?_;simp only[Tryz.f24];simp only[aF,Fl.enc,Na,Ng]at cc cp ck⊢;refine X1 ?_;refine X0<|X0<|(Xl [⟨true,.v (li C),none⟩] ?_ ?_)
 .first|exact cc _|exact trivial|simpa[*]using cc _
 refine X1 ?_;refine(X9 rfl (fun h3=>?_) fun h3=>?_)
 ·(try simp only[BN]at h3);rw[N6 h3]at hres;subst hres;refine X1 ?_;refine Q9 (Wc 2 [.c (.sl 5 []),.c (.sl 6 []),.c (.sl 10 [])] rfl (by(repeat'(first|exact LWk.nil|apply LWk.cons|exact CWk.refl _|exact CWk.nil _)))) ?_;exact Xr ⟨.inr rfl,_,le_refl _,⟨⟨_,by simp;rfl,by simp[Xp,fl0]⟩,by simp,fun h=>by cases h⟩⟩
 (try simp only[BN]at h3);rw[N9 (by simpa using h3)]at hres;subst hres;refine Xd [⟨false,.v (.agg [.c (.sl 5 (Xt vars)),.c (.sl 6 (Xz hats)),.c (.sl 10 (Xe body))]),none⟩] ?_ ?_
 .first|exact cp _|exact trivial|simpa[*]using cp _
 refine Xd [⟨false,.v (.one (.own 15)),some (.row 63 10 (Xe (evL body)))⟩] ?_ ?_
 .first|exact ce 15 (by decide)|exact trivial|simpa[*]using ce 15 (by decide)
 refine Q9 (XO 15 rfl) ?_;refine Xd [⟨false,.tup [.agg [.c (.sl 5 (Xt kv)),.c (.sl 6 (Xz kh)),.c (.sl 10 (Xe kb))],li kc],none⟩] ?_ ?_
 .first|exact ck _|exact trivial|simpa[*]using ck _
 exact Xr ⟨.inr rfl,_,le_refl _,⟨⟨_,by simp;rfl,by simp[Xp]⟩,by simp,fun h=>by cases h⟩⟩
theorem X8P (n:Int) (d:Nat):Con prog 23 false [li n] (.v (aT (.mk 24 n []))) none d:=by
 refine X3 Tryz.func23 ?_;simp only[Tryz.f23];simp only[aT,Tm.enc,Na,Ng,XH];refine X1 ?_;refine X1 ?_;refine Q9 (Wc 2 [.c (iC 24),.c (iC n),.c (.sl 3 [])] rfl (by(repeat'(first|exact LWk.nil|apply LWk.cons|exact CWk.refl _|exact CWk.nil _)))) ?_;exact Xr ⟨.inr rfl,_,le_refl _,⟨⟨_,by simp;rfl,by simp[Xp]⟩,by simp,fun h=>by cases h⟩⟩
def nX:ByteArray:=⟨#[120]⟩
def nY:ByteArray:=⟨#[121]⟩
def F1:Fl:=⟨[⟨nX,1,0,3,0⟩,⟨nY,0,0,3,0⟩],[],[.mk 3 1 0 0 (.mk 24 0 []) [.mk 2 5 0 0 (.mk 0 0 []) [] [] []] [] [],.mk 1 2 0 0 (.mk 24 1 []) [] [] []]⟩
def F2:Fl:=⟨[⟨nX,0,0,3,2⟩],[],[.mk 4 1 0 3 (.mk 24 0 []) [.mk 0 2 0 0 (.mk 9 0 [.mk 24 0 [],.mk 0 1 []]) [] [] []] [] []]⟩
def G1:Fl:=⟨[⟨nX,1,0,3,0⟩,⟨nY,0,0,3,0⟩],[],[.mk 3 1 0 0 (.mk 24 0 []) [.mk 2 5 0 0 (.mk 0 0 []) [] [] []] [.mk 2 5 0 0 (.mk 0 0 []) [] [] []] [],.mk 1 2 0 0 (.mk 24 1 []) [] [] []]⟩
def G2:Fl:=⟨[⟨nX,0,0,3,2⟩],[],[.mk 4 1 0 3 (.mk 0 1 []) [.mk 3 0 0 0 (.mk 24 0 []) [.mk 0 2 0 0 (.mk 9 0 [.mk 24 0 [],.mk 0 1 []]) [] [] []] [.mk 2 2 0 0 (.mk 0 0 []) [] [] []] []] [] []]⟩
theorem cF1:Q2 F1=0:=by
 simp only[Q2,Za,F1,sdL,QM,ssC];kernel_rfl
theorem cF2:Q2 F2=0:=by
 simp only[Q2,Za,F2,sdL,QM,ssC];kernel_rfl
theorem cG1:Q2 G1=0:=by
 simp only[Q2,Za,G1,sdL,QM,ssC];kernel_rfl
theorem cG2:Q2 G2=0:=by
 simp only[Q2,Za,G2,sdL,QM,ssC];kernel_rfl
theorem eF1:evL F1.body=G1.body:=by
 simp only[F1,evL];kernel_rfl
theorem eF2:evL F2.body=G2.body:=by
 simp only[F2,evL];kernel_rfl
theorem ev1:evF F1=(G1,0):=by
 unfold evF;rw[N9 cF1,eF1];exact N9 cG1
theorem ev2:evF F2=(G2,0):=by
 unfold evF;rw[N9 cF2,eF2];exact N9 cG2
theorem play1:WC G1 ⟨[0],[],[]⟩=(⟨[0,0],[0],8⟩,0):=by
 unfold WC;rw[N9 cG1];simp only[G1,XJ];kernel_rfl
theorem play2:WC G2 ⟨[],[],[]⟩=(⟨[0],[],9⟩,0):=by
 unfold WC;rw[N9 cG2];simp only[G2,XJ];kernel_rfl
theorem run1:Zz G1 ⟨[0],[],[]⟩=(⟨[0],8⟩,0):=by
 unfold Zz;rw[play1];rfl
theorem run2:Zz G2 ⟨[],[],[]⟩=(⟨[],9⟩,0):=by
 unfold Zz;rw[play2];rfl
theorem X8T (d:Nat):Con prog 5 true [] (.v (lb true)) none d:=by
 have r0:=X8P 0;have r1:=X8P 1;have e1:=X4P F1 (by decide) (by decide) (by decide) (by kernel_rfl);have e2:=X4P F2 (by decide) (by decide) (by decide) (by kernel_rfl);have u1:=X5t G1 ⟨[0],[],[]⟩ (by decide) (by decide) (by decide) (by kernel_rfl) (fun _=>⟨by kernel_rfl,by decide,by intro h hh;cases hh⟩);have u2:=X5t G2 ⟨[],[],[]⟩ (by decide) (by decide) (by decide) (by kernel_rfl) (fun _=>⟨by kernel_rfl,by decide,by intro h hh;cases hh⟩);rw[ev1]at e1;rw[ev2]at e2;rw[run1]at u1;rw[run2]at u2;have hq1:Qy 1 144:=XC (by decide) (by decide);have hq2:Qy 2 144:=XC (by decide) (by decide);have hq3:Qy 2 48:=XC (by decide) (by decide);have hq4:Qy 1 48:=XC (by decide) (by decide);have hq5:Qy 1 8:=XC (by decide) (by decide);have hq6:Qy 2 40:=XC (by decide) (by decide);simp only[F1,F2,G1,G2,nX,nY,aF,Fl.enc,Vr.enc,Xt,Xz,Xg,Xe,XH,St.enc,Tm.enc,aI,aO,aT,Na,Ng,List.cons_append,List.nil_append]at r0 r1 e1 e2 u1 u2;refine X3 Tryz.func5 ?_;simp only[Tryz.f5];refine X1 ?_;refine X1 ?_;refine X0<|(X2s ?_);refine RunsF.cutE 6 [⟨false,.v (.agg [.c (iC 24),.c (iC 0),.c (.sl 3 [])]),none⟩] (by simp[*,XG,Ql,XT];first|exact⟨rfl,Iff.rfl⟩|exact⟨rfl,trivial⟩|rfl) ?_ (Zv 17 [.c (iC 2),.c (iC 5),.c (iC 0),.c (iC 0),.c (iC 0),.c (iC 0),.c (.sl 3 []),.c (.sl 10 []),.c (.sl 10 []),.c (.sl 1 [])] rfl (by(repeat'(first|exact LWk.nil|apply LWk.cons|exact CWk.refl _|exact CWk.nil _)))) ?_
 .first|exact r0 _|exact trivial|simpa using r0 _
 refine RunsF.cutE 5 [⟨false,.v (.agg [.c (iC 24),.c (iC 1),.c (.sl 3 [])]),none⟩] (by simp[*,XG,Ql,XT];first|exact⟨rfl,Iff.rfl⟩|exact⟨rfl,trivial⟩|rfl) ?_ (le_trans (XO 18 rfl) (le_trans (Zv 19 [.c (iC 3),.c (iC 1),.c (iC 0),.c (iC 0),.c (iC 24),.c (iC 0),.c (.sl 3 []),.c (.sl 10 [[iC 2,iC 5,iC 0,iC 0,iC 0,iC 0,.sl 3 [],.sl 10 [],.sl 10 [],.sl 1 []]]),.c (.sl 10 []),.c (.sl 1 [])] rfl (by(repeat'(first|exact LWk.nil|apply LWk.cons|exact CWk.refl _|exact CWk.nil _)))) (Zv 22 [.c (iC 1),.c (iC 2),.c (iC 0),.c (iC 0),.c (iC 24),.c (iC 1),.c (.sl 3 []),.c (.sl 10 []),.c (.sl 10 []),.c (.sl 1 [])] rfl (by(repeat'(first|exact LWk.nil|apply LWk.cons|exact CWk.refl _|exact CWk.nil _)))))) ?_
 .first|exact r1 _|exact trivial|simpa using r1 _
 refine RunsF.cutE 2 [] (by simp[*,XG,Ql,XT];rfl) trivial (le_trans (XO 14 rfl) (le_trans (XO 23 rfl) (Zv 24 [.c (.sl 5 [[sC ⟨#[120]⟩,iC 1,iC 0,iC 3,iC 0],[sC ⟨#[121]⟩,iC 0,iC 0,iC 3,iC 0]]),.c (.sl 6 []),.c (.sl 10 [[iC 3,iC 1,iC 0,iC 0,iC 24,iC 0,.sl 3 [],.sl 10 [[iC 2,iC 5,iC 0,iC 0,iC 0,iC 0,.sl 3 [],.sl 10 [],.sl 10 [],.sl 1 []]],.sl 10 [],.sl 1 []],[iC 1,iC 2,iC 0,iC 0,iC 24,iC 1,.sl 3 [],.sl 10 [],.sl 10 [],.sl 1 []]])] rfl (by(repeat'(first|exact LWk.nil|apply LWk.cons|exact CWk.refl _|exact CWk.nil _)))))) ?_;refine RunsF.doneE [] (by simp[*,XG,Ql,XT];rfl) trivial ?_;refine Xd [⟨false,.tup [.agg [.c (.sl 5 [[sC ⟨#[120]⟩,iC 1,iC 0,iC 3,iC 0],[sC ⟨#[121]⟩,iC 0,iC 0,iC 3,iC 0]]),.c (.sl 6 []),.c (.sl 10 [[iC 3,iC 1,iC 0,iC 0,iC 24,iC 0,.sl 3 [],.sl 10 [[iC 2,iC 5,iC 0,iC 0,iC 0,iC 0,.sl 3 [],.sl 10 [],.sl 10 [],.sl 1 []]],.sl 10 [[iC 2,iC 5,iC 0,iC 0,iC 0,iC 0,.sl 3 [],.sl 10 [],.sl 10 [],.sl 1 []]],.sl 1 []],[iC 1,iC 2,iC 0,iC 0,iC 24,iC 1,.sl 3 [],.sl 10 [],.sl 10 [],.sl 1 []]])],li 0],none⟩] ?_ ?_
 .first|exact e1 _|exact trivial|simpa[*]using e1 _
 refine X0<|(X2s ?_);refine RunsF.cutE 3 [] (by simp[*,XG,Ql,XT];rfl) trivial (le_trans (XO 32 rfl) (Zv 33 [.c (.sl 1 [[iC 0]]),.c (.sl 1 []),.c (.sl 1 [])] rfl (by(repeat'(first|exact LWk.nil|apply LWk.cons|exact CWk.refl _|exact CWk.nil _))))) ?_;refine RunsF.doneE [⟨false,.tup [.agg [.c (.sl 1 [[iC 0]]),.c (iC 8)],li 0],none⟩] (by simp[*,XG,Ql,XT];first|exact⟨rfl,Iff.rfl⟩|exact⟨rfl,trivial⟩|rfl) ?_ ?_
 .first|exact u1 _|exact trivial|simpa using u1 _
 refine X0<|(X2s ?_);refine RunsF.cutE 7 [⟨false,.v (.agg [.c (iC 24),.c (iC 0),.c (.sl 3 [])]),none⟩,⟨false,.v (.agg [.c (iC 24),.c (iC 0),.c (.sl 3 [])]),none⟩] (by simp[*,XG,Ql,XT];first|exact⟨rfl,Iff.rfl⟩|exact⟨rfl,trivial⟩|rfl) ?_ (Zv 43 [.c (iC 0),.c (iC 1),.c (.sl 3 [])] rfl (by(repeat'(first|exact LWk.nil|apply LWk.cons|exact CWk.refl _|exact CWk.nil _)))) ?_
 .first|exact trivial|(repeat' first|exact trivial|exact r0 _|apply And.intro)
 refine RunsF.cutE 3 [] (by simp[*,XG,Ql,XT];rfl) trivial (le_trans (XO 44 rfl) (Zv 46 [.c (iC 0),.c (iC 2),.c (iC 0),.c (iC 0),.c (iC 9),.c (iC 0),.c (.sl 3 [[iC 24,iC 0,.sl 3 []],[iC 0,iC 1,.sl 3 []]]),.c (.sl 10 []),.c (.sl 10 []),.c (.sl 1 [])] rfl (by(repeat'(first|exact LWk.nil|apply LWk.cons|exact CWk.refl _|exact CWk.nil _))))) ?_;refine RunsF.cutE 2 [] (by simp[*,XG,Ql,XT];rfl) trivial (le_trans (XO 47 rfl) (Zv 48 [.c (iC 4),.c (iC 1),.c (iC 0),.c (iC 3),.c (iC 24),.c (iC 0),.c (.sl 3 []),.c (.sl 10 [[iC 0,iC 2,iC 0,iC 0,iC 9,iC 0,.sl 3 [[iC 24,iC 0,.sl 3 []],[iC 0,iC 1,.sl 3 []]],.sl 10 [],.sl 10 [],.sl 1 []]]),.c (.sl 10 []),.c (.sl 1 [])] rfl (by(repeat'(first|exact LWk.nil|apply LWk.cons|exact CWk.refl _|exact CWk.nil _))))) ?_;refine RunsF.cutE 2 [] (by simp[*,XG,Ql,XT];rfl) trivial (le_trans (XO 38 rfl) (le_trans (XO 49 rfl) (Zv 50 [.c (.sl 5 [[sC ⟨#[120]⟩,iC 0,iC 0,iC 3,iC 2]]),.c (.sl 6 []),.c (.sl 10 [[iC 4,iC 1,iC 0,iC 3,iC 24,iC 0,.sl 3 [],.sl 10 [[iC 0,iC 2,iC 0,iC 0,iC 9,iC 0,.sl 3 [[iC 24,iC 0,.sl 3 []],[iC 0,iC 1,.sl 3 []]],.sl 10 [],.sl 10 [],.sl 1 []]],.sl 10 [],.sl 1 []]])] rfl (by(repeat'(first|exact LWk.nil|apply LWk.cons|exact CWk.refl _|exact CWk.nil _)))))) ?_;refine RunsF.doneE [] (by simp[*,XG,Ql,XT];rfl) trivial ?_;refine Xd [⟨false,.tup [.agg [.c (.sl 5 [[sC ⟨#[120]⟩,iC 0,iC 0,iC 3,iC 2]]),.c (.sl 6 []),.c (.sl 10 [[iC 4,iC 1,iC 0,iC 3,iC 0,iC 1,.sl 3 [],.sl 10 [[iC 3,iC 0,iC 0,iC 0,iC 24,iC 0,.sl 3 [],.sl 10 [[iC 0,iC 2,iC 0,iC 0,iC 9,iC 0,.sl 3 [[iC 24,iC 0,.sl 3 []],[iC 0,iC 1,.sl 3 []]],.sl 10 [],.sl 10 [],.sl 1 []]],.sl 10 [[iC 2,iC 2,iC 0,iC 0,iC 0,iC 0,.sl 3 [],.sl 10 [],.sl 10 [],.sl 1 []]],.sl 1 []]],.sl 10 [],.sl 1 []]])],li 0],none⟩] ?_ ?_
 .first|exact e2 _|exact trivial|simpa[*]using e2 _
 refine X0<|(X2s ?_);refine RunsF.cutE 2 [] (by simp[*,XG,Ql,XT];rfl) trivial (Zv 58 [.c (.sl 1 []),.c (.sl 1 []),.c (.sl 1 [])] rfl (by(repeat'(first|exact LWk.nil|apply LWk.cons|exact CWk.refl _|exact CWk.nil _)))) ?_;refine RunsF.doneE [⟨false,.tup [.agg [.c (.sl 1 []),.c (iC 9)],li 0],none⟩] (by simp[*,XG,Ql,XT];first|exact⟨rfl,Iff.rfl⟩|exact⟨rfl,trivial⟩|rfl) ?_ ?_
 .first|exact u2 _|exact trivial|simpa using u2 _
 refine X1 ?_;exact Xb
end Go.Proofs.YtdccocolnaklkaaGreatDoor
