/- Contracts of functions and plain facts about what they compute. Conditions: as each theorem states. -/
import Derived.Test.YtdajceakaakdoaaGreatJ21
import Derived.Test.YtdajceakaakdoaaGreatJ14
import Derived.Test.YtdajceakaakdoaaGreatJ20
import Derived.Test.YtdajceakaakdoaaGreatJ7
import Derived.Test.YtdajceakaakdoaaGreatJ16
import Derived.Test.YtdajceakaakdoaaGreatRows
set_option linter.unusedSimpArgs false
set_option linter.unusedVariables false
set_option linter.unnecessarySimpa false
set_option maxRecDepth 100000
set_option maxHeartbeats 2000000
namespace Go.Proofs.YtdajceakaakdoaaGreat
open Go Go.Hl
noncomputable def evR (f:Fl) (a:List Int):Sev:=evD f.vars (QY a f.hats) f.body 0 (⟨a,[],0⟩,[])
set_option maxHeartbeats 16000000 in
theorem X3A (f:Fl) (a:List Int) (ha:a.length=f.vars.length) (hv1:f.vars.length<=1000000) (hh:f.hats.length<=1000000) (hgv:∀w∈f.vars,w.low<=w.high) (hf:∀h∈f.hats,Qu f.vars true h.term=true) (hn:Xl f.body<=1000000) (hwf:wfL f.vars f.hats.length f.body=true) (ho:oUL f.body<=2000000) (d:Nat):
  Con Tryz.prog 29 false [aF f,lI a] (.tup [.one (.c (.sl 2 (W6 (evR f a).2))),li (evR f a).1.time]) none d:=by
 have chv:=XdE f a ha hh hf;have ccl:=X3r a (by omega);have hsz:=Zh f.body;have cpl:=Xdb f.vars f.hats f.body (QY a f.hats) hv1 hgv (by simp[QY]) f.body hn hwf 0 (⟨a,[],0⟩,[]) (by omega) ha (by simpa using ho);unfold evR;obtain⟨⟨⟨yv,yo,yt⟩,ye⟩,hY⟩:∃z,evD f.vars (QY a f.hats) f.body 0 (⟨a,[],0⟩,[])=z:=⟨_,rfl⟩;rw[hY]at cpl⊢;obtain⟨HV,hHV⟩:∃z,QY a f.hats=z:=⟨_,rfl⟩;rw[hHV]at chv cpl;clear hY hHV hf hgv hwf ho hsz;obtain⟨vars,hats,body⟩:=f;simp only[aF,Fl.enc,Nk,Nr,plO]at chv cpl⊢;refine X5 Tryz.func29 ?_;simp only[Tryz.f29];refine X2 ?_;refine X0<|(XU [⟨false,.v (lI HV),none⟩,⟨false,.v (.one (.own 12)),some (.row 3 1 (X9 a))⟩] (by kernel_rfl) (by kernel_rfl) (by rfl) (by simp[*,XL,QH,Q1,cellsOf,W4];first|exact⟨rfl,Iff.rfl⟩|exact⟨rfl,trivial⟩|rfl) ?_ ?_)
 .first|exact trivial|exact trivial|(repeat' first|exact trivial|exact chv _|exact ccl _ (by decide)|apply And.intro)
 refine XC (s':=⟨⟨27,none⟩,[(2,.v (.one (.at_ 2 0))),(6,.v (.one (.at_ 14 0)))],[(2,.box [.c (.sl 5 (Xk vars)),.c (.sl 6 (Xn hats)),.c (.sl 10 (X7 body))]),(14,.box [.c (.sl 5 (Xk vars)),.c (.sl 6 (Xn hats)),.c (.sl 10 (X7 body)),.c (.sl 1 (X9 HV)),.own 900001,.own 900002,.c (iC 0)]),(900001,.row 3 1 (X9 a)),(900002,.row 150 2 (W6 []))]⟩) (Xw (fun n=>if n=900001 then 12 else n) [900002] rfl (by simp) (by simp[W6]) (by simp)) ?_;refine X0<|(XJ ?_);refine RunsN.cutE 3 [] (by simp;rfl) trivial (le_refl _) ?_;refine RunsN.callA (fun n=>if n=1000001 then 14 else n) (fun n=>if n=1000001 then 14 else if n=900001 then 900011 else if n=900002 then 900012 else n) cpl fun _ _=>?_;refine RunsN.doneE [] rfl trivial ?_;refine XC (s':=⟨⟨27,none⟩,[(6,.v (.one (.at_ 14 0)))],[(14,.box [.c (.sl 5 (Xk vars)),.c (.sl 6 (Xn hats)),.c (.sl 10 (X7 body)),.c (.sl 1 (X9 HV)),.own 900001,.own 900002,.c (iC yt)]),(900001,.row 3 1 (X9 yv)),(900002,.row 150 2 (W6 ye))]⟩) (Xw (fun n=>if n=900001 then 900011 else if n=900002 then 900012 else n) [] rfl (by simp[Qa,QE,del,ins,CV.ren,Ob.ren]) (by simp[Qa,QE,del,ins,CV.ren,Ob.ren]) (by simp)) ?_;refine XC (Qy 900002 rfl) ?_;refine X0<|(N0 ?_);exact Xc
theorem eqGA {T:Type} (a b:List T) (hl:a.length=b.length) (h:∀j:Nat,j<a.length->a[j]? =b[j]?):a=b:=by
 apply NX;intro i;by_cases hi:i<a.length
 .exact h i hi
 rw[Ny (by omega),Ny (by omega)]
@[simp] theorem fsDp:X6k Tryz.prog 51=some [true,true,true]/\arrI Tryz.prog 51=none:=by and_intros<;>kernel_rfl
def lDp (l:List Dp):TV:=.one (.c (.sl 3 (Qp l)))
theorem eqDp_con (a b:List Dp) (ha:a.length<=1000000000) (hb:b.length<=1000000000) (d:Nat):Con Tryz.prog 24 true [lDp a,lDp b] (.v (lb (decide (a=b)))) none d:=by
 obtain⟨res,hres⟩:∃r,decide (a=b)=r:=⟨_,rfl⟩;rw[hres];simp only[lBl,lDp];refine X5 Tryz.func24 ?_;simp only[Tryz.f24];refine X2 ?_;refine X0<|X0<|X1 ?_;refine(Xb rfl (fun h2=>?_) fun h2=>?_)
 .try simp only[BN]at h2
  have hz:res=false:=by
   rw[<-hres,Nh];intro h;subst h;simp at h2
  subst hz;refine X2 ?_;exact Xc
 (try simp only[BN]at h2);have hle:a.length=b.length:=by omega
 clear h2;refine X0<|X0<|X1 ?_;refine X3<|(Xg [0,1,12] (fun(z:Nat)=>[(13,.v (li z))]) (fun z=>[]) (fun z=>z<=a.length/\∀k:Nat,k<z->a[k]? =b[k]?) (fun z=>a.length - z) (0:Nat) ⟨Nq _,fun k hk=>absurd hk (Dv k)⟩ ?_ ?_)
 .exact X4 (fun n=>n) []
 rintro k ⟨hk,hall⟩;simp only[upS,X8,Xz]
 try simp only[X8,KN,Nat.reduceBEq,Nj,Nc,ins,Nat.reduceLT]
 refine X2 ?_;refine X0<|(X6 rfl (fun h8=>Xe ?_) (fun h8=>?_))
 ·(try simp only[BN]at h8);have hlt:k<a.length:=by omega
  obtain⟨x,he,_⟩:=Xt hlt;obtain⟨y,hey,_⟩:=Xt (show k<b.length by omega);have hw1:=XD hlt (by omega);have hk1:k+1<=a.length:=hlt;have hxe:=X1e he;have hye:=X1e hey;obtain⟨xf,xt,xk⟩:=x;obtain⟨yf,yt,yk⟩:=y;simp only[Dp.enc]at hxe hye;clear hlt h8;refine X0<|X3<|X0<|X1 ?_;refine X0<|(N0 ?_);refine(Xb rfl (fun h11=>?_) fun h11=>?_)
  .try simp only[BN]at h11
   have hz:res=false:=by
    rw[<-hres,Nh];intro h;subst h;rw[he]at hey;cases hey;simp at h11
   subst hz;refine X2 ?_;exact Xc
  (try simp only[BN]at h11);refine X1 ?_
  exact⟨k+1,⟨hk1,fun j hj=>by
   rcases Nat.lt_or_eq_of_le (Nat.le_of_lt_succ hj)with h|h
   .exact hall j h
   rw[h,he,hey];have:xf=yf/\xt=yt/\xk=yk:=by simpa using h11
   rw[this.1,this.2.1,this.2.2]⟩,by omega,X4 (fun n=>n) []⟩
 try simp only[BN]at h8
 have hz:res=true:=by
  rw[<-hres,N5];exact eqGA a b hle fun j hj=>hall j (by omega)
 subst hz;refine(Xi ?_);refine X2 ?_;exact Xc
theorem X52 (n:Int) (d:Nat):Con Tryz.prog 85 false [li n] (.v (aT (rfT n))) none d:=by
 simp only[aT,rfT,Tm.enc,Xx,Nk,Nr];refine X5 Tryz.func85 ?_;simp only[Tryz.f85];refine X2 ?_;refine X0<|(X5J 2 [] [] (by simp[XL,QH,Q1];rfl) trivial (X2b 4 [.c (iC 24),.c (iC n),.c (.sl 3 [])] rfl (by(repeat'(first|exact LWk.nil|apply LWk.cons|exact CWk.refl _|exact CWk.nil _)))) (by simp;rfl) trivial ?_);exact Xc
set_option maxHeartbeats 8000000 in
theorem X8H (d:Nat):Con Tryz.prog 40 false [] (.v (aF exP)) none d:=by
 have c0:=X52 0;have c1:=X52 1;have c2:=X52 2;have hq1:W5 1 144:=Qc (by decide) (by decide);have hq2:W5 5 144:=Qc (by decide) (by decide);have hq3:W5 3 48:=Qc (by decide) (by decide);have hq4:W5 1 72:=Qc (by decide) (by decide);simp only[exP,rfT,aF,aT,Fl.enc,Vr.enc,Ht.enc,Xk,Xn,X9,X7,Xx,St.enc,Tm.enc,Nk,Nr,List.cons_append,List.nil_append]at c0 c1 c2⊢;refine X5 Tryz.func40 ?_;simp only[Tryz.f40];refine X2 ?_;refine X2 ?_;refine X0<|(XJ ?_);refine RunsN.cutE 6 [⟨false,.v (.agg [.c (iC 24),.c (iC 0),.c (.sl 3 [])]),none⟩] (by simp[*,XL,QH,Q1];first|exact⟨rfl,Iff.rfl⟩|exact⟨rfl,trivial⟩|rfl) (by first|exact c0 _|simpa using c0 _) (le_refl _) ?_;refine RunsN.cutE 5 [⟨false,.v (.agg [.c (iC 24),.c (iC 0),.c (.sl 3 [])]),none⟩] (by simp[*,XL,QH,Q1];first|exact⟨rfl,Iff.rfl⟩|exact⟨rfl,trivial⟩|rfl) (by first|exact c0 _|simpa using c0 _) (X2b 12 [.c (iC 0),.c (iC 0),.c (iC 1),.c (iC 0),.c (iC 24),.c (iC 0),.c (.sl 3 []),.c (.sl 10 []),.c (.sl 10 []),.c (.sl 1 [])] rfl (by(repeat'(first|exact LWk.nil|apply LWk.cons|exact CWk.refl _|exact CWk.nil _)))) ?_;refine RunsN.cutE 4 [⟨false,.v (.agg [.c (iC 24),.c (iC 1),.c (.sl 3 [])]),none⟩] (by simp[*,XL,QH,Q1];first|exact⟨rfl,Iff.rfl⟩|exact⟨rfl,trivial⟩|rfl) (by first|exact c1 _|simpa using c1 _) (X2b 16 [.c (iC 0),.c (iC 1),.c (iC 2),.c (iC 0),.c (iC 0),.c (iC 1),.c (.sl 3 []),.c (.sl 10 []),.c (.sl 10 []),.c (.sl 1 [])] rfl (by(repeat'(first|exact LWk.nil|apply LWk.cons|exact CWk.refl _|exact CWk.nil _)))) ?_;refine RunsN.cutE 1 [] (by simp[*,XL,QH,Q1];rfl) trivial (Qy 17 rfl) ?_;refine RunsN.cutE 1 [] (by simp[*,XL,QH,Q1];rfl) trivial (X2b 18 [.c (iC 3),.c (iC 0),.c (iC 0),.c (iC 0),.c (iC 24),.c (iC 1),.c (.sl 3 []),.c (.sl 10 [[iC 0,iC 1,iC 2,iC 0,iC 0,iC 1,.sl 3 [],.sl 10 [],.sl 10 [],.sl 1 []]]),.c (.sl 10 []),.c (.sl 1 [])] rfl (by(repeat'(first|exact LWk.nil|apply LWk.cons|exact CWk.refl _|exact CWk.nil _)))) ?_;refine RunsN.cutE 3 [⟨false,.v (.agg [.c (iC 24),.c (iC 2),.c (.sl 3 [])]),none⟩] (by simp[*,XL,QH,Q1];first|exact⟨rfl,Iff.rfl⟩|exact⟨rfl,trivial⟩|rfl) (by first|exact c2 _|simpa using c2 _) (X2b 21 [.c (iC 1),.c (iC 0),.c (iC 0),.c (iC 0),.c (iC 24),.c (iC 2),.c (.sl 3 []),.c (.sl 10 []),.c (.sl 10 []),.c (.sl 1 [])] rfl (by(repeat'(first|exact LWk.nil|apply LWk.cons|exact CWk.refl _|exact CWk.nil _)))) ?_;refine RunsN.cutE 1 [] (by simp[*,XL,QH,Q1];rfl) trivial (X2b 22 [.c (iC 5),.c (iC 0),.c (iC 1),.c (iC 0),.c (iC 0),.c (iC 0),.c (.sl 3 []),.c (.sl 10 []),.c (.sl 10 []),.c (.sl 1 [])] rfl (by(repeat'(first|exact LWk.nil|apply LWk.cons|exact CWk.refl _|exact CWk.nil _)))) ?_;refine RunsN.cutE 3 [⟨false,.v (.agg [.c (iC 24),.c (iC 1),.c (.sl 3 [])]),none⟩] (by simp[*,XL,QH,Q1];first|exact⟨rfl,Iff.rfl⟩|exact⟨rfl,trivial⟩|rfl) (by first|exact c1 _|simpa using c1 _) (X2b 25 [.c (iC 1),.c (iC 0),.c (iC 0),.c (iC 0),.c (iC 24),.c (iC 1),.c (.sl 3 []),.c (.sl 10 []),.c (.sl 10 []),.c (.sl 1 [])] rfl (by(repeat'(first|exact LWk.nil|apply LWk.cons|exact CWk.refl _|exact CWk.nil _)))) ?_;refine RunsN.cutE 1 [] (by simp[*,XL,QH,Q1];rfl) trivial (le_trans (Qy 5 rfl) (le_trans (Qy 9 rfl) (Qy 26 rfl))) ?_;refine RunsN.cutE 1 [] (by simp[*,XL,QH,Q1];rfl) trivial (X2b 27 [.c (.sl 5 [[sC ⟨#[120]⟩,iC 1,iC 0,iC 1,iC 0],[sC ⟨#[121]⟩,iC 0,iC 0,iC 1,iC 0],[sC ⟨#[122]⟩,iC 0,iC 0,iC 1,iC 0]]),.c (.sl 6 [[sC ⟨#[104]⟩,iC 0,iC 1,iC 24,iC 0,.sl 3 []]]),.c (.sl 10 [[iC 0,iC 0,iC 1,iC 0,iC 24,iC 0,.sl 3 [],.sl 10 [],.sl 10 [],.sl 1 []],[iC 3,iC 0,iC 0,iC 0,iC 24,iC 1,.sl 3 [],.sl 10 [[iC 0,iC 1,iC 2,iC 0,iC 0,iC 1,.sl 3 [],.sl 10 [],.sl 10 [],.sl 1 []]],.sl 10 [],.sl 1 []],[iC 1,iC 0,iC 0,iC 0,iC 24,iC 2,.sl 3 [],.sl 10 [],.sl 10 [],.sl 1 []],[iC 5,iC 0,iC 1,iC 0,iC 0,iC 0,.sl 3 [],.sl 10 [],.sl 10 [],.sl 1 []],[iC 1,iC 0,iC 0,iC 0,iC 24,iC 1,.sl 3 [],.sl 10 [],.sl 10 [],.sl 1 []]])] rfl (by(repeat'(first|exact LWk.nil|apply LWk.cons|exact CWk.refl _|exact CWk.nil _)))) ?_;refine RunsN.doneE [] (by simp[*,XL,QH,Q1];rfl) trivial ?_;exact Xc
theorem ex_dirZ:dirZ exP 5=[false,false,false,false,true,true,false,false,false,false]:=by
 unfold dirZ Zo;rw[Xcz];exact exP_src
set_option maxHeartbeats 16000000 in
theorem X5q (d:Nat):Con Tryz.prog 12 false [] (.v (lb true)) none d:=by
 have ce:=X8H;have cb:=X2p exP Xbh;have cs:=X78 exP Xbh 5;have e1:=eqDp_con exW exW (by decide) (by decide);have e2:=Xa4 [0] [0] (by decide) (by decide)
 have hb:bdR exP=.tup [.agg [.c (iC 6),.c (iC 3),.c (.sl 3 (Qp exW))],li 0]:=by
  unfold bdR;rw[X6t,Xcz];rfl
 have hs:srcR exP 5=.tup [lI [],lI [0],li 0]:=by
  unfold srcR;rw[X6t,ex_dirZ];have e1:X4F exP.vars [false,false,false,false,true,true,false,false,false,false] (flL exP.body).length exP.vars.length=[]:=by kernel_rfl
  have e2:X4Y (flL exP.body) [false,false,false,false,true,true,false,false,false,false] (flL exP.body).length=[0]:=by kernel_rfl
  rw[e1,e2];have e3:hatC [0]=[0]:=by unfold hatC;rw[List.mergeSort_singleton];rfl
  rw[e3];rfl
 rw[hb]at cb;rw[hs]at cs;have hq1:W5 8 24:=Qc (by decide) (by decide);have hq2:W5 1 8:=Qc (by decide) (by decide);simp only[exW,lDp,Qp,Dp.enc,exP,rfT,aF,aT,Fl.enc,Vr.enc,Ht.enc,Xk,Xn,X9,X7,Xx,St.enc,Tm.enc,Nk,Nr,List.cons_append,List.nil_append,Nj,decide_true,Bool.and_true,lI]at ce cb cs e1 e2;clear hb hs;refine X5 Tryz.func12 ?_;simp only[Tryz.f12];refine X2 ?_;refine Xh [⟨false,.v (.agg [.c (.sl 5 [[sC ⟨#[120]⟩,iC 1,iC 0,iC 1,iC 0],[sC ⟨#[121]⟩,iC 0,iC 0,iC 1,iC 0],[sC ⟨#[122]⟩,iC 0,iC 0,iC 1,iC 0]]),.c (.sl 6 [[sC ⟨#[104]⟩,iC 0,iC 1,iC 24,iC 0,.sl 3 []]]),.c (.sl 10 [[iC 0,iC 0,iC 1,iC 0,iC 24,iC 0,.sl 3 [],.sl 10 [],.sl 10 [],.sl 1 []],[iC 3,iC 0,iC 0,iC 0,iC 24,iC 1,.sl 3 [],.sl 10 [[iC 0,iC 1,iC 2,iC 0,iC 0,iC 1,.sl 3 [],.sl 10 [],.sl 10 [],.sl 1 []]],.sl 10 [],.sl 1 []],[iC 1,iC 0,iC 0,iC 0,iC 24,iC 2,.sl 3 [],.sl 10 [],.sl 10 [],.sl 1 []],[iC 5,iC 0,iC 1,iC 0,iC 0,iC 0,.sl 3 [],.sl 10 [],.sl 10 [],.sl 1 []],[iC 1,iC 0,iC 0,iC 0,iC 24,iC 1,.sl 3 [],.sl 10 [],.sl 10 [],.sl 1 []]])]),none⟩,⟨false,.tup [.agg [.c (iC 6),.c (iC 3),.c (.sl 3 [[iC 0,iC 1,iC 0],[iC 1,iC 2,iC 1],[iC 1,iC 9,iC 1],[iC 2,iC 3,iC 0],[iC 4,iC 5,iC 0],[iC 6,iC 0,iC 0],[iC 6,iC 4,iC 2],[iC 8,iC 3,iC 0]])],li 0],none⟩] ?_ ?_
 .first|exact⟨ce _,cb _⟩|exact trivial|(repeat' first|exact trivial|exact ce _|exact cb _|apply And.intro)
 refine X0<|(Xs (by simp[*,XL,QH,Q1,cellsOf,W4];rfl) ?_);refine Xh [⟨false,.v (.agg [.c (.sl 5 [[sC ⟨#[120]⟩,iC 1,iC 0,iC 1,iC 0],[sC ⟨#[121]⟩,iC 0,iC 0,iC 1,iC 0],[sC ⟨#[122]⟩,iC 0,iC 0,iC 1,iC 0]]),.c (.sl 6 [[sC ⟨#[104]⟩,iC 0,iC 1,iC 24,iC 0,.sl 3 []]]),.c (.sl 10 [[iC 0,iC 0,iC 1,iC 0,iC 24,iC 0,.sl 3 [],.sl 10 [],.sl 10 [],.sl 1 []],[iC 3,iC 0,iC 0,iC 0,iC 24,iC 1,.sl 3 [],.sl 10 [[iC 0,iC 1,iC 2,iC 0,iC 0,iC 1,.sl 3 [],.sl 10 [],.sl 10 [],.sl 1 []]],.sl 10 [],.sl 1 []],[iC 1,iC 0,iC 0,iC 0,iC 24,iC 2,.sl 3 [],.sl 10 [],.sl 10 [],.sl 1 []],[iC 5,iC 0,iC 1,iC 0,iC 0,iC 0,.sl 3 [],.sl 10 [],.sl 10 [],.sl 1 []],[iC 1,iC 0,iC 0,iC 0,iC 24,iC 1,.sl 3 [],.sl 10 [],.sl 10 [],.sl 1 []]])]),none⟩,⟨false,.tup [.one (.c (.sl 1 [])),.one (.c (.sl 1 [[iC 0]])),li 0],none⟩] ?_ ?_
 .first|exact⟨ce _,cs _⟩|exact trivial|(repeat' first|exact trivial|exact ce _|exact cs _|apply And.intro)
 refine Xh [⟨true,.v (lb true),none⟩,⟨true,.v (lb true),none⟩] ?_ ?_
 .first|exact⟨e1 _,e2 _⟩|exact trivial|(repeat' first|exact trivial|exact e1 _|exact e2 _|apply And.intro)
 exact Xc
theorem Xct (b:Int):(fun x:Int=>x∈[b])=fun n=>n=b:=by funext x;simp
theorem fit_sm {f:Fl} {a b c:Int} (h:Fit f a b c):Sm f:=⟨by have:=h.hv;omega,by have:=h.hh;omega,by have:=h.hn;omega,h.hb⟩
theorem X9W {f:Fl} (h:Sm f) (h0:XR f=0) (h1:(flL f.body).length<=1024) (h2:f.vars.length<=64) (s:Nat) (hs:s<(flL f.body).length+f.vars.length+1) (d:Nat):
  Con Tryz.prog 28 false [.agg [.c (iC (flL f.body).length),.c (iC f.vars.length),.c (.sl 3 (Qp (Zo f)))],lI [(s:Int)]] (.tup [lBl (czL (prs true true (Zo f)) [(s:Int)] ((flL f.body).length+f.vars.length+1)),li 0]) none d:=by
 have cB:=back_con ((flL f.body).length:Int) f.vars.length (Zo f) [(s:Int)] (Xau h h0) (by simp);unfold wkR at cB;have hnb:X4U (((flL f.body).length:Int)+f.vars.length+1) [(s:Int)]=true:=by simp[X4U];omega
 have hN:(((flL f.body).length:Int)+f.vars.length+1).toNat=(flL f.body).length+f.vars.length+1:=by omega
 simp only[ch_dep h h0 h1 h2,hnb,and_self,Nj,hN]at cB;exact cB d
theorem X9s {f:Fl} (h:Sm f) (h0:XR f=0) (d:Nat):Con Tryz.prog 23 false [aF f] (.tup [.agg [.c (iC (flL f.body).length),.c (iC f.vars.length),.c (.sl 3 (Qp (Zo f)))],li 0]) none d:=by
 have cb:=X2p f h;unfold bdR at cb;have hdl:WH (X1R f)=Zo f:=rfl;rw[h0,hdl]at cb;simpa only[Nj]using cb d
theorem X5K (f:Fl) (a:List Int):(evR f a).2.length<=oUL f.body:=by
 have:=X5E f.vars (QY a f.hats) f.body 0 (⟨a,[],0⟩,[]);unfold evR;simpa using this
end Go.Proofs.YtdajceakaakdoaaGreat
namespace Go.Proofs.YtdajceakaakdoaaGreat
open Go Go.Hl Go.RowKit Go.ChangeShapes Go.Proofs.YtdajceakaakdoaaGreat
theorem tiled:XaC Tryz.prog:=tiled_mk (by kernel_rfl)
theorem own:ownKnob Tryz.prog.godebug=none:=by kernel_rfl
theorem Xcy:laidOutB Tryz.prog=true:=by kernel_rfl
section
variable {P:Program} {k:Nat} {t:TypeId} {ds:List CD}
theorem ZH {T:Type} {enc:T->List CD} {e:TypeId} {c:Nat} (hu:P.underlying t=some (.slice e)) (hc:P.cellsOf e=c) (he:∀k',k'<k->∀r,Qr P k' e r->∃x,r=enc x) (h:Qr P k t ds):∃xs:List T,ds=[.sl c (xs.map enc)]:=by
 cases k with
 |zero=>exact h.elim
 | succ k=>
   unfold Qr at h;rw[hu]at h;obtain⟨rows,h1,_,h3⟩:=h;obtain⟨xs,hxs⟩:=Xax (enc:=enc) fun r hr=>he k (Nat.lt_succ_self k) r (h3 r hr).2;subst hxs;exact⟨xs,by rw[h1,hc]⟩
theorem WC {fs:Array Field} {l:List (Nat×Nat×TypeId)} {c:Nat} (hu:P.underlying t=some (.struct fs)) (hl:X97 P fs=l) (hc:P.cellsOf t=c) (h:Qr P k t ds):ds.length=c/\∃k',k'<k/\∀x∈l,Qr P k' x.2.2 ((ds.drop x.1).take x.2.1):=by
 cases k with
 |zero=>exact h.elim
 | succ k=>
   unfold Qr at h;rw[hu]at h;have h':ds.length=P.cellsOf t/\∀x∈X97 P fs,Qr P k x.2.2 ((ds.drop x.1).take x.2.1):=h;exact⟨hc▸h'.1,k,Nat.lt_succ_self k,fun x hx=>h'.2 x (hl▸hx)⟩
end
theorem X17 {k:Nat} {t:TypeId} {ds:List CD} (hu:Tryz.prog.underlying t=some (.int .i64)) (h:Qr Tryz.prog k t ds):∃n:Int,ds=[iC n]:=by
 obtain⟨n,h1,_⟩:=X7m hu h;exact⟨n,h1⟩
theorem dec_s {k:Nat} {ds:List CD} (h:Qr Tryz.prog k 9 ds):∃s:ByteArray,ds=[sC s]:=by
 obtain⟨s,h1,_⟩:=Xd5 Tryz.underlying9 h;exact⟨s,h1⟩
theorem dec_I {k:Nat} {ds:List CD} (h:Qr Tryz.prog k 29 ds):∃l:List Int,ds=[.sl 1 (X9 l)]:=
 ZH (enc:=fun x=>[iC x]) Tryz.underlying29 (by kernel_rfl:Tryz.prog.cellsOf 3=1) (fun _ _ _ hr=>X17 Tryz.underlying3 hr) h
theorem dec_T:∀(k:Nat) (ds:List CD),Qr Tryz.prog k 68 ds->∃t:Tm,ds=t.enc:=by
 intro k
 induction k using Nat.strongRecOn with
 | ind k ih=>
   intro ds h;obtain⟨hl,k1,hk1,hx⟩:=WC (l:=[(0,1,65),(1,1,3),(2,1,66)]) Tryz.underlying68 (by kernel_rfl) (by kernel_rfl:Tryz.prog.cellsOf 68=3) h
   match ds,hl with
   | [a,b,c],_=>
     obtain⟨n1,h1⟩:=X17 Tryz.underlying65 (hx (0,1,65) (by simp));obtain⟨n2,h2⟩:=X17 Tryz.underlying3 (hx (1,1,3) (by simp));obtain⟨ks,h3⟩:=ZH (enc:=Tm.enc) Tryz.underlying66 (by kernel_rfl:Tryz.prog.cellsOf 68=3) (fun k' hk' r hr=>ih k' (by omega) r hr) (hx (2,1,66) (by simp));simp only[List.drop,List.take,List.cons.injEq,and_true]at h1 h2 h3;subst h1 h2 h3;exact⟨.mk n1 n2 ks,by simp only[Tm.enc,X1k]⟩
theorem dec_S:∀(k:Nat) (ds:List CD),Qr Tryz.prog k 70 ds->∃s:St,ds=s.enc:=by
 intro k
 induction k using Nat.strongRecOn with
 | ind k ih=>
   intro ds h;obtain⟨hl,k1,hk1,hx⟩:=WC (l:=[(0,1,64),(1,1,3),(2,1,3),(3,1,3),(4,3,68),(7,1,24),(8,1,24),(9,1,29)]) Tryz.underlying70 (by kernel_rfl) (by kernel_rfl:Tryz.prog.cellsOf 70=10) h
   match ds,hl with
   | [a0,a1,a2,a3,a4,a5,a6,a7,a8,a9],_=>
     obtain⟨n0,h0⟩:=X17 Tryz.underlying64 (hx (0,1,64) (by simp));obtain⟨n1,h1⟩:=X17 Tryz.underlying3 (hx (1,1,3) (by simp));obtain⟨n2,h2⟩:=X17 Tryz.underlying3 (hx (2,1,3) (by simp));obtain⟨n3,h3⟩:=X17 Tryz.underlying3 (hx (3,1,3) (by simp));obtain⟨t,h4⟩:=dec_T _ _ (hx (4,3,68) (by simp));obtain⟨la,h7⟩:=ZH (enc:=St.enc) Tryz.underlying24 (by kernel_rfl:Tryz.prog.cellsOf 70=10) (fun k' hk' r hr=>ih k' (by omega) r hr) (hx (7,1,24) (by simp));obtain⟨lb',h8⟩:=ZH (enc:=St.enc) Tryz.underlying24 (by kernel_rfl:Tryz.prog.cellsOf 70=10) (fun k' hk' r hr=>ih k' (by omega) r hr) (hx (8,1,24) (by simp));obtain⟨lc,h9⟩:=dec_I (hx (9,1,29) (by simp));simp only[List.drop,List.take,List.cons.injEq,and_true]at h0 h1 h2 h3 h4 h7 h8 h9;subst h0 h1 h2 h3 h7 h8 h9;refine⟨.mk n0 n1 n2 n3 t la lb' lc,?_⟩;simp only[St.enc,WU,<-h4,List.cons_append,List.nil_append]
theorem dec_V {k:Nat} {ds:List CD} (h:Qr Tryz.prog k 89 ds):∃v:Vr,ds=v.enc:=by
 obtain⟨hl,k1,_,hx⟩:=WC (l:=[(0,1,9),(1,1,87),(2,1,3),(3,1,3),(4,1,3)]) Tryz.underlying89 (by kernel_rfl) (by kernel_rfl:Tryz.prog.cellsOf 89=5) h
 match ds,hl with
 | [a0,a1,a2,a3,a4],_=>
   obtain⟨n0,h0⟩:=dec_s (hx (0,1,9) (by simp));obtain⟨n1,h1⟩:=X17 Tryz.underlying87 (hx (1,1,87) (by simp));obtain⟨n2,h2⟩:=X17 Tryz.underlying3 (hx (2,1,3) (by simp));obtain⟨n3,h3⟩:=X17 Tryz.underlying3 (hx (3,1,3) (by simp));obtain⟨n4,h4⟩:=X17 Tryz.underlying3 (hx (4,1,3) (by simp));simp only[List.drop,List.take,List.cons.injEq,and_true]at h0 h1 h2 h3 h4;subst h0 h1 h2 h3 h4;exact⟨⟨n0,n1,n2,n3,n4⟩,rfl⟩
theorem dec_H {k:Nat} {ds:List CD} (h:Qr Tryz.prog k 93 ds):∃v:Ht,ds=v.enc:=by
 obtain⟨hl,k1,_,hx⟩:=WC (l:=[(0,1,9),(1,1,3),(2,1,3),(3,3,68)]) Tryz.underlying93 (by kernel_rfl) (by kernel_rfl:Tryz.prog.cellsOf 93=6) h
 match ds,hl with
 | [a0,a1,a2,a3,a4,a5],_=>
   obtain⟨n0,h0⟩:=dec_s (hx (0,1,9) (by simp));obtain⟨n1,h1⟩:=X17 Tryz.underlying3 (hx (1,1,3) (by simp));obtain⟨n2,h2⟩:=X17 Tryz.underlying3 (hx (2,1,3) (by simp));obtain⟨t,h3⟩:=dec_T _ _ (hx (3,3,68) (by simp));simp only[List.drop,List.take,List.cons.injEq,and_true]at h0 h1 h2 h3;subst h0 h1 h2;exact⟨⟨n0,n1,n2,t⟩,by simp only[Ht.enc,<-h3,List.cons_append,List.nil_append]⟩
theorem dec_F {k:Nat} {ds:List CD} (h:Qr Tryz.prog k 26 ds):∃f:Fl,ds=f.enc:=by
 obtain⟨hl,k1,_,hx⟩:=WC (l:=[(0,1,22),(1,1,23),(2,1,24)]) Tryz.underlying26 (by kernel_rfl) (by kernel_rfl:Tryz.prog.cellsOf 26=3) h
 match ds,hl with
 | [a0,a1,a2],_=>
   obtain⟨lv,h0⟩:=ZH (enc:=Vr.enc) Tryz.underlying22 (by kernel_rfl:Tryz.prog.cellsOf 89=5) (fun _ _ _ hr=>dec_V hr) (hx (0,1,22) (by simp));obtain⟨lh,h1⟩:=ZH (enc:=Ht.enc) Tryz.underlying23 (by kernel_rfl:Tryz.prog.cellsOf 93=6) (fun _ _ _ hr=>dec_H hr) (hx (1,1,23) (by simp));obtain⟨ls,h2⟩:=ZH (enc:=St.enc) Tryz.underlying24 (by kernel_rfl:Tryz.prog.cellsOf 70=10) (fun k' _ r hr=>dec_S k' r hr) (hx (2,1,24) (by simp));simp only[List.drop,List.take,List.cons.injEq,and_true]at h0 h1 h2;subst h0 h1 h2;exact⟨⟨lv,lh,ls⟩,by simp only[Fl.enc,Xk,Xn,WU]⟩
theorem aggF:X5w Tryz.prog 26=true:=by unfold X5w;rw[Tryz.underlying26]
theorem dec_In {k:Nat} {ds:List CD} (h:Qr Tryz.prog k 59 ds):∃i:Inp,ds=[.sl 1 (X9 i.s),.sl 1 (X9 i.p),.sl 1 (X9 i.r)]:=by
 obtain⟨hl,k1,_,hx⟩:=WC (l:=[(0,1,29),(1,1,29),(2,1,29)]) Tryz.underlying59 (by kernel_rfl) (by kernel_rfl:Tryz.prog.cellsOf 59=3) h
 match ds,hl with
 | [a0,a1,a2],_=>
   obtain⟨l0,h0⟩:=dec_I (hx (0,1,29) (by simp));obtain⟨l1,h1⟩:=dec_I (hx (1,1,29) (by simp));obtain⟨l2,h2⟩:=dec_I (hx (2,1,29) (by simp));simp only[List.drop,List.take,List.cons.injEq,and_true]at h0 h1 h2;subst h0 h1 h2;exact⟨⟨l0,l1,l2⟩,rfl⟩
theorem Xch {k:Nat} {ds:List CD} (h:Qr Tryz.prog k 60 ds):∃i j:Inp,ds=[.sl 1 (X9 i.s),.sl 1 (X9 i.p),.sl 1 (X9 i.r),.sl 1 (X9 j.s),.sl 1 (X9 j.p),.sl 1 (X9 j.r)]:=by
 obtain⟨hl,k,hx⟩:=Xai (l:=[(0,3,59),(3,3,59)]) Tryz.underlying60 (by kernel_rfl) (by kernel_rfl:Tryz.prog.cellsOf 60=6) h
 match ds,hl with
 | [a0,a1,a2,a3,a4,a5],_=>
   obtain⟨i,h0⟩:=dec_In (hx (0,3,59) (by simp));obtain⟨j,h1⟩:=dec_In (hx (3,3,59) (by simp));simp only[List.drop,List.take,List.cons.injEq,and_true]at h0 h1;obtain⟨e0,e1,e2⟩:=h0;obtain⟨e3,e4,e5⟩:=h1;subst e0 e1 e2 e3 e4 e5;exact⟨i,j,rfl⟩
theorem aggI2:X5w Tryz.prog 60=true:=by unfold X5w;rw[Tryz.underlying60]
end Go.Proofs.YtdajceakaakdoaaGreat
namespace Go.Proofs.YtdajceakaakdoaaGreat
open Go Go.Hl
section
variable {N:List Nd} {steps:List St} {vars:List Vr} {nh:Nat} {hv hw:List Int} {K:Nat->Bool} {ar:List Int} {nd:Nat->Bool}
end
end Go.Proofs.YtdajceakaakdoaaGreat
