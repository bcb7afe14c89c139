/- Build against the model. Conditions: none. -/
import Derived.Test.YtdajceakaakdoaaGreatB20
set_option linter.unusedSimpArgs false
set_option linter.unusedVariables false
set_option linter.unnecessarySimpa false
set_option maxRecDepth 100000
set_option maxHeartbeats 2000000
namespace Go.Proofs.YtdajceakaakdoaaGreat
open Go Go.Hl
set_option maxHeartbeats 32000000 in
theorem X81 (f:Fl) (d:Nat):Con Tryz.prog 5 true [aF f] (.v (lb true)) none d:=by
 have ck:=X9D;have cf:=few_con f 12 120 (by omega) (by omega);by_cases hfew:fewB f 12 120=true
 .rw[hfew]at cf;obtain⟨hS,hv1,hh1,hn1⟩:=few_sm23 hfew;have cc:=XaD f (by omega) (by omega) (by omega) hS.bnd;have cb:=X1I f hS;unfold bdR at cb;by_cases h0:Qa f=0
  .have hfl:=Q6 f.body;have hsn:=X09 f.body;have hdl:QU (X2J f)=X1L f:=rfl;rw[h0,hdl]at cb;simp only[Nf]at cb;have cm:=XaR hS h0 hv1 hn1;have hEl:=X9V hS h0;have ceq:=X93 (X1L f) (X1L f) (by omega) (by omega);have cch:=chkP_con ((flL f.body).length:Int) f.vars.length (X1L f) (by omega);rw[ch_dep hS h0 (by omega) (by omega)]at cch;rw[h0]at cc;obtain⟨E,hE⟩:∃z,X1L f=z:=⟨_,rfl⟩;rw[hE]at cb cm ceq cch;simp only[decide_true,lDp]at ceq;obtain⟨n,hn⟩:∃n,(flL f.body).length=n:=⟨_,rfl⟩;rw[hn]at cb cm cch;clear hfew hS h0 hfl hsn hdl hEl hE hn hn1 hh1 hv1;obtain⟨vars,hats,body⟩:=f;simp only[aF,Fl.enc,Ni,Nr,aPd]at*;obtain⟨V,hV⟩:∃n,vars.length=n:=⟨_,rfl⟩;rw[hV]at cb cm cch;clear hV;refine X6 Tryz.func5 ?_;simp only[Tryz.f5];refine X1 ?_;refine X0<|X0<|(Xo [⟨false,.v (lb true),none⟩] ?_ ?_)
   .first|exact ck _|exact trivial|simpa[*]using ck _
   refine(Xc rfl (fun h2=>?_) fun h2=>?_)
   .exact absurd h2 (by simp)
   (try simp only[BN]at h2);refine X0<|X0<|(Xo [⟨true,.v (lb true),none⟩] ?_ ?_)
   .first|exact cf _|exact trivial|simpa[*]using cf _
   refine(Xc rfl (fun h6=>?_) fun h6=>?_)
   .exact absurd h6 (by simp)
   (try simp only[BN]at h6);refine Xk [⟨false,.tup [.agg [.c (iC n),.c (iC V),.c (.sl 3 (XG E))],li 0],none⟩] ?_ ?_
   .first|exact cb _|exact trivial|simpa[*]using cb _
   refine X0<|X0<|(Xo [⟨true,.v (li 0),none⟩] ?_ ?_)
   .first|exact cc _|exact trivial|simpa[*]using cc _
   refine X1 ?_;refine(Xc rfl (fun h12=>?_) fun h12=>?_)
   .exact absurd h12 (by simp)
   (try simp only[BN]at h12);refine Xk [⟨false,.v (.agg [.c (iC n),.c (iC V),.c (.sl 3 (XG E))]),none⟩] ?_ ?_
   .first|exact cm _|exact trivial|simpa[*]using cm _
   refine Xk [⟨true,.v (lb true),none⟩,⟨true,.v (li 0),none⟩] ?_ ?_
   .first|exact⟨ceq _,cch _⟩|exact trivial|(repeat' first|exact trivial|exact ceq _|exact cch _|apply And.intro)
   exact Xf
  obtain⟨C,hC⟩:∃x,Qa f=x:=⟨_,rfl⟩;rw[hC]at h0 cc cb;rw[N7 h0]at cb;clear hC hfew hS hv1 hh1 hn1;obtain⟨vars,hats,body⟩:=f;simp only[aF,Fl.enc,Ni,Nr]at*;refine X6 Tryz.func5 ?_;simp only[Tryz.f5];refine X1 ?_;refine X0<|X0<|(Xo [⟨false,.v (lb true),none⟩] ?_ ?_)
  .first|exact ck _|exact trivial|simpa[*]using ck _
  refine(Xc rfl (fun h2=>?_) fun h2=>?_)
  .exact absurd h2 (by simp)
  (try simp only[BN]at h2);refine X0<|X0<|(Xo [⟨true,.v (lb true),none⟩] ?_ ?_)
  .first|exact cf _|exact trivial|simpa[*]using cf _
  refine(Xc rfl (fun h6=>?_) fun h6=>?_)
  .exact absurd h6 (by simp)
  (try simp only[BN]at h6);refine Xk [⟨false,.tup [.agg [.c (iC 0),.c (iC 0),.c (.lit XY)],li C],none⟩] ?_ ?_
  .first|exact cb _|exact trivial|simpa[*]using cb _
  refine X0<|X0<|(Xo [⟨true,.v (li C),none⟩] ?_ ?_)
  .first|exact cc _|exact trivial|simpa[*]using cc _
  refine X1 ?_;refine(Xc rfl (fun h12=>?_) fun h12=>?_)
  ·(try simp only[BN]at h12);refine X1 ?_;exact Xf
  exact absurd h12 (by simp[h0])
 have hfew:fewB f 12 120=false:=by simpa using hfew
 rw[hfew]at cf;obtain⟨vars,hats,body⟩:=f;simp only[aF,Fl.enc,Ni,Nr]at*;refine X6 Tryz.func5 ?_;simp only[Tryz.f5];refine X1 ?_;refine X0<|X0<|(Xo [⟨false,.v (lb true),none⟩] ?_ ?_)
 .first|exact ck _|exact trivial|simpa[*]using ck _
 refine(Xc rfl (fun h2=>?_) fun h2=>?_)
 .exact absurd h2 (by simp)
 (try simp only[BN]at h2);refine X0<|X0<|(Xo [⟨true,.v (lb false),none⟩] ?_ ?_)
 .first|exact cf _|exact trivial|simpa[*]using cf _
 refine(Xc rfl (fun h6=>?_) fun h6=>?_)
 ·(try simp only[BN]at h6);refine X1 ?_;exact Xf
 exact absurd h6 (by simp)
end Go.Proofs.YtdajceakaakdoaaGreat
