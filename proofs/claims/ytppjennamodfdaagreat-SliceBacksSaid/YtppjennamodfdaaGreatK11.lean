/- Part 11: contracts of functions of the program and of the reference, and plain facts about what they compute; used by the proof of the claimed statement. Conditions: as each theorem states. -/
import Derived.Test.YtppjennamodfdaaGreatK10
import Derived.Test.YtppjennamodfdaaGreatK8
import Derived.Test.YtppjennamodfdaaGreatK3
import Derived.Test.YtppjennamodfdaaGreatK6
import Derived.Test.YtppjennamodfdaaGreatK9
import Derived.Test.YtppjennamodfdaaGreatK5
set_option linter.unusedSimpArgs false
set_option linter.unusedVariables false
set_option linter.unnecessarySimpa false
set_option maxRecDepth 100000
set_option maxHeartbeats 2000000
namespace Go.Proofs.YtppjennamodfdaaGreat
open Go Go.Hl
theorem X2b (n:Int) (d:Nat):Con Tryz.prog 75 false [li n] (.v (aT (rfT n))) none d:=by
 simp only[aT,rfT,Tm.enc,Xn,List.map_cons,List.map_nil];refine X5 Tryz.func75 ?_;simp only[Tryz.f75];refine X2 ?_;refine X0<|(QN 2 [] [] (by simp[XA,Qb,XN];rfl) trivial (X1K 4 [.c (iC 24),.c (iC n),.c (.sl 3 [])] rfl (by(repeat'(first|exact LWk.nil|apply LWk.cons|exact CWk.refl _|exact CWk.nil _)))) (by simp;rfl) trivial ?_);exact Xe
set_option maxHeartbeats 8000000 in
theorem X9n (d:Nat):Con Tryz.prog 38 false [] (.v (aF exF)) none d:=by
 have c0:=X2b 0;have c1:=X2b 1;have c2:=X2b 2;have c3:=X2b 3;have hq1:Q9 1 144:=Xv (by decide) (by decide);have hq2:Q9 5 144:=Xv (by decide) (by decide);have hq3:Q9 4 48:=Xv (by decide) (by decide);simp only[exF,rfT,aF,aT,Fl.enc,Vr.enc,Xr,Xs,Xi,X8,Xn,St.enc,Tm.enc,List.map_cons,List.map_nil,List.cons_append,List.nil_append]at c0 c1 c2 c3⊢;refine X5 Tryz.func38 ?_;simp only[Tryz.f38];refine X2 ?_;refine X2 ?_;refine X0<|(XP ?_);refine RunsN.cutE 8 [⟨false,.v (.agg [.c (iC 24),.c (iC 0),.c (.sl 3 [])]),none⟩] (by simp[*,XA,Qb,XN];first|exact⟨rfl,Iff.rfl⟩|exact⟨rfl,trivial⟩|rfl) (by first|exact c0 _|simpa using c0 _) (X1K 9 [.c (iC 0),.c (iC 0),.c (iC 1),.c (iC 0),.c (iC 24),.c (iC 0),.c (.sl 3 []),.c (.sl 10 []),.c (.sl 10 []),.c (.sl 1 [])] rfl (by(repeat'(first|exact LWk.nil|apply LWk.cons|exact CWk.refl _|exact CWk.nil _)))) ?_;refine RunsN.cutE 2 [] (by simp[*,XA,Qb,XN];rfl) trivial (X1K 11 [.c (iC 0),.c (iC 0),.c (iC 2),.c (iC 0),.c (iC 0),.c (iC 2),.c (.sl 3 []),.c (.sl 10 []),.c (.sl 10 []),.c (.sl 1 [])] rfl (by(repeat'(first|exact LWk.nil|apply LWk.cons|exact CWk.refl _|exact CWk.nil _)))) ?_;refine RunsN.cutE 4 [⟨false,.v (.agg [.c (iC 24),.c (iC 1),.c (.sl 3 [])]),none⟩] (by simp[*,XA,Qb,XN];first|exact⟨rfl,Iff.rfl⟩|exact⟨rfl,trivial⟩|rfl) (by first|exact c1 _|simpa using c1 _) (X1K 15 [.c (iC 0),.c (iC 0),.c (iC 2),.c (iC 0),.c (iC 0),.c (iC 1),.c (.sl 3 []),.c (.sl 10 []),.c (.sl 10 []),.c (.sl 1 [])] rfl (by(repeat'(first|exact LWk.nil|apply LWk.cons|exact CWk.refl _|exact CWk.nil _)))) ?_;refine RunsN.cutE 1 [] (by simp[*,XA,Qb,XN];rfl) trivial (XO 16 rfl) ?_;refine RunsN.cutE 1 [] (by simp[*,XA,Qb,XN];rfl) trivial (X1K 17 [.c (iC 3),.c (iC 0),.c (iC 0),.c (iC 0),.c (iC 24),.c (iC 1),.c (.sl 3 []),.c (.sl 10 [[iC 0,iC 0,iC 2,iC 0,iC 0,iC 1,.sl 3 [],.sl 10 [],.sl 10 [],.sl 1 []]]),.c (.sl 10 []),.c (.sl 1 [])] rfl (by(repeat'(first|exact LWk.nil|apply LWk.cons|exact CWk.refl _|exact CWk.nil _)))) ?_;refine RunsN.cutE 3 [⟨false,.v (.agg [.c (iC 24),.c (iC 2),.c (.sl 3 [])]),none⟩] (by simp[*,XA,Qb,XN];first|exact⟨rfl,Iff.rfl⟩|exact⟨rfl,trivial⟩|rfl) (by first|exact c2 _|simpa using c2 _) (X1K 20 [.c (iC 1),.c (iC 0),.c (iC 0),.c (iC 0),.c (iC 24),.c (iC 2),.c (.sl 3 []),.c (.sl 10 []),.c (.sl 10 []),.c (.sl 1 [])] rfl (by(repeat'(first|exact LWk.nil|apply LWk.cons|exact CWk.refl _|exact CWk.nil _)))) ?_;refine RunsN.cutE 3 [⟨false,.v (.agg [.c (iC 24),.c (iC 3),.c (.sl 3 [])]),none⟩] (by simp[*,XA,Qb,XN];first|exact⟨rfl,Iff.rfl⟩|exact⟨rfl,trivial⟩|rfl) (by first|exact c3 _|simpa using c3 _) (X1K 23 [.c (iC 1),.c (iC 0),.c (iC 0),.c (iC 0),.c (iC 24),.c (iC 3),.c (.sl 3 []),.c (.sl 10 []),.c (.sl 10 []),.c (.sl 1 [])] rfl (by(repeat'(first|exact LWk.nil|apply LWk.cons|exact CWk.refl _|exact CWk.nil _)))) ?_;refine RunsN.cutE 1 [] (by simp[*,XA,Qb,XN];rfl) trivial (le_trans (XO 6 rfl) (XO 24 rfl)) ?_;refine RunsN.cutE 1 [] (by simp[*,XA,Qb,XN];rfl) trivial (X1K 25 [.c (.sl 5 [[sC ⟨#[120]⟩,iC 1,iC 0,iC 3,iC 0],[sC ⟨#[121]⟩,iC 0,iC 0,iC 3,iC 0],[sC ⟨#[122]⟩,iC 0,iC 0,iC 3,iC 0],[sC ⟨#[119]⟩,iC 0,iC 0,iC 3,iC 0]]),.c (.sl 6 []),.c (.sl 10 [[iC 0,iC 0,iC 1,iC 0,iC 24,iC 0,.sl 3 [],.sl 10 [],.sl 10 [],.sl 1 []],[iC 0,iC 0,iC 2,iC 0,iC 0,iC 2,.sl 3 [],.sl 10 [],.sl 10 [],.sl 1 []],[iC 3,iC 0,iC 0,iC 0,iC 24,iC 1,.sl 3 [],.sl 10 [[iC 0,iC 0,iC 2,iC 0,iC 0,iC 1,.sl 3 [],.sl 10 [],.sl 10 [],.sl 1 []]],.sl 10 [],.sl 1 []],[iC 1,iC 0,iC 0,iC 0,iC 24,iC 2,.sl 3 [],.sl 10 [],.sl 10 [],.sl 1 []],[iC 1,iC 0,iC 0,iC 0,iC 24,iC 3,.sl 3 [],.sl 10 [],.sl 10 [],.sl 1 []]])] rfl (by(repeat'(first|exact LWk.nil|apply LWk.cons|exact CWk.refl _|exact CWk.nil _)))) ?_;refine RunsN.doneE [] (by simp[*,XA,Qb,XN];rfl) trivial ?_;exact Xe
end Go.Proofs.YtppjennamodfdaaGreat

namespace Go.Proofs.YtppjennamodfdaaGreat
open Go Go.Hl
set_option maxHeartbeats 16000000 in
theorem Xcu (d:Nat):Con Tryz.prog 10 false [] (.v (lb true)) none d:=by
 have ce:=X9n;have cB:=X34 exF exSm [4] (by decide);have cF:=X4P exF exSm [0] (by decide);have cC:=X9J exF exSm [0] [4] (by decide) (by decide);have cN:=XcP exF exSm [5] (by decide);have cP:=X9s exF exSm [5] (by decide);have cL:=X9Z exF exSm [5] (by decide);rw[X8P [4] (by decide),exBw]at cB;rw[X8P [0] (by decide),exFw]at cF;rw[exAsk2 [0] [4] (by decide),exCh]at cC;rw[X8P [5] (by decide),exNe]at cN;rw[X8P [5] (by decide),exPg]at cP;rw[X8P [5] (by decide),exCl]at cL;have e1:=X0E [0,1,2,3,4] [0,1,2,3,4] (by decide) (by decide);have e2:=X0E [0,2,3,4] [0,2,3,4] (by decide) (by decide);have e3:=X0E [3] [3] (by decide) (by decide);have hw0:IntKind.i64.wrap 0=0:=by decide
 have hq1:Q9 1 8:=Xv (by decide) (by decide);have hq2:Q9 4 8:=Xv (by decide) (by decide);have hq3:Q9 5 8:=Xv (by decide) (by decide);rw[show slR 0 [0,1,2,3,4]=.tup [.one (.c (.sl 1 (Xi [0,1,2,3,4]))),li 0] from rfl]at cB;rw[show slR 0 [0,2,3,4]=.tup [.one (.c (.sl 1 (Xi [0,2,3,4]))),li 0] from rfl]at cF cC;simp only[exF,rfT,aF,aT,Fl.enc,Vr.enc,Xr,Xs,Xi,X8,Xn,St.enc,Tm.enc,List.map_cons,List.map_nil,List.cons_append,List.nil_append,if_true,decide_true,Bool.and_true,lI]at ce cB cF cC cN cP cL e1 e2 e3;refine X5 Tryz.func10 ?_;simp only[Tryz.f10];refine X2 ?_;refine Xh [⟨false,.v (.agg [.c (.sl 5 [[sC ⟨#[120]⟩,iC 1,iC 0,iC 3,iC 0],[sC ⟨#[121]⟩,iC 0,iC 0,iC 3,iC 0],[sC ⟨#[122]⟩,iC 0,iC 0,iC 3,iC 0],[sC ⟨#[119]⟩,iC 0,iC 0,iC 3,iC 0]]),.c (.sl 6 []),.c (.sl 10 [[iC 0,iC 0,iC 1,iC 0,iC 24,iC 0,.sl 3 [],.sl 10 [],.sl 10 [],.sl 1 []],[iC 0,iC 0,iC 2,iC 0,iC 0,iC 2,.sl 3 [],.sl 10 [],.sl 10 [],.sl 1 []],[iC 3,iC 0,iC 0,iC 0,iC 24,iC 1,.sl 3 [],.sl 10 [[iC 0,iC 0,iC 2,iC 0,iC 0,iC 1,.sl 3 [],.sl 10 [],.sl 10 [],.sl 1 []]],.sl 10 [],.sl 1 []],[iC 1,iC 0,iC 0,iC 0,iC 24,iC 2,.sl 3 [],.sl 10 [],.sl 10 [],.sl 1 []],[iC 1,iC 0,iC 0,iC 0,iC 24,iC 3,.sl 3 [],.sl 10 [],.sl 10 [],.sl 1 []]])]),none⟩] ?_ ?_
 · first|exact ce _|exact trivial|simpa[*]using ce _
 refine X0<|(QN 2 [] [⟨false,.tup [.one (.c (.sl 1 [[iC 0],[iC 1],[iC 2],[iC 3],[iC 4]])),li 0],none⟩] (by simp[*];rfl) trivial (XO 17 rfl) (by simp[*];first|exact⟨rfl,Iff.rfl⟩|exact⟨rfl,trivial⟩|rfl) ?_ ?_)
 · first|exact cB _|simpa using cB _
 refine X0<|(QN 2 [] [⟨false,.tup [.one (.c (.sl 1 [[iC 0],[iC 2],[iC 3],[iC 4]])),li 0],none⟩] (by simp[*];rfl) trivial (XO 23 rfl) (by simp[*];first|exact⟨rfl,Iff.rfl⟩|exact⟨rfl,trivial⟩|rfl) ?_ ?_)
 · first|exact cF _|simpa using cF _
 refine X0<|(QN 3 [] [⟨false,.tup [.one (.c (.sl 1 [[iC 0],[iC 2],[iC 3],[iC 4]])),li 0],none⟩] (by simp[*];rfl) trivial (le_trans (XO 29 rfl) (XO 30 rfl)) (by simp[*];first|exact⟨rfl,Iff.rfl⟩|exact⟨rfl,trivial⟩|rfl) ?_ ?_)
 · first|exact cC _|simpa using cC _
 refine X0<|(QN 2 [] [⟨false,.tup [.one (.c (.sl 1 [[iC 3]])),li 0],none⟩] (by simp[*];rfl) trivial (XO 36 rfl) (by simp[*];first|exact⟨rfl,Iff.rfl⟩|exact⟨rfl,trivial⟩|rfl) ?_ ?_)
 · first|exact cN _|simpa using cN _
 refine X0<|(QN 2 [] [⟨false,.tup [.agg [.c (.sl 5 [[sC ⟨#[120]⟩,iC 1,iC 0,iC 3,iC 0],[sC ⟨#[121]⟩,iC 0,iC 0,iC 3,iC 0],[sC ⟨#[122]⟩,iC 0,iC 0,iC 3,iC 0],[sC ⟨#[119]⟩,iC 0,iC 0,iC 3,iC 0]]),.c (.sl 6 []),.c (.sl 10 [[iC 1,iC 0,iC 0,iC 0,iC 24,iC 3,.sl 3 [],.sl 10 [],.sl 10 [],.sl 1 []]])],li 0],none⟩] (by simp[*];rfl) trivial (XO 42 rfl) (by simp[*,XA,Qb,XN,cellsOf,Qc];first|exact⟨rfl,Iff.rfl⟩|exact⟨rfl,trivial⟩|rfl) ?_ ?_)
 · first|exact cP _|simpa using cP _
 refine X0<|(QN 2 [] [⟨false,.tup [lb true,li 0],none⟩] (by simp[*];rfl) trivial (XO 48 rfl) (by simp[*];first|exact⟨rfl,Iff.rfl⟩|exact⟨rfl,trivial⟩|rfl) ?_ ?_)
 · first|exact cL _|simpa using cL _
 refine Xh [⟨true,.v (lb true),none⟩,⟨true,.v (lb true),none⟩,⟨true,.v (lb true),none⟩,⟨true,.v (lb true),none⟩] ?_ ?_
 · first|exact⟨e1 _,e2 _,e2 _,e3 _⟩|exact trivial|(repeat' first|exact trivial|exact e1 _|exact e2 _|exact e2 _|exact e3 _|apply And.intro)
 exact Xe
end Go.Proofs.YtppjennamodfdaaGreat

namespace Go.Proofs.YtppjennamodfdaaGreat
open Go Go.Hl
abbrev lQ (l:List (List Int)):TV:=.one (.c (.sl 1 (X3O l)))
theorem idxQ_con (l:List (List Int)) (g:FuncId) (p:List Int→Bool) (hl:l.length≤1000000000) (hp:∀v∈l,∀d,Con Tryz.prog g true [lI v] (.v (lb (p v))) none d) (d:Nat):
  ∃r:Int,(∀d,Con Tryz.prog 76 true [lQ l,.one (.fn g [])] (.v (li r)) none d)∧(0≤r↔l.any p=true):=by
 let rec_:List (List Int)→Int→Int:=fun l k=>match l.findIdx? p with
  |some i=>k+i
  |none=>-1
 refine⟨(match l.findIdx? p with|some i=>(i:Int)|none=>-1),fun d=>?_,?_⟩
 · have hstep:∀k:Nat,(∀j:Nat,j<k→∀v,l[j]? =some v→p v=false)→∀v,l[k]? =some v→p v=true→l.findIdx? p=some k:=by
    intro k hno v hv hpv;rw[List.findIdx?_eq_some_iff_getElem];have hk:k<l.length:=(List.getElem?_eq_some_iff.1 hv).1;refine⟨hk,?_,fun j hj=>?_⟩
    · simp only[List.getElem?_eq_getElem hk,Option.some.injEq]at hv;rw[hv];exact hpv
    have:=hno j hj l[j] (by simp);simp[this]
   have hnone:(∀j:Nat,j<l.length→∀v,l[j]? =some v→p v=false)→l.findIdx? p=none:=by
    intro hno;rw[List.findIdx?_eq_none_iff];intro v hv;obtain⟨j,hj⟩:=List.mem_iff_getElem?.1 hv;exact hno j (List.getElem?_eq_some_iff.1 hj).1 v hj
   clear rec_;refine X5 Tryz.func76 ?_;simp only[Tryz.f76];refine X2 ?_;refine X0<|X0<|X1 ?_;refine X3<|(Xb [0,1,7] (fun(x:Nat)=>[(8,.v (li x))]) (fun x=>[]) (fun x=>x≤l.length∧∀j:Nat,j<x→∀v,l[j]? =some v→p v=false) (fun x=>l.length - x) (0:Nat) ⟨Nat.zero_le _,fun j hj=>absurd hj (Nat.not_lt_zero j)⟩ ?_ ?_)
   · exact X4 (fun n=>n) []
   rintro k ⟨hk,hJ⟩;simp only[upS,X6,Xw]
   try simp only[X6,KN,Nat.reduceBEq,if_true,if_false,ins,Nat.reduceLT]
   refine X2 ?_;refine X0<|(X7 rfl (fun h4=>X9 ?_) (fun h4=>?_))
   · (try simp only[BN]at h4);have hlt:k<l.length:=by first|omega|simpa using h4
     obtain⟨v,he,hd⟩:=Xo hlt;have he2:=X5Q he;have hw1:=Xy hlt (by omega);have hk1:k+1≤l.length:=hlt;have hpv:=hp v (List.mem_of_getElem? he);have hs:=hstep k hJ v he;clear hlt h4 hstep hnone hp;refine X0<|X3<|X0<|X1 ?_;refine Xh [⟨true,.v (lb (p v)),none⟩] ?_ ?_
     · first|exact hpv _|exact trivial|simpa[*]using hpv _
     refine(Xc rfl (fun h7=>?_) fun h7=>?_)
     · (try simp only[BN]at h7);rw[hs h7];refine X2 ?_;exact Xe
     (try simp only[BN]at h7);refine X1 ?_;exact⟨k+1,⟨hk1,fun j hj w hw=>(Nat.lt_succ_iff_lt_or_eq.1 hj).elim (fun h=>hJ j h w hw) (fun e=>by subst e;rw[he]at hw;cases hw;exact h7)⟩,by omega,X4 (fun n=>n) []⟩
   (try simp only[BN]at h4);rw[hnone fun j hj=>hJ j (by omega)];refine(Xf ?_);refine X2 ?_;exact Xe
 rw[List.any_eq];cases h:l.findIdx? p with
 | none=>
   rw[List.findIdx?_eq_none_iff]at h;simp only[decide_eq_true_eq];constructor
   · intro h;omega
   rintro⟨v,hv,hpv⟩;have:=h v hv;rw[hpv]at this;cases this
 | some i=>
   rw[List.findIdx?_eq_some_iff_getElem]at h;obtain⟨hi,hpi,_⟩:=h;simp only[decide_eq_true_eq];exact⟨fun _=>⟨l[i],List.getElem_mem _,hpi⟩,fun _=>by omega⟩
theorem conQ_con (l:List (List Int)) (g:FuncId) (p:List Int→Bool) (hl:l.length≤1000000000) (hp:∀v∈l,∀d,Con Tryz.prog g true [lI v] (.v (lb (p v))) none d) (d:Nat):
  Con Tryz.prog 39 true [lQ l,.one (.fn g [])] (.v (lb (l.any p))) none d:=by
 obtain⟨r,hr,hi⟩:=idxQ_con l g p hl hp 0;have hd:decide (0≤r)=l.any p:=by rw[Bool.eq_iff_iff,decide_eq_true_eq];exact hi
 clear hi hp;refine X5 Tryz.func39 ?_;simp only[Tryz.f39];refine X2 ?_;refine Xh [⟨true,.v (li r),none⟩] ?_ ?_
 · first|exact hr _|exact trivial|simpa[*]using hr _
 exact Xe
theorem long_con (l:List Int) (d:Nat):Con Tryz.prog 40 true [lI l] (.v (lb (decide ((40:Int)<l.length)))) none d:=by
 refine X5 Tryz.func40 ?_;simp only[Tryz.f40];refine X2 ?_;refine X2 ?_;exact Xe
def fitQ (f:Fl) (qs:List (List Int)):Bool:= !(qs.any fun l=>decide ((40:Int)<l.length))&&(X1l f 70 300&&(decide (Qf f≠0)||(fitB f 4096 4096 256&&decide ((szL f.body:Int)≤24))))
theorem few_sm {f:Fl} (h:X1l f 70 300=true):Sm f:=by
 obtain⟨h1,h2,h3,h4⟩:=X7A (nodes:=300) (by decide) h;exact⟨by omega,by omega,by omega,h4⟩
end Go.Proofs.YtppjennamodfdaaGreat

namespace Go.Proofs.YtppjennamodfdaaGreat
open Go Go.Hl
set_option maxHeartbeats 8000000 in
theorem fit_con (f:Fl) (qs:List (List Int)) (hq:qs.length≤1000000) (d:Nat):Con Tryz.prog 11 true [aF f,lQ qs] (.v (lb (fitQ f qs))) none d:=by
 have cl:=conQ_con qs 40 (fun l=>decide ((40:Int)<l.length)) (by omega) (fun l _ d=>long_con l d);have cf:=Xbv f 70 300 (by decide) (by decide);have hin:=fun h:X1l f 70 300=true=>X7A (nodes:=300) (by decide) h;have hcc:=fun h:X1l f 70 300=true=>X2F f (by have:=(hin h).1;omega) (by have:=(hin h).2.1;omega) (by have:=(hin h).2.2.1;omega) (hin h).2.2.2;have cft:=Xcm f 4096 4096 256;have hsz:=fun h:X1l f 70 300=true=>QO f.body (by have:=(hin h).2.2.1;omega);obtain⟨res,hres⟩:∃r,fitQ f qs=r:=⟨_,rfl⟩;rw[hres];unfold fitQ at hres;obtain⟨A,hA⟩:∃x,(qs.any fun l=>decide ((40:Int)<l.length))=x:=⟨_,rfl⟩;obtain⟨FW,hFW⟩:∃x,X1l f 70 300=x:=⟨_,rfl⟩;obtain⟨K,hK⟩:∃x,Qf f=x:=⟨_,rfl⟩;obtain⟨FT,hFT⟩:∃x,fitB f 4096 4096 256=x:=⟨_,rfl⟩;obtain⟨Z,hZ⟩:∃x,(szL f.body:Int)=x:=⟨_,rfl⟩;rw[hA]at cl hres;rw[hFW]at cf hcc hsz hres;rw[hK]at hcc hres;rw[hFT]at cft hres;rw[hZ]at hsz hres;clear hin hA hFW hK hFT hZ;obtain⟨vars,hats,body⟩:=f;simp only[aF,Fl.enc,List.map_cons,List.map_nil]at cf hcc cft hsz⊢;refine X5 Tryz.func11 ?_;simp only[Tryz.f11];refine X2 ?_;refine X0<|X0<|(Xm [⟨true,.v (lb A),none⟩] ?_ ?_)
 · first|exact cl _|exact trivial|simpa[*]using cl _
 refine(Xc rfl (fun h2=>?_) fun h2=>?_)
 · (try simp only[BN]at h2);have hAt:A=true:=by simpa using h2
   subst hAt;simp only[Bool.not_true,Bool.false_and]at hres;subst hres;clear h2;refine X2 ?_;exact Xe
 (try simp only[BN]at h2);have hAt:A=false:=by simpa using h2
 subst hAt;simp only[Bool.not_false,Bool.true_and]at hres;clear h2 cl;rcases FW with _|_
 · clear hcc hsz cft;subst hres;refine X0<|(XP ?_);refine RunsN.cutE 3 [⟨true,.v (lb false),none⟩] (by simp[*];first|exact⟨rfl,Iff.rfl⟩|exact⟨rfl,trivial⟩|rfl) (by first|exact cf _|simpa using cf _) (le_refl _) ?_;refine RunsN.skip (.bool false) (by simp[QH]) (by rfl) ?_;refine RunsN.skip (.bool false) (by simp[QH]) (by rfl) ?_;refine RunsN.skip (.bool false) (by simp[QH]) (by rfl) ?_;refine RunsN.skip (.bool false) (by simp[QH]) (by rfl) ?_;refine RunsN.skip (.bool false) (by simp[QH]) (by rfl) ?_;refine RunsN.skip (.bool false) (by simp[QH]) (by rfl) ?_;refine RunsN.skip (.bool false) (by simp[QH]) (by rfl) ?_;refine RunsN.skip (.bool false) (by simp[QH]) (by rfl) ?_;refine RunsN.skip (.bool false) (by simp[QH]) (by rfl) ?_;refine RunsN.skip (.bool false) (by simp[QH]) (by rfl) ?_;refine RunsN.skip (.bool false) (by simp[QH]) (by rfl) ?_;refine RunsN.skip (.bool false) (by simp[QH]) (by rfl) ?_;refine RunsN.skip (.bool false) (by simp[QH]) (by rfl) ?_;refine RunsN.doneE [] (by simp[*];rfl) trivial ?_;exact Xe
 have hcc:=hcc rfl;have hsz:=hsz rfl;simp only[Bool.true_and]at hres;rcases Classical.em (K=0)with hz|hz
 · subst hz;simp only[ne_eq,not_true_eq_false,decide_false,Bool.false_or]at hres;rcases FT with _|_
   · simp only[Bool.false_and]at hres;subst hres;refine X0<|(X00 [some ⟨true,.v (lb true),none⟩,some ⟨true,.v (li 0),none⟩,some ⟨true,.v (lb false),none⟩,none] (by simp[*];first|exact⟨rfl,Iff.rfl⟩|exact⟨rfl,trivial⟩|rfl) ?_ ?_)
     · first|exact trivial|exact⟨cf _,hcc _,cft _⟩|simpa using⟨cf _,hcc _,cft _⟩
     exact Xe
   simp only[Bool.true_and]at hres;refine X0<|(X00 [some ⟨true,.v (lb true),none⟩,some ⟨true,.v (li 0),none⟩,some ⟨true,.v (lb true),none⟩,some ⟨true,.v (li Z),none⟩] (by simp[*];first|exact⟨rfl,Iff.rfl⟩|exact⟨rfl,trivial⟩|rfl) ?_ ?_)
   · first|exact trivial|exact⟨cf _,hcc _,cft _,hsz _⟩|simpa using⟨cf _,hcc _,cft _,hsz _⟩
   exact Xe
 simp only[ne_eq,hz,not_false_eq_true,decide_true,Bool.true_or]at hres;subst hres;refine X0<|(XP ?_);refine RunsN.cutE 7 [⟨true,.v (lb true),none⟩,⟨true,.v (li K),none⟩] (by simp[*];first|exact⟨rfl,Iff.rfl⟩|exact⟨rfl,trivial⟩|rfl) (by first|exact⟨cf _,hcc _⟩|simpa using⟨cf _,hcc _⟩) (le_refl _) ?_;refine RunsN.skip (.bool false) (by simp[QH]) (by rfl) ?_;refine RunsN.skip (.bool false) (by simp[QH]) (by rfl) ?_;refine RunsN.skip (.bool false) (by simp[QH]) (by rfl) ?_;refine RunsN.skip (.bool false) (by simp[QH]) (by rfl) ?_;refine RunsN.skip (.bool false) (by simp[QH]) (by rfl) ?_;refine RunsN.skip (.bool false) (by simp[QH]) (by rfl) ?_;refine RunsN.skip (.bool false) (by simp[QH]) (by rfl) ?_;refine RunsN.skip (.bool false) (by simp[QH]) (by rfl) ?_;refine RunsN.doneE [] (by simp[*];rfl) trivial ?_;exact Xe
end Go.Proofs.YtppjennamodfdaaGreat

namespace Go.Proofs.YtppjennamodfdaaGreat
open Go Go.Hl
theorem Cl.pre {R:List (List Nat)} {d x k:Nat} (hx:x∈R[d]?.getD []) (h:Cl R [x] k):Cl R [d] k:=by
 induction h with
 |base h=>rw[List.mem_singleton.1 h];exact .step (.base (by simp)) hx
 |step _ h ih=>exact .step ih h
theorem Cl.rev {D R:List (List Nat)} (hr:∀x y:Nat,y∈R[x]?.getD []↔x∈D[y]?.getD []) {k d:Nat} (h:Cl D [k] d):Cl R [d] k:=by
 induction h with
 |base h=>rw[List.mem_singleton.1 h];exact .base (by simp)
 |step _ h ih=>exact Cl.pre ((hr _ _).2 h) ih
theorem X3j (n:Nat) (t:List Nat) (d:Nat):d∈X40 n t↔d<n∧d∈t:=by simp[X40]
theorem bw_mem {f:Fl} (h:Sm f) {q:List Int} (hq:∀d∈QT q,d<(Q3 f).length) (d:Nat):d∈bwL f q↔Cl (Q3 f) (QT q) d:=by
 obtain⟨h1,h2⟩:=WJ (X44 h) hq;rw[bwL,X3j,←h2];exact⟨fun h=>h.2,fun h=>⟨h1.lt d h,h⟩⟩
theorem fw_mem {f:Fl} (h:Sm f) {q:List Int} (hq:∀d∈QT q,d<(Q3 f).length) (d:Nat):d∈fwL f q↔Cl (X0R (Q3 f)) (QT q) d:=by
 have hl:(Q3 f).length≤1000:=by rw[QL];exact(WP h).hn
 obtain⟨h1,h2⟩:=WJ (X8a hl (Za h)) (l0:=QT q) (by rw[X0J];exact hq);rw[fwL,X3j,←h2];exact⟨fun h=>h.2,fun h=>⟨by have:=h1.lt d h;rwa [X0J]at this,h⟩⟩
theorem dual {f:Fl} (h:Sm f) {i k:Nat} (hi:i<szL f.body) (hk:k<szL f.body):(i∈bwL f [(k:Int)]↔k∈fwL f [(i:Int)])∧k∈bwL f [(k:Int)]∧i∈fwL f [(i:Int)]:=by
 have hn:(Q3 f).length=szL f.body:=by rw[QL,XT]
 have e:∀j:Nat,QT [(j:Int)]=[j]:=fun j=>by simp[QT]
 have hb:∀j:Nat,j<szL f.body→∀d∈QT [(j:Int)],d<(Q3 f).length:=fun j hj d hd=>by
  rw[e,List.mem_singleton]at hd;omega
 have hr:∀x y:Nat,y∈(X0R (Q3 f))[x]?.getD []↔x∈(Q3 f)[y]?.getD []:=fun x y=>X6f (fun l hl=>(Za h l hl).2) x y;rw[bw_mem h (hb k hk),bw_mem h (hb k hk),fw_mem h (hb i hi),fw_mem h (hb i hi),e,e];exact⟨⟨Cl.rev hr,Cl.rev fun x y=>(hr y x).symm⟩,.base (by simp),.base (by simp)⟩
end Go.Proofs.YtppjennamodfdaaGreat

namespace Go.Proofs.YtppjennamodfdaaGreat
open Go Go.Hl
theorem X9b (l:List Nat) (i:Nat):decide ((i:Int)∈l.map Int.ofNat)=decide (i∈l):=by
 rw[Bool.eq_iff_iff];simp only[decide_eq_true_eq,List.mem_map];constructor
 · rintro⟨a,h1,h2⟩;have:a=i:=Int.ofNat.inj h2;exact this▸h1
 intro h;exact⟨i,h,rfl⟩
theorem hasD_con (l:List Nat) (i:Nat) (hl:l.length≤1000000) (d:Nat):Con Tryz.prog 18 true [.one (.c (.sl 1 (XB l))),li i] (.v (lb (decide (i∈l)))) none d:=by
 have:=X55 (l.map Int.ofNat) i (by simp only[List.length_map];omega) d;rw[X9b,show lI (l.map Int.ofNat)=.one (.c (.sl 1 (XB l))) by rw[X2N]]at this;exact this
end Go.Proofs.YtppjennamodfdaaGreat

namespace Go.Proofs.YtppjennamodfdaaGreat
open Go Go.Hl
def toI (l:List Nat):List Int:=l.map Int.ofNat
theorem X64 (l:List Nat):XB l=Xi (toI l):=X2N l
theorem toI_len (l:List Nat):(toI l).length=l.length:=by simp[toI]
noncomputable def slF (n:Nat) (L:List (List Nat)) (q:List Int):List Nat:=X40 n (ZJ L (QT q))
theorem bwL_sl (f:Fl) (q:List Int):bwL f q=slF (Q3 f).length (Q3 f) q:=rfl
theorem fwL_sl (f:Fl) (q:List Int):fwL f q=slF (Q3 f).length (X0R (Q3 f)) q:=rfl
structure Lk (n:Nat) (L:List (List Nat)):Prop where
 ok:okLk L
 len:L.length=n
theorem lk_fw {f:Fl} (h:Sm f):Lk (Q3 f).length (X0R (Q3 f)):=by
 have hl:(Q3 f).length≤1000:=by rw[QL];exact(WP h).hn
 exact⟨X8a hl (Za h),by rw[X0J]⟩
variable {n:Nat} {L:List (List Nat)}
def okQ (n:Nat) (q:List Int):Prop:=∀x∈q,0≤x∧x<n
theorem okQ.nat {q:List Int} (h:okQ n q):∀d∈QT q,d<n:=by
 intro d hd;obtain⟨x,hx,rfl⟩:=List.mem_map.1 hd;have:=h x hx;omega
theorem okQ.app {p q:List Int} (h:okQ n p) (h2:okQ n q):okQ n (p++q):=fun x hx=>(List.mem_append.1 hx).elim (h x) (h2 x)
theorem Cl.mono {l m:List Nat} (h:∀d∈l,Cl L m d) {d:Nat} (hd:Cl L l d):Cl L m d:=by
 induction hd with
 |base h1=>exact h _ h1
 |step _ h2 ih=>exact .step ih h2
theorem ask_ok {f:Fl} (h0:Qf f=0) {q:List Int} (hq:okQ (szL f.body) q):Wk f [q]=0:=by
 have:X4U (flL f.body).length [q]=true:=by
  simp only[X4U,inB,XT,List.all_cons,List.all_nil,Bool.and_true,List.all_eq_true,decide_eq_true_eq];exact hq
 rw[Wk,if_pos h0,if_pos this]
end Go.Proofs.YtppjennamodfdaaGreat

namespace Go.Proofs.YtppjennamodfdaaGreat
open Go Go.Hl
section
variable {N:List Nd} {steps:List St} {vars:List Vr} {nh:Nat} {hv:List Int} {K:Nat→Bool} {ar:List Int} {kO:Nat→Bool}
def upK (ar:List Int) (K:Nat→Bool):Prop:=∀(j:Nat) a,ar[j]? =some a→0≤a→K j=true→K a.toNat=true
structure Slc (N:List Nd) (steps:List St) (nv:Nat) (ar:List Int) (K:Nat→Bool):Prop where
 src:∀(o:Nat) q,K o=true→steps[o]? =some q→∀(k:Nat) (x:Nd),N[k]? =some x→x.k≠4→x.a=(o:Int)→∀d,Rc N steps nv k d→QF steps d∈tmV q.term→d<steps.length→K d=true
 up:upK ar K
end
end Go.Proofs.YtppjennamodfdaaGreat

namespace Go.Proofs.YtppjennamodfdaaGreat
open Go Go.Hl
theorem idxI_con (l:List Int) (g:FuncId) (cap:List CD) (p:Int→Bool) (hl:l.length≤1000000000) (hp:∀v∈l,∀d,Con Tryz.prog g true (li v::cap.map fun c=>.one (.c c)) (.v (lb (p v))) none d) (d:Nat):
  Con Tryz.prog 56 true [lI l,.one (.c (.fn g cap))] (.v (li (match l.findIdx? p with|some i=>(i:Int)|none=>-1))) none d:=by
 have hstep:∀k:Nat,(∀j:Nat,j<k→∀v,l[j]? =some v→p v=false)→∀v,l[k]? =some v→p v=true→l.findIdx? p=some k:=by
  intro k hno v hv hpv;rw[List.findIdx?_eq_some_iff_getElem];have hk:k<l.length:=(List.getElem?_eq_some_iff.1 hv).1;refine⟨hk,?_,fun j hj=>?_⟩
  · simp only[List.getElem?_eq_getElem hk,Option.some.injEq]at hv;rw[hv];exact hpv
  have:=hno j hj l[j] (by simp);simp[this]
 have hnone:(∀j:Nat,j<l.length→∀v,l[j]? =some v→p v=false)→l.findIdx? p=none:=by
  intro hno;rw[List.findIdx?_eq_none_iff];intro v hv;obtain⟨j,hj⟩:=List.mem_iff_getElem?.1 hv;exact hno j (List.getElem?_eq_some_iff.1 hj).1 v hj
 refine X5 Tryz.func56 ?_;simp only[Tryz.f56];refine X2 ?_;refine X0<|X0<|X1 ?_;refine X3<|(Xb [0,1,7] (fun(x:Nat)=>[(8,.v (li x))]) (fun x=>[]) (fun x=>x≤l.length∧∀j:Nat,j<x→∀v,l[j]? =some v→p v=false) (fun x=>l.length - x) (0:Nat) ⟨Nat.zero_le _,fun j hj=>absurd hj (Nat.not_lt_zero j)⟩ ?_ ?_)
 · exact X4 (fun n=>n) []
 rintro k ⟨hk,hJ⟩;simp only[upS,X6,Xw]
 try simp only[X6,KN,Nat.reduceBEq,if_true,if_false,ins,Nat.reduceLT]
 refine X2 ?_;refine X0<|(X7 rfl (fun h4=>X9 ?_) (fun h4=>?_))
 · (try simp only[BN]at h4);have hlt:k<l.length:=by first|omega|simpa using h4
   obtain⟨v,he,hd⟩:=Xo hlt;have he2:=X23 he;have hw1:=Xy hlt (by omega);have hk1:k+1≤l.length:=hlt;have hpv:=hp v (List.mem_of_getElem? he);have hs:=hstep k hJ v he;clear hlt h4 hstep hnone hp;refine X0<|X3<|X0<|X1 ?_;refine Xh [⟨true,.v (lb (p v)),none⟩] ?_ ?_
   · first|exact hpv _|exact trivial|simpa[*]using hpv _
   refine(Xc rfl (fun h7=>?_) fun h7=>?_)
   · (try simp only[BN]at h7);rw[hs h7];refine X2 ?_;exact Xe
   (try simp only[BN]at h7);refine X1 ?_;exact⟨k+1,⟨hk1,fun j hj w hw=>(Nat.lt_succ_iff_lt_or_eq.1 hj).elim (fun h=>hJ j h w hw) (fun e=>by subst e;rw[he]at hw;cases hw;exact h7)⟩,by omega,X4 (fun n=>n) []⟩
 (try simp only[BN]at h4);rw[hnone fun j hj=>hJ j (by omega)];refine(Xf ?_);refine X2 ?_;exact Xe
theorem Xb5 {α:Type} (l:List α) (p:α→Bool):decide (0≤(match l.findIdx? p with|some i=>(i:Int)|none=>-1))=l.any p:=by
 rw[Bool.eq_iff_iff,decide_eq_true_eq,List.any_eq];cases h:l.findIdx? p with
 | none=>
   rw[List.findIdx?_eq_none_iff]at h;simp only[decide_eq_true_eq];constructor
   · intro h;omega
   rintro⟨v,hv,hpv⟩;have:=h v hv;rw[hpv]at this;cases this
 | some i=>
   rw[List.findIdx?_eq_some_iff_getElem]at h;obtain⟨hi,hpi,_⟩:=h;simp only[decide_eq_true_eq];exact⟨fun _=>⟨l[i],List.getElem_mem _,hpi⟩,fun _=>by omega⟩
theorem X6k (l:List Int) (g:FuncId) (cap:List CD) (p:Int→Bool) (hl:l.length≤1000000000) (hp:∀v∈l,∀d,Con Tryz.prog g true (li v::cap.map fun c=>.one (.c c)) (.v (lb (p v))) none d) (d:Nat):
  Con Tryz.prog 22 true [lI l,.one (.c (.fn g cap))] (.v (lb (l.any p))) none d:=by
 have hr:=idxI_con l g cap p hl hp;have hd:=Xb5 l p;obtain⟨r,hrr⟩:∃x:Int,(match l.findIdx? p with|some i=>(i:Int)|none=>-1)=x:=⟨_,rfl⟩;rw[hrr]at hr hd;clear hp hrr;refine X5 Tryz.func22 ?_;simp only[Tryz.f22];refine X2 ?_;refine Xh [⟨true,.v (li r),none⟩] ?_ ?_
 · first|exact hr _|exact trivial|simpa[*]using hr _
 exact Xe
theorem out_con (x n:Int) (d:Nat):Con Tryz.prog 48 true [li x,.one (.c (.ptr [iC n]))] (.v (lb (decide (x<0)||decide (n≤x)))) none d:=by
 refine X5 Tryz.func48 ?_;simp only[Tryz.f48];refine X2 ?_;refine X2 ?_;exact Xe
set_option maxHeartbeats 8000000 in
theorem X4G (f:Fl) (h:Sm f) (qs:List (List Int)) (hq:qs.length≤100) (hql:∀q∈qs,q.length≤1000000) (d:Nat):Con Tryz.prog 15 true [aF f,lQ qs] (.v (li (Wk f qs))) none d:=by
 have cc:=X2F f (by have:=h.vars;omega) (by have:=h.hats;omega) (by have:=h.nodes;omega) h.bnd;have cs:=QO f.body (by have:=h.nodes;omega);have hsl:szL f.body≤1000:=by have:=h.nodes;have:=Qu f.body;omega
 obtain⟨K,hK⟩:∃x,Qf f=x:=⟨_,rfl⟩;obtain⟨n,hn⟩:∃x,szL f.body=x:=⟨_,rfl⟩;obtain⟨res,hres⟩:∃x,Wk f qs=x:=⟨_,rfl⟩;rw[hres];unfold Wk at hres;rw[XT]at hres;rw[hK]at cc hres;rw[hn]at cs hres hsl;have ci:=fun q (hq:q∈qs)=>X6k q 48 [.ptr [iC n]] (fun x=>decide (x<0)||decide ((n:Int)≤x)) (by have:=hql q hq;omega) (fun x _ d=>out_con x n d)
 have hbad:∀q∈qs,q.any (fun x=>decide (x<0)||decide ((n:Int)≤x))=true→X4U n qs=false:=by
  intro q hq hx;obtain⟨x,hx1,hx2⟩:=List.any_eq_true.1 hx;simp only[Bool.or_eq_true,decide_eq_true_eq]at hx2;exact X9u hq hx1 (by omega)
 have hgood:∀qs:List (List Int),(∀q∈qs,q.any (fun x=>decide (x<0)||decide ((n:Int)≤x))=false)→X4U n qs=true:=by
  intro qs h;unfold X4U;rw[List.all_eq_true];intro q hq;unfold inB;rw[List.all_eq_true];intro x hx;have:=(List.any_eq_false.1 (h q hq)) x hx;simp only[Bool.or_eq_true,decide_eq_true_eq,not_or]at this⊢;omega
 have hgood:=hgood qs;clear hK hn h;obtain⟨vars,hats,body⟩:=f;simp only[aF,Fl.enc,List.map_cons,List.map_nil]at cc cs⊢;refine X5 Tryz.func15 ?_;simp only[Tryz.f15];refine X2 ?_;refine X0<|X0<|(Xm [⟨true,.v (li K),none⟩] ?_ ?_)
 · first|exact cc _|exact trivial|simpa[*]using cc _
 refine X2 ?_;refine(Xc rfl (fun h3=>?_) fun h3=>?_)
 · (try simp only[BN]at h3);have hne:¬K=0:=by simpa using h3
   rw[if_neg hne]at hres;subst hres;clear h3;refine X2 ?_;exact Xe
 (try simp only[BN]at h3);have hz:K=0:=by simpa using h3
 rw[if_pos hz]at hres;clear h3 cc;refine Xh [⟨true,.v (li n),none⟩] ?_ ?_
 · first|exact cs _|exact trivial|simpa[*]using cs _
 refine X0<|X0<|X1 ?_;refine X3<|(Xb [6,17,18] (fun(k:Nat)=>[(19,.v (li k))]) (fun k=>[(6,.box [.c (iC n)])]) (fun k=>k≤qs.length∧∀j:Nat,j<k→∀q,qs[j]? =some q→q.any (fun x=>decide (x<0)||decide ((n:Int)≤x))=false) (fun k=>qs.length - k) (0:Nat) ⟨Nat.zero_le _,fun j hj=>absurd hj (Nat.not_lt_zero j)⟩ ?_ ?_)
 · exact X4 (fun n=>n) []
 rintro k ⟨hk,hJ⟩;simp only[upS,X6,Xw]
 try simp only[X6,KN,Nat.reduceBEq,if_true,if_false,ins,Nat.reduceLT]
 refine X2 ?_;refine X0<|(X7 rfl (fun h10=>X9 ?_) (fun h10=>?_))
 · (try simp only[BN]at h10);have hlt:k<qs.length:=by first|omega|simpa using h10
   obtain⟨q,he,hd⟩:=Xo hlt;have he2:=X5Q he;have hw1:=Xy hlt (by omega);have hk1:k+1≤qs.length:=hlt;have cq:=ci q (List.mem_of_getElem? he);have hb:=hbad q (List.mem_of_getElem? he);obtain⟨G,hG⟩:∃x,q.any (fun x=>decide (x<0)||decide ((n:Int)≤x))=x:=⟨_,rfl⟩;rw[hG]at cq hb;clear hlt h10 hgood hbad ci hd;refine X0<|X3<|X0<|X1 ?_;refine Xh [⟨true,.v (lb G),none⟩] ?_ ?_
   · first|exact cq _|exact trivial|simpa[*]using cq _
   refine(Xc rfl (fun h13=>?_) fun h13=>?_)
   · (try simp only[BN]at h13);have hGt:G=true:=by simpa using h13
     rw[if_neg (by rw[hb hGt];simp)]at hres;subst hres;refine X2 ?_;exact Xe
   (try simp only[BN]at h13);have hGf:G=false:=by simpa using h13
   refine X1 ?_;exact⟨k+1,⟨hk1,fun j hj w hw=>(Nat.lt_succ_iff_lt_or_eq.1 hj).elim (fun h=>hJ j h w hw) (fun e=>by subst e;rw[he]at hw;cases hw;rw[hG,hGf])⟩,by omega,X4 (fun n=>n) []⟩
 (try simp only[BN]at h10);have hkl:k=qs.length:=by first|omega|(have:¬k<qs.length:=by simpa using h10;omega)
 subst hkl
 have hg:=hgood fun q hq=>by
  obtain⟨j,hj⟩:=List.mem_iff_getElem?.1 hq;exact hJ j (List.getElem?_eq_some_iff.1 hj).1 q hj
 rw[if_pos hg]at hres;subst hres;refine(Xf ?_);refine X2 ?_;exact Xe
end Go.Proofs.YtppjennamodfdaaGreat

namespace Go.Proofs.YtppjennamodfdaaGreat
open Go Go.Hl
end Go.Proofs.YtppjennamodfdaaGreat

namespace Go.Proofs.YtppjennamodfdaaGreat
open Go Go.Hl
theorem X5m {f:Fl} {qs:List (List Int)} (h:fitQ f qs=true):X1l f 70 300=true∧∀q∈qs,q.length≤40:=by
 unfold fitQ at h;simp only[Bool.and_eq_true,Bool.not_eq_true',List.any_eq_false,decide_eq_true_eq]at h;refine⟨h.2.1,fun q hq=>?_⟩;have:=h.1 q hq;omega
end Go.Proofs.YtppjennamodfdaaGreat

namespace Go.Proofs.YtppjennamodfdaaGreat
open Go Go.Hl
theorem Xcg {f:Fl} (h:Sm f) (h0:Qf f=0):Lies (grN f.body) (flL f.body) f.vars f.hats.length f.body 0 1 (1+wdL f.body) where
 g:=X8t f.body true (Wz h0).2.2.2.1
 wf:=(Xbd h.bnd h0).1
 nd:=by
  have:Sub (grN f.body) 0 (grN f.body):=Sub.of_self _;exact(Sub.cons this).2.app.1
 st:=Sub.of_self _
theorem dir_mem {f:Fl} {o d:Nat} {q:St} {a:Int} {r:List Nat} (h1:(flL f.body)[o]? =some q) (h2:(arL f.body (-1) 0)[o]? =some a) (h3:(rdT f)[o]? =some r):
  d∈(Q3 f)[o]?.getD []↔(0≤a∧d=a.toNat)∨(d<(flL f.body).length∧d∈r∧QF (flL f.body) d∈tmV q.term):=by
 have ho:=(List.getElem?_eq_some_iff.1 h1).1
 have:(Q3 f)[o]?.getD []=(if 0≤a then [a.toNat] else [])++(X2t (flL f.body) q r).filter fun d=>decide (d<(flL f.body).length):=by
  unfold Q3 X2G;rw[List.getElem?_map,List.getElem?_range ho];simp only[Option.map_some,Option.getD_some,X6S,h1,h2,h3]
 rw[this,List.mem_append,List.mem_filter,X2t,List.mem_filter,Xai];simp only[decide_eq_true_eq,X2a,List.not_mem_nil,false_or];constructor
 · rintro(h|⟨⟨h4,h5⟩,h6⟩)
   · split at h
     · rename_i h0;exact .inl ⟨h0,List.mem_singleton.1 h⟩
     cases h
   exact .inr ⟨h6,h4,h5⟩
 rintro(⟨h0,h4⟩|⟨h6,h4,h5⟩)
 · rw[if_pos h0];exact .inl (List.mem_singleton.2 h4)
 exact .inr ⟨⟨h4,h5⟩,h6⟩
end Go.Proofs.YtppjennamodfdaaGreat

namespace Go.Proofs.YtppjennamodfdaaGreat
open Go Go.Hl
theorem Xbs:∀l:List St,∀i:Int,0≤i→X1o l i=(flL l)[i.toNat]? :=by
 apply St.lind
 · intro i _;rw[X3b];simp[flL]
 intro d c v n t a b bs l ia ib il i hi;rw[X0T];simp only[flL,flS,List.cons_append,List.append_assoc];split
 · rename_i h0;subst h0;simp
 rename_i h0;have e1:i.toNat=(i - 1).toNat+1:=by omega
 rw[e1,List.getElem?_cons_succ];by_cases h1:i - 1<szL a
 · rw[ia (i - 1) (by omega),List.getElem?_append_left (by rw[XT];omega)];have hl:(i - 1).toNat<(flL a).length:=by rw[XT];omega
   rw[List.getElem?_eq_getElem hl]
 rw[X0Z a _ (by omega)];simp only;rw[List.getElem?_append_right (by rw[XT];omega),XT];have e2:(i - 1).toNat - szL a=(i - 1 - szL a).toNat:=by omega
 rw[e2];by_cases h2:i - 1 - szL a<szL b
 · rw[ib (i - 1 - szL a) (by omega),List.getElem?_append_left (by rw[XT];omega)];have hl:(i - 1 - szL a).toNat<(flL b).length:=by rw[XT];omega
   rw[List.getElem?_eq_getElem hl]
 rw[X0Z b _ (by omega)];simp only;rw[List.getElem?_append_right (by rw[XT];omega),XT];have e3:(i - 1 - szL a).toNat - szL b=(i - 1 - szL a - szL b).toNat:=by omega
 rw[e3,il _ (by omega)]
set_option maxHeartbeats 8000000 in
theorem X9B (f:Fl) (hb:Xj f.body≤1000000) (d:Nat):Con Tryz.prog 57 false [aF f] (.v (lS (flL f.body))) none d:=by
 have cs:=QO f.body (by omega);have cf:=X72 f.body hb;have hnl:=Qu f.body;have hfl:=XT f.body;have hfn:∀(k:Nat) q,(flL f.body)[k]? =some q→X1o f.body k=some q:=fun k q h=>by rw[Xbs _ _ (by omega),Int.toNat_natCast,h]
 obtain⟨vars,hats,body⟩:=f;simp only at cs cf hnl hfl hfn hb⊢;obtain⟨n,hn⟩:∃x,szL body=x:=⟨_,rfl⟩;rw[hn]at cs hnl hfl;obtain⟨L,hL⟩:∃x,flL body=x:=⟨_,rfl⟩;rw[hL]at hfl hfn⊢;clear hn hL;simp only[aF,Fl.enc,List.map_cons,List.map_nil];refine X5 Tryz.func57 ?_;simp only[Tryz.f57];refine X2 ?_;refine X2 ?_;refine X0<|X0<|(Xm [⟨true,.v (li n),none⟩] ?_ ?_)
 · first|exact cs _|exact trivial|simpa[*]using cs _
 refine X3<|(Xb [1,9] (fun(k:Nat)=>[(3,.v (.one (.own 1003))),(10,.v (li k))]) (fun k=>[(1,.box [.c (.sl 5 (Xr vars)),.c (.sl 6 (Xs hats)),.c (.sl 10 (X8 body))]),(1003,.row 76 10 (X8 (L.take k)))]) (fun k=>k≤n) (fun k=>n - k) (0:Nat) (Nat.zero_le _) ?_ ?_)
 · exact X4 (fun n=>n) [1003]
 rintro k hk;simp only[upS,X6,Xw]
 try simp only[X6,KN,Nat.reduceBEq,if_true,if_false,ins,Nat.reduceLT]
 refine X2 ?_;refine X0<|(X7 rfl (fun h5=>X9 ?_) (fun h5=>?_))
 · (try simp only[BN]at h5);have hlt:k<n:=by first|omega|simpa using h5
   obtain⟨q,he,hd⟩:=Xo (show k<L.length by omega);have hw1:IntKind.i64.wrap ((k:Int)+1)=(k:Int)+1:=Xa (by omega) (by omega);have hk1:k+1≤n:=hlt;have cfk:=cf k q (by omega) (by omega) (hfn k q he);have htk:=X73 he;have hroom:Q9 (k+1) 144:=Xv (by omega) (by decide);have hel:(X8 (L.take k)).length=k:=by rw[X4d,List.length_take];omega
   have hml:min k L.length=k:=by omega
   obtain⟨so,sc,sv,sn,⟨to,tn,tk⟩,sa,sb,sbs⟩:=q;simp only[aS,St.enc,Tm.enc,List.cons_append,List.nil_append,List.map_cons,List.map_nil]at cfk htk;clear hlt h5 hd cf hfn he;refine X0<|X3<|X0<|X1 ?_;refine Xh [⟨false,.tup [.agg [.c (iC so),.c (iC sc),.c (iC sv),.c (iC sn),.c (iC to),.c (iC tn),.c (.sl 3 (Xn tk)),.c (.sl 10 (X8 sa)),.c (.sl 10 (X8 sb)),.c (.sl 1 (Xi sbs))],lb true],none⟩] ?_ ?_
   · first|exact cfk _|exact trivial|simpa[*]using cfk _
   refine X1 ?_;refine X1 ?_;exact⟨k+1,hk1,by omega,X4 (fun n=>if n=1003 then 23 else n) []⟩
 (try simp only[BN]at h5);have hkl:k=n:=by first|omega|(have:¬k<n:=by simpa using h5;omega)
 have hte:L.take k=L:=List.take_of_length_le (by omega);rw[hte];clear h5;refine(Xf ?_);refine X2 ?_;exact XR ⟨.inr rfl,_,XO 1003 rfl,⟨⟨_,by simp;rfl,by simp[XK]⟩,by simp,fun h=>by cases h⟩⟩
end Go.Proofs.YtppjennamodfdaaGreat

namespace Go.Proofs.YtppjennamodfdaaGreat
open Go Go.Hl
mutual
def rvB (v:Int):Tm→Bool
 | .mk o n ks=>if o=24 then decide (n=v)else rvBs v ks
def rvBs (v:Int):List Tm→Bool
 |[]=>false
 |t::l=>rvB v t||rvBs v l
end
theorem X8f (v:Int):∀l:List Tm,l.any (rvB v)=rvBs v l
 |[]=>by simp[rvBs]
 |t::l=>by simp[rvBs,X8f v l]
mutual
theorem Xbc {vars:List Vr} {inp:Bool} (v:Int):∀t:Tm,W3 vars inp t=true→(rvB v t=true↔v∈tmV t)
 | .mk o n ks,h=>by
   simp only[W3,Bool.and_eq_true]at h;simp only[rvB,tmV];by_cases h24:o=24
   · subst h24;have h1:=h.1;unfold Qh at h1;simp only[Bool.and_eq_true,Bool.not_eq_true',decide_eq_false_iff_not]at h1
     have hk:ks=[]:=by
      have:=h1.1.2.2;have e:(Qm 24).2=0:=by decide
      rw[e]at this;exact List.eq_nil_of_length_eq_zero (by omega)
     subst hk;simp[X5Y,eq_comm]
   rw[if_neg h24,if_neg h24,List.nil_append];exact X9k v ks h.2
theorem X9k {vars:List Vr} {inp:Bool} (v:Int):∀l:List Tm,Zk vars inp l=true→(rvBs v l=true↔v∈X5Y l)
 |[],_=>by simp[rvBs,X5Y]
 | t::l,h=>by
   simp only[Zk,Bool.and_eq_true]at h;simp only[rvBs,X5Y,Bool.or_eq_true,List.mem_append];rw[Xbc v t h.1,X9k v l h.2]
end
theorem idxT_con (l:List Tm) (g:FuncId) (cap:List CD) (p:Tm→Bool) (hl:l.length≤1000000000) (hp:∀v∈l,∀d,Con Tryz.prog g true (aT v::cap.map fun c=>.one (.c c)) (.v (lb (p v))) none d) (d:Nat):
  Con Tryz.prog 127 true [.one (.c (.sl 3 (Xn l))),.one (.c (.fn g cap))] (.v (li (match l.findIdx? p with|some i=>(i:Int)|none=>-1))) none d:=by
 have hstep:∀k:Nat,(∀j:Nat,j<k→∀v,l[j]? =some v→p v=false)→∀v,l[k]? =some v→p v=true→l.findIdx? p=some k:=by
  intro k hno v hv hpv;rw[List.findIdx?_eq_some_iff_getElem];have hk:k<l.length:=(List.getElem?_eq_some_iff.1 hv).1;refine⟨hk,?_,fun j hj=>?_⟩
  · simp only[List.getElem?_eq_getElem hk,Option.some.injEq]at hv;rw[hv];exact hpv
  have:=hno j hj l[j] (by simp);simp[this]
 have hnone:(∀j:Nat,j<l.length→∀v,l[j]? =some v→p v=false)→l.findIdx? p=none:=by
  intro hno;rw[List.findIdx?_eq_none_iff];intro v hv;obtain⟨j,hj⟩:=List.mem_iff_getElem?.1 hv;exact hno j (List.getElem?_eq_some_iff.1 hj).1 v hj
 refine X5 Tryz.func127 ?_;simp only[Tryz.f127];refine X2 ?_;refine X0<|X0<|X1 ?_;refine X3<|(Xb [0,1,7] (fun(x:Nat)=>[(8,.v (li x))]) (fun x=>[]) (fun x=>x≤l.length∧∀j:Nat,j<x→∀v,l[j]? =some v→p v=false) (fun x=>l.length - x) (0:Nat) ⟨Nat.zero_le _,fun j hj=>absurd hj (Nat.not_lt_zero j)⟩ ?_ ?_)
 · exact X4 (fun n=>n) []
 rintro k ⟨hk,hJ⟩;simp only[upS,X6,Xw]
 try simp only[X6,KN,Nat.reduceBEq,if_true,if_false,ins,Nat.reduceLT]
 refine X2 ?_;refine X0<|(X7 rfl (fun h4=>X9 ?_) (fun h4=>?_))
 · (try simp only[BN]at h4);have hlt:k<l.length:=by first|omega|simpa using h4
   obtain⟨⟨o,tn,ks⟩,he,hd⟩:=Xo hlt;have hw1:=Xy hlt (by omega);have hk1:k+1≤l.length:=hlt;have hpv:=hp _ (List.mem_of_getElem? he);have hs:=hstep k hJ _ he;have he':=Wn he;simp only[Tm.enc]at he';clear hlt h4 hstep hnone hp;refine X0<|X3<|X0<|X1 ?_;refine Xh [⟨true,.v (lb (p (.mk o tn ks))),none⟩] ?_ ?_
   · first|exact hpv _|exact trivial|simpa[*]using hpv _
   refine(Xc rfl (fun h7=>?_) fun h7=>?_)
   · (try simp only[BN]at h7);rw[hs h7];refine X2 ?_;exact Xe
   (try simp only[BN]at h7);refine X1 ?_;exact⟨k+1,⟨hk1,fun j hj w hw=>(Nat.lt_succ_iff_lt_or_eq.1 hj).elim (fun h=>hJ j h w hw) (fun e=>by subst e;rw[he]at hw;cases hw;exact h7)⟩,by omega,X4 (fun n=>n) []⟩
 (try simp only[BN]at h4);rw[hnone fun j hj=>hJ j (by omega)];refine(Xf ?_);refine X2 ?_;exact Xe
theorem conT_con (l:List Tm) (g:FuncId) (cap:List CD) (p:Tm→Bool) (hl:l.length≤1000000000) (hp:∀v∈l,∀d,Con Tryz.prog g true (aT v::cap.map fun c=>.one (.c c)) (.v (lb (p v))) none d) (d:Nat):
  Con Tryz.prog 88 true [.one (.c (.sl 3 (Xn l))),.one (.c (.fn g cap))] (.v (lb (l.any p))) none d:=by
 have hr:=idxT_con l g cap p hl hp;have hd:decide (0≤(match l.findIdx? p with|some i=>(i:Int)|none=>-1))=l.any p:=Xb5 l p;obtain⟨r,hrr⟩:∃x:Int,(match l.findIdx? p with|some i=>(i:Int)|none=>-1)=x:=⟨_,rfl⟩;rw[hrr]at hr hd;clear hp hrr;refine X5 Tryz.func88 ?_;simp only[Tryz.f88];refine X2 ?_;refine Xh [⟨true,.v (li r),none⟩] ?_ ?_
 · first|exact hr _|exact trivial|simpa[*]using hr _
 exact Xe
theorem Xam (t:Tm) (v:Int) (r:Bool) (h:∀d,Con Tryz.prog 59 true [aT t,li v] (.v (lb r)) none d) (d:Nat):Con Tryz.prog 89 true [aT t,.one (.c (.ptr [iC v]))] (.v (lb r)) none d:=by
 obtain⟨o,n,ks⟩:=t;simp only[aT,Tm.enc,List.map_cons,List.map_nil]at h⊢;refine X5 Tryz.func89 ?_;simp only[Tryz.f89];refine X2 ?_;refine Xh [⟨true,.v (lb r),none⟩] ?_ ?_
 · first|exact h _|exact trivial|simpa[*]using h _
 exact Xe
theorem XbQ (v:Int) (t:Tm):t.nodes≤1000000000→∀d:Nat,Con Tryz.prog 59 true [aT t,li v] (.v (lb (rvB v t))) none d:=by
 induction t using Tm.ind with
 |h o n ks ih=>
 intro hn d;simp only[Tm.nodes]at hn;have hlen:=W5 ks;have cc:=conT_con ks 89 [.ptr [iC v]] (rvB v) (by omega) (fun k hk d=>Xam k v _ (ih k hk (by have:=X0O hk;omega)) d);rw[X8f]at cc;obtain⟨res,hres⟩:∃r,rvB v (.mk o n ks)=r:=⟨_,rfl⟩;rw[hres];simp only[rvB]at hres;obtain⟨R,hR⟩:∃r,rvBs v ks=r:=⟨_,rfl⟩;rw[hR]at hres cc;clear ih hR;refine X5 Tryz.func59 ?_;simp only[Tryz.f59];simp only[aT,Tm.enc,List.map_cons,List.map_nil];refine X2 ?_;refine X0<|X0<|X1 ?_;refine(Xc rfl (fun h2=>?_) fun h2=>?_)
 · (try simp only[BN]at h2);have h24:o=24:=by simpa using h2
   rw[if_pos h24]at hres;subst hres;clear h2;refine X2 ?_;exact Xe
 (try simp only[BN]at h2);have h24:¬o=24:=by simpa using h2
 rw[if_neg h24]at hres;subst hres;clear h2;refine Xh [⟨true,.v (lb R),none⟩] ?_ ?_
 · first|exact cc _|exact trivial|simpa[*]using cc _
 exact Xe
theorem X7o:∀l:List St,wdL l≤2*szL l:=by
 apply St.lind
 · simp[wdL]
 intro d c v n t a b bs l ia ib il;simp only[wdL,wdS,szL,szS];split<;>omega
theorem X3R (l:List St):Xj l≤1000000000→∀d:Nat,Con Tryz.prog 153 true [lS l] (.v (li (wdL l))) none d:=by
 revert l
 apply St.lists;intro l ih hn d;have hlen:=Q5 l;have hsl:=Qu l;have hwl:=X7o l;obtain⟨res,hres⟩:∃r,wdL l=r:=⟨_,rfl⟩;rw[hres]at hwl⊢;refine X5 Tryz.func153 ?_;simp only[Tryz.f153];refine X2 ?_;refine X2 ?_;refine X0<|X0<|X1 ?_;refine X3<|(Xb [6,7] (fun(x:Nat×Nat)=>[(3,.v (li ((x.2:Nat):Int))),(8,.v (li x.1))]) (fun x=>[]) (fun x=>x.1≤l.length∧x.2+wdL (l.drop x.1)=res) (fun x=>l.length - x.1) (0,0) ⟨Nat.zero_le _,by simpa using hres⟩ ?_ ?_)
 · exact X4 (fun n=>n) []
 rintro⟨k,m⟩ ⟨hk,hJ⟩;simp only[upS,X6,Xw]
 try simp only[X6,KN,Nat.reduceBEq,if_true,if_false,ins,Nat.reduceLT]
 simp only at hk hJ;refine X2 ?_;refine X0<|(X7 rfl (fun h5=>X9 ?_) (fun h5=>?_))
 · (try simp only[BN]at h5);have hlt:k<l.length:=by first|omega|simpa using h5
   obtain⟨s,he,hd⟩:=Xo hlt;have hmem:s∈l:=List.mem_of_getElem? he;have hnm:=Qk hmem;have iha:=(ih s hmem).1;have ihb:=(ih s hmem).2;have hw1:=Xy hlt (by omega);have hk1:k+1≤l.length:=hlt;rw[hd]at hJ;obtain⟨sd,sc,sv,sn,⟨so,stn,sks⟩,sa,sb,sbs⟩:=s;simp only[St.then_,St.else_,St.term]at iha ihb hnm;simp only[wdL,wdS]at hJ;have ca:=iha (by omega);have cb:=ihb (by omega);have he':=XX he;simp only[St.enc,Tm.enc,List.cons_append,List.nil_append]at he';generalize wdL sa=na at*;generalize wdL sb=nb at*;have hw2:IntKind.i64.wrap (1+(na:Int))=1+(na:Int):=Xa (by omega) (by omega);have hw3:IntKind.i64.wrap (1+(na:Int)+(nb:Int))=1+(na:Int)+(nb:Int):=Xa (by omega) (by omega);have hw4:IntKind.i64.wrap ((m:Int)+(1+(na:Int)+(nb:Int)))=(m:Int)+(1+(na:Int)+(nb:Int)):=Xa (by omega) (by omega);have hw5:IntKind.i64.wrap ((m:Int)+(1+(na:Int)+(nb:Int))+1)=((m+(2+na+nb):Nat):Int):=by rw[Xa (by omega) (by omega)];omega
   clear hlt h5 ih hmem iha ihb hd he;refine X0<|X3<|X0<|X1 ?_;refine X0<|(Q7 [⟨true,.v (li (na:Int)),none⟩,⟨true,.v (li (nb:Int)),none⟩] (by kernel_rfl) (by kernel_rfl) (by rfl) (by simp[*];first|exact⟨rfl,Iff.rfl⟩|exact⟨rfl,trivial⟩|rfl) ?_ ?_)
   · first|exact⟨ca _,cb _⟩|exact trivial|(repeat' first|exact trivial|exact ca _|exact cb _|apply And.intro)
   refine X2 ?_;refine(Xc rfl (fun h9=>?_) fun h9=>?_)
   · (try simp only[BN]at h9);have h4:sd=4:=by simpa using h9
     rw[if_pos h4]at hJ;clear h9;refine X1 ?_;refine X1 ?_;exact⟨(k+1,m+(2+na+nb)),⟨hk1,by simp only;omega⟩,by simp only;omega,X4 (fun n=>n) []⟩
   (try simp only[BN]at h9);have h4:¬sd=4:=by simpa using h9
   rw[if_neg h4]at hJ;clear h9;refine X1 ?_;exact⟨(k+1,m+(1+na+nb)),⟨hk1,by simp only;omega⟩,by simp only;omega,X4 (fun n=>n) []⟩
 (try simp only[BN]at h5);have hkl:k=l.length:=by first|omega|(have:¬k<l.length:=by simpa using h5;omega)
 rw[hkl,List.drop_length]at hJ;simp only[wdL,Nat.add_zero]at hJ;clear hres h5 ih hsl hlen hkl;subst hJ;refine(Xf ?_);refine X2 ?_;exact Xe
end Go.Proofs.YtppjennamodfdaaGreat

namespace Go.Proofs.YtppjennamodfdaaGreat
open Go Go.Hl
def dfN (steps:List St) (x:Nd):Int:=if x.k=2 then(match steps[x.a.toNat]? with
 |some s=>if s.do_=0∨s.do_=5 then s.var else -1
 |none=>-1)else -1
set_option maxHeartbeats 8000000 in
theorem X4O (f:Fl) (hn:Xj f.body≤1000000) (N:List Nd) (k:Nat) (x:Nd) (hx:N[k]? =some x) (ha:x.k=2→∃(a:Nat) (s:St),x.a=a∧a≤1000000∧(flL f.body)[a]? =some s) (d:Nat):
  Con Tryz.prog 152 true [aF f,.agg [.c (.sl 4 (XD N))],li k] (.v (li (dfN (flL f.body) x))) none d:=by
 have he':=ZE hx;obtain⟨res,hres⟩:∃r,dfN (flL f.body) x=r:=⟨_,rfl⟩;rw[hres];unfold dfN at hres;by_cases h2:x.k=2
 · obtain⟨a,s,e1,e2,e3⟩:=ha h2;have cf:=X72 f.body hn a s (by omega) (by omega) (by rw[Xbs _ _ (by omega),Int.toNat_natCast,e3]);rw[if_pos h2,e1,Int.toNat_natCast,e3]at hres;simp only at hres;obtain⟨vars,hats,body⟩:=f;obtain⟨so,sc,sv,sn,⟨to,tn,tk⟩,sa,sb,sbs⟩:=s;obtain⟨xk,xa,xn,xo⟩:=x;simp only at h2 e1 he';subst h2 e1;simp only[Nd.enc]at he';simp only[St.do_,St.var]at hres;simp only[aS,St.enc,Tm.enc,List.cons_append,List.nil_append,List.map_cons,List.map_nil]at cf;simp only[aF,Fl.enc,List.map_cons,List.map_nil];clear ha hx e3;refine X5 Tryz.func152 ?_;simp only[Tryz.f152];refine X2 ?_;refine X0<|X0<|X1 ?_;refine(Xc rfl (fun h2=>?_) fun h2=>?_)
   · exact absurd h2 (by simp)
   (try simp only[BN]at h2);refine X0<|(Zu [(17,3),(19,4),(7,7)] [⟨false,.tup [.agg [.c (iC so),.c (iC sc),.c (iC sv),.c (iC sn),.c (iC to),.c (iC tn),.c (.sl 3 (Xn tk)),.c (.sl 10 (X8 sa)),.c (.sl 10 (X8 sb)),.c (.sl 1 (Xi sbs))],lb true],none⟩] (by kernel_rfl) (by kernel_rfl) (by rfl) (by simp[X3X,X2w,Qo, *];first|exact⟨rfl,Iff.rfl⟩|exact⟨rfl,trivial⟩|rfl) ?_ ?_)
   · first|exact cf _|exact trivial|simpa[*]using cf _
   refine X0<|X0<|X1 ?_;refine(Xc rfl (fun h7=>?_) fun h7=>?_)
   · (try simp only[BN]at h7);have h05:so=0∨so=5:=by simpa using h7
     have hres:sv=res:=by simpa[h05]using hres
     subst hres;clear h7;refine X2 ?_;exact Xe
   (try simp only[BN]at h7);have h05:¬(so=0∨so=5):=by simpa using h7
   have hres:-1=res:=by simpa[h05]using hres
   subst hres;clear h7;refine X2 ?_;exact Xe
 rw[if_neg h2]at hres;subst hres;obtain⟨vars,hats,body⟩:=f;obtain⟨xk,xa,xn,xo⟩:=x;simp only at h2 he';simp only[Nd.enc]at he';simp only[aF,Fl.enc,List.map_cons,List.map_nil];clear ha hx;refine X5 Tryz.func152 ?_;simp only[Tryz.f152];refine X2 ?_;refine X0<|X0<|X1 ?_;refine(Xc rfl (fun h2=>?_) fun h2=>?_)
 · (try simp only[BN]at h2);refine X2 ?_;exact Xe
 exact absurd h2 (by simpa using h2)
end Go.Proofs.YtppjennamodfdaaGreat

namespace Go.Proofs.YtppjennamodfdaaGreat
open Go Go.Hl
inductive Fw (N:List Nd) (df:Nd→Int) (v:Int) (i0:Nat):Nat→Prop
 |one {to:Nat} {x:Nd}:N[i0]? =some x→ZK x to→Fw N df v i0 to
 |nxt {i to:Nat} {x:Nd}:Fw N df v i0 i→N[i]? =some x→df x≠v→ZK x to→Fw N df v i0 to
structure Gw (N:List Nd) (steps:List St):Prop where
 ent:∃x,N[0]? =some x∧x.k=0
 k0:∀(i:Nat) x,N[i]? =some x→x.k=0→i=0
 n0:∀x∈N,x.n≠0∧x.o≠0
 inj:∀(i j:Nat) x y,N[i]? =some x→N[j]? =some y→Ql steps x=true→Ql steps y=true→x.a=y.a→i=j
 asg:∀x∈N,Ql steps x=true→(∃a:Nat,x.a=a∧a<steps.length)∧0≤X0B steps x
theorem X1c {steps:List St} {x:Nd} (h:Ql steps x=true):dfN steps x=X0B steps x:=by
 unfold Ql at h;unfold dfN X0B;simp only[Bool.and_eq_true,decide_eq_true_eq]at h;rw[if_pos h.1]
 revert h
 cases steps[x.a.toNat]? with
 |none=>simp
 | some s=>
   intro h;have h2:s.do_=0∨s.do_=5:=by simpa using h.2
   simp only;rw[if_pos h2]
theorem X7U {steps:List St} {x:Nd} (h:¬Ql steps x=true):dfN steps x=-1:=by
 unfold Ql at h;unfold dfN;simp only[Bool.and_eq_true,decide_eq_true_eq,not_and]at h;split
 · rename_i h2;have:=h h2
   revert this
   cases steps[x.a.toNat]? with
   |none=>simp
   | some s=>
     intro h3;have h4:¬(s.do_=0∨s.do_=5):=by simpa using h3
     simp only;rw[if_neg h4]
 rfl
theorem X9I {steps:List St} {x:Nd} {a:Nat} (hx:x.a=a) (ha:a<steps.length):QF steps a=X0B steps x:=by
 unfold QF X0B;rw[hx,Int.toNat_natCast,List.getElem?_eq_getElem ha]
theorem X7f (steps:List St) (v:Nat):QF steps (steps.length+v)=v:=by
 unfold QF;rw[List.getElem?_eq_none (by omega)];simp only[Int.natCast_add];omega
theorem Fw.suc {N:List Nd} {df:Nd→Int} {v:Int} {i0 i:Nat} (h:Fw N df v i0 i):∃x∈N,ZK x i:=by
 cases h with
 |one hx hs=>exact⟨_,List.mem_of_getElem? hx,hs⟩
 |nxt _ hx _ hs=>exact⟨_,List.mem_of_getElem? hx,hs⟩
theorem Gw.kne {N:List Nd} {steps:List St} (g:Gw N steps) {df:Nd→Int} {v:Int} {i0 i:Nat} {x:Nd} (h:Fw N df v i0 i) (hx:N[i]? =some x):x.k≠0:=by
 intro hk;have hi:=g.k0 i x hx hk;subst hi;obtain⟨y,hy,hs⟩:=h.suc;have:=g.n0 y hy;unfold ZK at hs;omega
theorem rc_fw {N:List Nd} {steps:List St} (g:Gw N steps) {nv to d:Nat}:
  Rc N steps nv to d↔(∃(i:Nat) (x:Nd),N[i]? =some x∧Ql steps x=true∧x.a=d∧Fw N (dfN steps) (dfN steps x) i to)∨∃v:Nat,v<nv∧d=steps.length+v∧Fw N (dfN steps) v 0 to:=by
 constructor
 · intro h
   induction h with
   | entry hx h0 hs hv=>
     have hi:=g.k0 _ _ hx h0;subst hi;exact .inr ⟨_,hv,rfl,.one hx hs⟩
   | pass hx h0 hs hr hk ih=>
     rename_i i to d x;rcases ih with⟨i0,x0,e1,e2,e3,e4⟩|⟨v,e1,e2,e4⟩
     · refine .inl ⟨i0,x0,e1,e2,e3,.nxt e4 hx ?_ hs⟩;obtain⟨⟨a,ha,hal⟩,h4⟩:=g.asg x0 (List.mem_of_getElem? e1) e2;have had:a=d:=by omega
       subst had;rw[X1c e2];by_cases h:Ql steps x=true
       · rw[X1c h];rw[h,X9I ha hal]at hk;intro e;simp[e]at hk
       rw[X7U h];omega
     refine .inr ⟨v,e1,e2,.nxt e4 hx ?_ hs⟩;by_cases h:Ql steps x=true
     · rw[X1c h];rw[h,e2,X7f]at hk;intro e;simp[e]at hk
     rw[X7U h];omega
   | gen hx h0 hs ha=>
     obtain⟨⟨a,ha2,hal⟩,h4⟩:=g.asg _ (List.mem_of_getElem? hx) ha;exact .inl ⟨_,_,hx,ha,by rw[ha2];simp,.one hx hs⟩
 rintro(⟨i,x,hx,ha,hd,h⟩|⟨v,hv,rfl,h⟩)
 · obtain⟨⟨a,ha2,hal⟩,h4⟩:=g.asg x (List.mem_of_getElem? hx) ha;have had:a=d:=by omega
   subst had;rw[X1c ha]at h
   induction h with
   | one hx2 hs=>
     rw[hx]at hx2;cases hx2;have:=Rc.gen (nv:=nv) hx (fun hk=>by simp[Ql,hk]at ha) hs ha
     rwa [ha2,Int.toNat_natCast]at this
   | nxt hf hy hne hs ih=>
     rename_i j to y;refine .pass hy (g.kne hf hy) hs ih ?_;by_cases h:Ql steps y=true
     · rw[X1c h]at hne;rw[h,X9I ha2 hal];simpa using fun e=>hne e.symm
     simp[h]
 obtain⟨x0,hx0,hk0⟩:=g.ent
 induction h with
 | one hx hs=>
   rw[hx0]at hx;cases hx;exact .entry hx0 hk0 hs hv
 | nxt hf hy hne hs ih=>
   refine .pass hy (g.kne hf hy) hs ih ?_;rename_i j to y;by_cases h:Ql steps y=true
   · rw[X1c h]at hne;rw[h,X7f];simpa using fun e=>hne e.symm
   simp[h]
structure Bf (N:List Nd) (df:Nd→Int) (v:Int) (i0:Nat) (T Q:List Nat) (C:Nat→Nat→Prop):Prop where
 nd:T.Nodup
 fw:∀t∈T,Fw N df v i0 t∧t<N.length
 q:∀q∈Q,q<N.length∧(q=i0∨Fw N df v i0 q∧∃x,N[q]? =some x∧df x≠v)
 pr:∀(i:Nat) x to,N[i]? =some x→(i=i0∨i∈T∧df x≠v)→ZK x to→i∈Q∨to∈T∨C i to
def pend (i:Nat) (x:Nd) (j:Nat):Nat→Nat→Prop:=fun k to=>k=i∧∃j',j≤j'∧j'<2∧toA x.n x.o j'=to
def noC:Nat→Nat→Prop:=fun _ _=>False
section
variable {N:List Nd} {df:Nd→Int} {v:Int} {i0:Nat}
theorem Bf.start (h:i0<N.length):Bf N df v i0 [] [i0] noC where
 nd:=List.nodup_nil
 fw:=by simp
 q:=by simp[h]
 pr:=by
  intro i x to _ h _;rcases h with h|h
  · exact .inl (by simp[h])
  simp at h
theorem Bf.pop {T Q:List Nat} {i:Nat} (h:Bf N df v i0 T (i::Q) noC):∃x,N[i]? =some x∧(i=i0∨Fw N df v i0 i∧df x≠v)∧Bf N df v i0 T Q (pend i x 0):=by
 obtain⟨hi,hc⟩:=h.q i (by simp);obtain⟨x,hx,_⟩:=Xo hi;refine⟨x,hx,hc.imp id fun⟨h1,y,h2,h3⟩=>⟨h1,by rw[hx]at h2;cases h2;exact h3⟩,h.nd,h.fw,fun q hq=>h.q q (by simp[hq]),fun k y to hy hk hs=>?_⟩;rcases h.pr k y to hy hk hs with h1|h1|h1
 · rcases List.mem_cons.1 h1 with h1|h1
   · subst h1;rw[hx]at hy;cases hy;rcases hs with hs|hs
     · exact .inr (.inr ⟨rfl,0,Nat.le_refl _,by omega,by simp[toA,hs]⟩)
     exact .inr (.inr ⟨rfl,1,by omega,by omega,by simp[toA,hs]⟩)
   exact .inl h1
 · exact .inr (.inl h1)
 exact h1.elim
theorem Bf.pass {T Q:List Nat} {i j:Nat} {x:Nd} (h:Bf N df v i0 T Q (pend i x j)) (hs:toA x.n x.o j<0∨∃to:Nat,toA x.n x.o j=to∧to∈T):Bf N df v i0 T Q (pend i x (j+1)):=by
 refine⟨h.nd,h.fw,h.q,fun k y to hy hk h1=>?_⟩;rcases h.pr k y to hy hk h1 with h2|h2|⟨h2,j',h3,h4,h5⟩
 · exact .inl h2
 · exact .inr (.inl h2)
 by_cases e:j'=j
 · subst e;rcases hs with hs|⟨t,hs,ht⟩
   · omega
   have:t=to:=by omega
   subst this;exact .inr (.inl ht)
 exact .inr (.inr ⟨h2,j',by omega,h4,h5⟩)
theorem Bf.add {T Q:List Nat} {i j to:Nat} {x y:Nd} (h:Bf N df v i0 T Q (pend i x j)) (hx:N[i]? =some x) (hc:i=i0∨Fw N df v i0 i∧df x≠v) (hj:j<2) (ht:toA x.n x.o j=to) (hn:to∉T) (hy:N[to]? =some y):
  Bf N df v i0 (T++[to]) (if df y=v then Q else Q++[to]) (pend i x (j+1)):=by
 have hs:ZK x to:=by
  unfold toA at ht;split at ht
  · exact .inl ht
  exact .inr ht
 have hf:Fw N df v i0 to:=by
  rcases hc with rfl|⟨h1,h2⟩
  · exact .one hx hs
  exact .nxt h1 hx h2 hs
 have htl:to<N.length:=(List.getElem?_eq_some_iff.1 hy).1;refine⟨?_,?_,?_,?_⟩
 · rw[List.nodup_append];exact⟨h.nd,by simp,fun a ha b hb=>by rw[List.mem_singleton.1 hb];rintro rfl;exact hn ha⟩
 · intro t h1;rcases List.mem_append.1 h1 with h1|h1
   · exact h.fw t h1
   rw[List.mem_singleton.1 h1];exact⟨hf,htl⟩
 · intro q hq;split at hq
   · exact h.q q hq
   rename_i hd;rcases List.mem_append.1 hq with hq|hq
   · exact h.q q hq
   rw[List.mem_singleton.1 hq];exact⟨htl,.inr ⟨hf,y,hy,hd⟩⟩
 intro k z t hz hk h1
 have old:(k=i0∨k∈T∧df z≠v)→k∈(if df y=v then Q else Q++[to])∨t∈T++[to]∨pend i x (j+1) k t:=by
  intro hk;rcases h.pr k z t hz hk h1 with h2|h2|⟨h2,j',h3,h4,h5⟩
  · refine .inl ?_;split
    · exact h2
    exact List.mem_append_left _ h2
  · exact .inr (.inl (List.mem_append_left _ h2))
  by_cases e:j'=j
  · subst e;have:t=to:=by omega
    exact .inr (.inl (by simp[this]))
  exact .inr (.inr ⟨h2,j',by omega,h4,h5⟩)
 rcases hk with hk|⟨hk,hd⟩
 · exact old (.inl hk)
 rcases List.mem_append.1 hk with hk|hk
 · exact old (.inr ⟨hk,hd⟩)
 have:=List.mem_singleton.1 hk;subst this;rw[hy]at hz;cases hz;rw[if_neg hd];exact .inl (by simp)
theorem Bf.next {T Q:List Nat} {i:Nat} {x:Nd} (h:Bf N df v i0 T Q (pend i x 2)):Bf N df v i0 T Q noC:=
 ⟨h.nd,h.fw,h.q,fun k y to hy hk hs=>(h.pr k y to hy hk hs).imp id fun h=>h.imp id fun⟨_,j,h1,h2,_⟩=>by omega⟩
theorem Bf.done {T:List Nat} (h:Bf N df v i0 T [] noC) (to:Nat):to∈T↔Fw N df v i0 to:=by
 refine⟨fun ht=>(h.fw to ht).1,fun hf=>?_⟩
 induction hf with
 | one hx hs=>
   rcases h.pr _ _ _ hx (.inl rfl) hs with h1|h1|h1
   · simp at h1
   · exact h1
   exact h1.elim
 | nxt hf hx hne hs ih=>
   rcases h.pr _ _ _ hx (.inr ⟨ih,hne⟩) hs with h1|h1|h1
   · simp at h1
   · exact h1
   exact h1.elim
theorem Bf.len {T Q:List Nat} {C:Nat→Nat→Prop} (h:Bf N df v i0 T Q C):T.length≤N.length:=QA h.nd fun t ht=>(h.fw t ht).2
end
def Wr (T:List Nat) (d:Nat) (S:List (List Nat)):List (List Nat):=S.mapIdx fun to l=>if to∈T then l++[d] else l
@[simp] theorem X39 (T:List Nat) (d:Nat) (S:List (List Nat)):(Wr T d S).length=S.length:=by simp[Wr]
theorem X0Q {T:List Nat} {d to:Nat} {S:List (List Nat)} {l:List Nat} (h:S[to]? =some l):(Wr T d S)[to]? =some (if to∈T then l++[d] else l):=by
 simp[Wr,List.getElem?_mapIdx,h]
theorem addT_nil (d:Nat) (S:List (List Nat)):Wr [] d S=S:=by
 apply List.ext_getElem?;intro k;simp[Wr,List.getElem?_mapIdx]
theorem Xc3 {T:List Nat} {d to:Nat} {S:List (List Nat)} {l:List Nat} (h:S[to]? =some l) (hn:to∉T):(Wr T d S).set to (l++[d])=Wr (T++[to]) d S:=by
 apply List.ext_getElem?;intro k;have hlt:=(List.getElem?_eq_some_iff.1 h).1;rw[List.getElem?_set];by_cases e:to=k
 · subst e;rw[if_pos rfl,if_pos (by simpa using hlt),X0Q h,if_pos (by simp)]
 rw[if_neg e];cases hk:S[k]? with
 | none=>
   have:=List.getElem?_eq_none_iff.1 hk;rw[List.getElem?_eq_none (by simpa using this),List.getElem?_eq_none (by simpa using this)]
 | some m=>
   rw[X0Q hk,X0Q hk];simp[Ne.symm e]
theorem Xa8 {T T':List Nat} {d:Nat} {S:List (List Nat)} (h:∀to,to∈T↔to∈T'):Wr T d S=Wr T' d S:=by
 unfold Wr;congr 1
 funext to l
 simp[h to]
end Go.Proofs.YtppjennamodfdaaGreat
