/- Part 6: contracts of functions of the program and of the reference, and plain facts about what they compute; used by the proof of the claimed statement. Conditions: as each theorem states. -/
import Derived.Test.YtppjennamodfdaaGreatK5
import Derived.Lib.SlicesCompact
import Derived.Shelf.Slices.CompactI
import Derived.Shelf.Sort.Plain
import Derived.Shelf.Slices.In.SortNone
set_option linter.unusedSimpArgs false
set_option linter.unusedVariables false
set_option linter.unnecessarySimpa false
set_option maxRecDepth 100000
set_option maxHeartbeats 2000000
namespace Go.Proofs.YtppjennamodfdaaGreat
open Go Go.Hl
theorem Xck (f:Fl) (hv:f.vars.length≤1000000) (hh:f.hats.length≤1000000) (hn:Xj f.body+QE f.hats≤900000000) (d:Nat):
  Con Tryz.prog 60 true [aF f] (.v (lb (X16 f))) none d:=by
 obtain⟨res,hres⟩:∃r,X16 f=r:=⟨_,rfl⟩;rw[hres];have cn:=XbR f.body (by omega);have csd:=Xab f.body (by omega);have ctd:=Xcx f.body (by omega);unfold X16 at hres;obtain⟨vars,hats,body⟩:=f;simp only at hv hh hn hres cn csd ctd;refine X5 Tryz.func60 ?_;simp only[Tryz.f60];simp only[aF,Fl.enc,List.map_cons,List.map_nil];refine X2 ?_;refine X0<|X0<|X1 ?_;refine(Xc rfl (fun h2=>?_) fun h2=>?_)
 · try simp only[BN]at h2
   have hz:(decide (vars.length≤64)&&decide (hats.length≤8))=false:=by
    simp only[Bool.and_eq_false_iff,decide_eq_false_iff_not];omega
   rw[hz]at hres;simp only[Bool.false_and]at hres;subst hres;refine X2 ?_;exact Xe
 try simp only[BN]at h2
 have hz:(decide (vars.length≤64)&&decide (hats.length≤8))=true:=by
  simp only[Bool.and_eq_true,decide_eq_true_eq];omega
 rw[hz]at hres;simp only[Bool.true_and]at hres;refine Xh [⟨true,.v (li (Xj body)),none⟩] ?_ ?_
 · first|exact cn _|exact trivial|simpa[*]using cn _
 refine X0<|X0<|X1 ?_;refine X3<|(Xb [1] (fun(x:Nat×Nat)=>[(3,.v (li x.2)),(4,.v (li x.1))]) (fun x=>[(1,.box [.c (.sl 5 (Xr vars)),.c (.sl 6 (Xs hats)),.c (.sl 10 (X8 body))])]) (fun x=>x.1≤hats.length∧x.2+QE (hats.drop x.1)=Xj body+QE hats∧X0p (hats.drop x.1)=X0p hats) (fun x=>hats.length - x.1) (0,Xj body) ⟨Nat.zero_le _,by simp,by simp⟩ ?_ ?_)
 · exact X4 (fun n=>n) []
 rintro⟨k,n⟩ ⟨hk,hJ,hJ2⟩;simp only[upS,X6,Xw]
 try simp only[X6,KN,Nat.reduceBEq,if_true,if_false,ins,Nat.reduceLT]
 simp only at hk hJ hJ2;refine X0<|X0<|X1 ?_;refine(X7 rfl (fun h9=>X9 ?_) (fun h9=>?_))
 · (try simp only[BN]at h9);have hlt:k<hats.length:=by omega
   obtain⟨h,he,hd⟩:=Xo hlt;have hw1:=Xy hlt (by omega);have hk1:k+1≤hats.length:=hlt;rw[hd]at hJ hJ2;simp only[QE]at hJ;have hJ2:(decide (tdT h.term≤12)&&X0p (hats.drop (k+1)))=X0p hats:=hJ2;have ctn:=X6m h.term (by omega);have ctd2:=X5o h.term (by omega);have hw2:IntKind.i64.wrap ((n:Int)+h.term.nodes)=((n+h.term.nodes:Nat):Int):=by rw[Xa (by omega) (by omega)];simp
   obtain⟨nm,lo,hi,⟨o,tn,ks⟩⟩:=h;simp only at hJ hJ2 ctn ctd2 hw2;simp only[aT,Tm.enc,List.map_cons,List.map_nil]at ctn ctd2;obtain⟨N,hN⟩:∃x,(Tm.mk o tn ks).nodes=x:=⟨_,rfl⟩;obtain⟨D,hD⟩:∃x,tdT (Tm.mk o tn ks)=x:=⟨_,rfl⟩;rw[hN]at ctn hJ hw2;rw[hD]at ctd2 hJ2;clear hlt h9 hd hN hD;refine X0<|X3<|X0<|(Xm [⟨true,.v (li N),none⟩] ?_ ?_)
   · first|exact ctn _|exact trivial|simpa[*]using ctn _
   refine Xh [⟨true,.v (li D),none⟩] ?_ ?_
   · first|exact ctd2 _|exact trivial|simpa[*]using ctd2 _
   refine(Xc rfl (fun h12=>?_) fun h12=>?_)
   · (try simp only[BN]at h12);have hz2:X0p hats=false:=by rw[←hJ2];simp only[Bool.and_eq_false_iff,decide_eq_false_iff_not];omega
     rw[hz2,Bool.and_false]at hres;subst hres;refine X2 ?_;exact Xe
   (try simp only[BN]at h12);rw[decide_eq_true (by omega),Bool.true_and]at hJ2;refine X1 ?_;exact⟨(k+1,n+N),⟨hk1,by simp only;omega,hJ2⟩,by simp only;omega,X4 (fun n=>n) []⟩
 (try simp only[BN]at h9);have hkl:k=hats.length:=by omega
 subst hkl;rw[List.drop_length]at hJ hJ2;simp only[QE,Nat.add_zero]at hJ;have hJ2:X0p hats=true:=hJ2.symm;rw[hJ2,Bool.and_true,←hJ]at hres;obtain⟨S,hS⟩:∃x,sdL body=x:=⟨_,rfl⟩;obtain⟨T,hT⟩:∃x,Ww body=x:=⟨_,rfl⟩;rw[hS]at csd hres;rw[hT]at ctd hres;have e1:decide (n≤1024)=decide ((n:Int)≤1024):=by rw[Bool.eq_iff_iff,decide_eq_true_eq,decide_eq_true_eq];omega
 have e2:decide (S≤12)=decide ((S:Int)≤12):=by rw[Bool.eq_iff_iff,decide_eq_true_eq,decide_eq_true_eq];omega
 rw[e1,e2]at hres;clear e1 e2 hS hT hJ2 h9 hJ;refine(Xf ?_);refine Xh [⟨true,.v (li S),none⟩,⟨true,.v (lb T),none⟩] ?_ ?_
 · first|exact⟨csd _,ctd _⟩|exact trivial|(repeat' first|exact trivial|exact csd _|exact ctd _|apply And.intro)
 exact(Xk (fun h=>⟨.inr rfl,h⟩) _ (by simp[*];rfl) (by subst hres;simp[XK]) (by simp))
end Go.Proofs.YtppjennamodfdaaGreat

namespace Go.Proofs.YtppjennamodfdaaGreat
open Go Go.Hl
theorem X2F (f:Fl) (hv:f.vars.length≤1000000) (hh:f.hats.length≤1000000) (hn:Xj f.body+QE f.hats≤900000000) (hb:Wj f.body=true) (d:Nat):
  Con Tryz.prog 25 true [aF f] (.v (li (Qf f))) none d:=by
 obtain⟨res,hres⟩:∃r,Qf f=r:=⟨_,rfl⟩;rw[hres];have csz:=Xck f hv hh hn;have cvars:=Xc2 f.vars hv;have ct:=fun(hg:X0a f.vars) (h:Ht) (hm:h∈f.hats)=>X6K f.vars true hg (by omega) h.term (by have:=X0b hm;omega);have cst:=fun hg=>Xak f hg hv f.body (by omega) hb;have cup:=fun ho=>X4D f.body (by omega) ho;have hgood:ZF f.vars=0→X0a f.vars:=X2s;have hok:ssC f.vars f.hats.length f.body true=0→okL f.body=true:=X2x _ _;unfold Qf X6t at hres;obtain⟨SZ,hSZ⟩:∃x,X16 f=x:=⟨_,rfl⟩;rw[hSZ]at csz hres;obtain⟨vars,hats,body⟩:=f;simp only at hv hh hn hb hres csz cvars ct cst cup hgood hok;obtain⟨VC,hVC⟩:∃x,ZF vars=x:=⟨_,rfl⟩;obtain⟨HC,hHC⟩:∃x,hcs vars [] hats=x:=⟨_,rfl⟩;obtain⟨SC,hSC⟩:∃x,ssC vars hats.length body true=x:=⟨_,rfl⟩;rw[hVC]at cvars hres hgood;rw[hHC]at hres;rw[hSC]at hres hok;have cst:=fun hg=>cst hg true;rw[hSC]at cst;clear hVC hSC hSZ;refine X5 Tryz.func25 ?_;simp only[Tryz.f25];simp only[aF,Fl.enc,List.map_cons,List.map_nil]at csz cst⊢;refine X2 ?_;refine X0<|X0<|(Xm [⟨true,.v (lb SZ),none⟩] ?_ ?_)
 · first|exact csz _|exact trivial|simpa[*]using csz _
 refine(Xc rfl (fun h2=>?_) fun h2=>?_)
 · (try simp only[BN]at h2);have hz:SZ=false:=by simpa using h2
   rw[if_pos hz]at hres;subst hres;refine X2 ?_;exact Xe
 (try simp only[BN]at h2);have hz:SZ=true:=by simpa using h2
 rw[if_neg (by rw[hz];decide)]at hres;clear csz h2;subst hz;refine Xh [⟨true,.v (li VC),none⟩] ?_ ?_
 · first|exact cvars _|exact trivial|simpa[*]using cvars _
 refine X0<|X0<|X1 ?_;refine(Xc rfl (fun h7=>?_) fun h7=>?_)
 · (try simp only[BN]at h7);rw[if_neg h7]at hres;subst hres;refine X2 ?_;exact Xe
 (try simp only[BN]at h7);have hv0:VC=0:=by simpa using h7
 have hg:=hgood hv0;have ct:=ct hg;have cst:=cst hg;rw[if_pos hv0]at hres;clear cvars hgood h7;subst hv0;refine X0<|X0<|X1 ?_;refine X3<|(Xb [1] (fun(x:Nat)=>[(4,.v (li x))]) (fun x=>[(1,.box [.c (.sl 5 (Xr vars)),.c (.sl 6 (Xs hats)),.c (.sl 10 (X8 body))])]) (fun x=>x≤hats.length∧hcs vars (hats.take x) (hats.drop x)=HC) (fun x=>hats.length - x) (0:Nat) ⟨Nat.zero_le _,hHC⟩ ?_ ?_)
 · exact X4 (fun n=>n) []
 rintro k ⟨hk,hJ⟩;simp only[upS,X6,Xw]
 try simp only[X6,KN,Nat.reduceBEq,if_true,if_false,ins,Nat.reduceLT]
 clear hHC;refine X0<|X0<|X1 ?_;refine(X7 rfl (fun h13=>X9 ?_) (fun h13=>?_))
 · (try simp only[BN]at h13);have hlt:k<hats.length:=by omega
   obtain⟨h,he,hd⟩:=Xo hlt;have hw1:=Xy hlt (by omega);have hk1:k+1≤hats.length:=hlt;have hkl:(hats.take k).length=k:=by rw[List.length_take];omega
   rw[hd]at hJ;simp only[hcs]at hJ;rw[←ZS he]at hJ;have ct:=ct h (List.mem_of_getElem? he);obtain⟨nm,lo,hi,⟨o,tn,ks⟩⟩:=h;obtain⟨C,hC⟩:∃x,X5V vars (hats.take k) ⟨nm,lo,hi,.mk o tn ks⟩=x:=⟨_,rfl⟩;rw[hC]at hJ;simp only[X5V]at hC;simp only[aT,Tm.enc,List.map_cons,List.map_nil]at ct;obtain⟨TC,hTC⟩:∃x,X0F vars true (.mk o tn ks)=x:=⟨_,rfl⟩;rw[hTC]at ct hC;clear hlt h13 hd cup hok cst hTC;refine X0<|X3<|X0<|X1 ?_;refine X0<|X0<|(Xm [⟨true,.v (lb (ZL nm)),none⟩] ?_ ?_)
   · first|exact X2d _ _|exact trivial|simpa[*]using X2d _ _
   refine(Xc rfl (fun h16=>?_) fun h16=>?_)
   · (try simp only[BN]at h16);rw[if_pos h16]at hC;subst hC;rw[if_neg (by decide)]at hJ;subst hJ;rw[if_neg (by decide)]at hres;subst hres;refine X2 ?_;exact Xe
   (try simp only[BN]at h16);rw[if_neg (by simp[h16])]at hC;clear h16;refine X0<|X0<|X1 ?_;refine X3<|(Xb [1,4,5] (fun(x:Nat)=>[(6,.v (li x))]) (fun x=>[(1,.box [.c (.sl 5 (Xr vars)),.c (.sl 6 (Xs hats)),.c (.sl 10 (X8 body))]),(5,.box [.c (sC nm),.c (iC lo),.c (iC hi),.c (iC o),.c (iC tn),.c (.sl 3 (Xn ks))])]) (fun x=>x≤k∧∀j:Nat,j<x→∀w,hats[j]? =some w→w.name≠nm) (fun x=>k - x) (0:Nat) ⟨Nat.zero_le _,fun j hj=>absurd hj (Nat.not_lt_zero j)⟩ ?_ ?_)
   · exact X4 (fun n=>n) []
   rintro j ⟨hj,hno⟩;simp only[upS,X6,Xw]
   try simp only[X6,KN,Nat.reduceBEq,if_true,if_false,ins,Nat.reduceLT]
   refine X0<|X0<|X1 ?_;refine(X7 rfl (fun h22=>X9 ?_) (fun h22=>?_))
   · (try simp only[BN]at h22);have hjk:j<k:=by omega
     obtain⟨w,hw⟩:∃w,hats[j]? =some w:=⟨hats[j],by simp[show j<hats.length by omega]⟩;have hwj:=Xy hjk (by omega);have hj1:j+1≤k:=hjk
     have hmemw:w∈hats.take k:=by
      have:(hats.take k)[j]? =some w:=by rw[List.getElem?_take_of_lt hjk];exact hw
      exact List.mem_of_getElem? this
     obtain⟨n2,l2,i2,⟨o2,t2,k2⟩⟩:=w;clear hjk h22;refine X0<|X3<|X0<|(Q4 (by kernel_rfl) (by kernel_rfl) (by rfl) (by simp[*];rfl) ?_);refine(Xc rfl (fun h24=>?_) fun h24=>?_)
     · try simp only[BN]at h24
       have hany:((hats.take k).any fun w=>decide (w.name=nm))=true:=by
        rw[List.any_eq_true];exact⟨_,hmemw,by simpa using h24⟩
       rw[if_pos hany]at hC;subst hC;rw[if_neg (by decide)]at hJ;subst hJ;rw[if_neg (by decide)]at hres;subst hres;refine X2 ?_;exact Xe
     (try simp only[BN]at h24);refine X1 ?_
     exact⟨j+1,⟨hj1,fun i hi u hu=>by
      rcases Nat.lt_or_eq_of_le (Nat.le_of_lt_succ hi)with h|h
      · exact hno i h u hu
      subst h;rw[hw]at hu;cases hu
      simpa using h24⟩,by omega,X4 (fun n=>n) []⟩
   (try simp only[BN]at h22);have hjk:j=k:=by omega
   subst hjk
   have hany:((hats.take j).any fun w=>decide (w.name=nm))=false:=by
    rw[List.any_eq_false];intro w hw;obtain⟨i,hi⟩:=List.mem_iff_getElem?.1 hw;have hij:i<j:=by have:=(List.getElem?_eq_some_iff.1 hi).1;omega
    rw[List.getElem?_take_of_lt hij]at hi;simpa using hno i hij w hi
   rw[if_neg (by simp[hany])]at hC;clear hno hkl hany;refine(Xf ?_);refine X0<|X0<|(Xm [⟨true,.v (lb (QK lo hi)),none⟩] ?_ ?_)
   · first|exact ZO _ _ _|exact trivial|simpa[*]using ZO _ _ _
   refine(Xc rfl (fun h30=>?_) fun h30=>?_)
   · (try simp only[BN]at h30);rw[if_pos h30]at hC;subst hC;rw[if_neg (by decide)]at hJ;subst hJ;rw[if_neg (by decide)]at hres;subst hres;refine X2 ?_;exact Xe
   (try simp only[BN]at h30);rw[if_neg (by simp[h30])]at hC;subst hC;clear h30;refine Xh [⟨true,.v (li TC),none⟩] ?_ ?_
   · first|exact ct _|exact trivial|simpa[*]using ct _
   refine X2 ?_;refine(Xc rfl (fun h35=>?_) fun h35=>?_)
   · (try simp only[BN]at h35);rw[if_neg h35]at hJ;subst hJ;rw[if_neg h35]at hres;subst hres;refine X2 ?_;exact Xe
   (try simp only[BN]at h35);rw[if_pos (by simpa using h35)]at hJ;refine X1 ?_;exact⟨j+1,⟨hk1,hJ⟩,by omega,X4 (fun n=>n) []⟩
 (try simp only[BN]at h13);have hkl:k=hats.length:=by omega
 rw[hkl,List.drop_length]at hJ;simp only[hcs]at hJ;rw[if_pos hJ.symm]at hres;clear hJ hkl hk h13 ct;refine(Xf ?_);refine Xh [⟨true,.v (li SC),none⟩] ?_ ?_
 · first|exact cst _|exact trivial|simpa[*]using cst _
 refine X0<|X0<|X1 ?_;refine(Xc rfl (fun h42=>?_) fun h42=>?_)
 · (try simp only[BN]at h42);rw[if_neg h42]at hres;subst hres;refine X2 ?_;exact Xe
 (try simp only[BN]at h42);have hs0:SC=0:=by simpa using h42
 rw[if_pos hs0]at hres;have hok:=hok hs0;have cup:=cup hok;obtain⟨Y,hY⟩:∃x,bdL CR body ⟨0,0,0⟩=x:=⟨_,rfl⟩;rw[hY]at hres cup;obtain⟨y1,y2,y3⟩:=Y;simp only[Bool.or_eq_true,decide_eq_true_eq]at hres;simp only at cup;clear hY cst h42 hok;refine Xh [⟨true,.tup [li y1,li y2,li y3],none⟩] ?_ ?_
 · first|exact cup _|exact trivial|simpa[*]using cup _
 refine X0<|X0<|X1 ?_;refine(Xc rfl (fun h47=>?_) fun h47=>?_)
 · (try simp only[BN]at h47);rw[if_pos (by omega)]at hres;subst hres;refine X2 ?_;exact Xe
 (try simp only[BN]at h47);rw[if_neg (by omega)]at hres;subst hres;refine X2 ?_;exact Xe
end Go.Proofs.YtppjennamodfdaaGreat

namespace Go.Proofs.YtppjennamodfdaaGreat
open Go Go.Hl
def st0:Sta:=⟨[],[],0⟩
structure Obs where
 outs:List Int
 time:Int
end Go.Proofs.YtppjennamodfdaaGreat

namespace Go.Proofs.YtppjennamodfdaaGreat
open Go Go.Hl
theorem X6j {vars:List Vr} {inp:Bool} {t:Tm} (h:X0F vars inp t=0):W3 vars inp t=true:=by
 unfold X0F at h;split at h
 · assumption
 cases h
theorem X8V {vars:List Vr}:∀(l seen:List Ht),hcs vars seen l=0→∀h∈l,W3 vars true h.term=true
 |[],_,_,h,hm=>by cases hm
 | x ::l,seen,h0,h,hm=>by
   simp only[hcs]at h0;split at h0
   · rename_i hx;rcases List.mem_cons.1 hm with rfl|h1
     · unfold X5V at hx;split at hx
       · cases hx
       split at hx
       · cases hx
       split at hx
       · cases hx
       exact X6j hx
     exact X8V l _ h0 h h1
   rename_i hx;exact absurd h0 hx
theorem XbI {vars:List Vr} {nh:Nat} {d c v n:Int} {t:Tm} {a b:List St} {bs:List Int} {l:List St} {top:Bool} (h:ssC vars nh (.mk d c v n t a b bs::l) top=0):
  shB vars nh d v n t a.length b.length bs (top&&l.isEmpty)=true∧X2E d c n bs=true∧X0F vars false t=0∧ssC vars nh a false=0∧ssC vars nh b false=0∧ssC vars nh l top=0:=by
 simp only[ssC]at h;split at h
 · rename_i h0;split at h
   · rename_i ha;split at h
     · rename_i hb;unfold stC at h0;split at h0
       · cases h0
       rename_i hs;split at h0
       · cases h0
       rename_i hn;exact⟨by simpa using hs,by simpa using hn,h0,ha,hb,h⟩
     rename_i hb;exact absurd h hb
   rename_i ha;exact absurd h ha
 rename_i h0;exact absurd h h0
theorem X6M {vars:List Vr} {nh:Nat} {d v n:Int} {t:Tm} {la lb_:Nat} {bs:List Int} {last:Bool} (h:shB vars nh d v n t la lb_ bs last=true) (hd:d=0∨d=5):QR vars v=true∧(d=5→0≤n∧n<nh):=by
 unfold shB at h;rcases hd with rfl|rfl
 · simp only[if_true,Bool.and_eq_true]at h;exact⟨h.1.1.2,fun h=>by cases h⟩
 simp only[show ¬(5:Int)=0 by decide,show ¬(5:Int)=1 by decide,show ¬(5:Int)=2 by decide,show ¬(5:Int)=3 by decide,show ¬(5:Int)=4 by decide,if_true,if_false,Bool.and_eq_true,decide_eq_true_eq]at h;exact⟨h.1.1.1.1.2,fun _=>⟨h.1.1.1.2,h.1.1.2⟩⟩
theorem numB_in {d c n:Int} {bs:List Int} (h:X2E d c n bs=true):0≤c∧(d=4→0≤n∧n≤4096):=by
 unfold X2E at h;simp only[Bool.and_eq_true,Bool.not_eq_true',Bool.or_eq_false_iff,Bool.and_eq_false_iff,decide_eq_false_iff_not]at h;refine⟨by omega,fun h4=>?_⟩;rcases h.1.2 with h1|h1
 · exact absurd h4 h1
 omega
theorem X86 {vars:List Vr} {nh:Nat}:∀(l:List St) (top:Bool),ssC vars nh l top=0→Wj l=true→wfL vars nh l=true
 |[],_,_,_=>by simp[wfL]
 | .mk d c v n t a b bs::l,top,h,hb=>by
   obtain⟨hs,hn,ht,ha,hb',hl⟩:=XbI h;simp only[Wj,X0G,Bool.and_eq_true,decide_eq_true_eq]at hb;have ia:=X86 a false ha hb.1.2.1;have ib:=X86 b false hb' hb.1.2.2;have il:=X86 l top hl hb.2;have hn4:=(numB_in hn).2;simp only[wfL,wfS,ia,ib,il,X6j ht,Bool.and_true,Bool.true_and,Bool.and_eq_true,Bool.or_eq_true,decide_eq_true_eq];refine⟨?_,?_,?_,hb.1.1⟩
   · by_cases hd:d=0∨d=5
     · exact .inr (X6M hs hd).1
     exact .inl ⟨fun h=>hd (.inl h),fun h=>hd (.inr h)⟩
   · by_cases hd:d=5
     · exact .inr ((X6M hs (.inr hd)).2 hd)
     exact .inl hd
   by_cases hd:d=4
   · exact .inr (hn4 hd).2
   exact .inl hd
theorem X7D:∀(l:List St) (p:B3),okL l=true→0≤p.o→mn (bdL CR l p).o 9=mn (p.o+(oUL l:Int)) 9
 |[],p,_,_=>by simp[bdL,oUL]
 | .mk d c v n t a b bs::l,p,h,hp=>by
   simp only[okL,okS,Bool.and_eq_true,Bool.or_eq_true,decide_eq_true_eq]at h;have ha:=X7D a ⟨0,0,0⟩ h.1.2.2.1 (Int.le_refl 0);have hb:=X7D b ⟨0,0,0⟩ h.1.2.2.2 (Int.le_refl 0);have na:=Zv (Zs X47 a _ h.1.2.2.1 (Z4 X47));have nb:=Zv (Zs X47 b _ h.1.2.2.2 (Z4 X47));simp only[bdL,bdS,oUL,oUS];generalize bdL CR a ⟨0,0,0⟩=A at*;generalize bdL CR b ⟨0,0,0⟩=B at*;simp only[Int.zero_add]at ha hb
   have key:0≤(bd1 d c n A B).o∧mn (bd1 d c n A B).o 9=mn (((if d=4 then n.toNat*oUL a else if d=3 then max (oUL a) (oUL b)else if d=1 then 1 else 0:Nat)):Int) 9:=by
    unfold nn3 at na nb;unfold bd1;by_cases h4:d=4
    · have hn:0≤n:=by omega
      rw[if_pos h4,if_pos h4];refine⟨Int.mul_nonneg hn na.2.1,?_⟩;have e:=X52 (C:=9) hn na.2.1 (Int.natCast_nonneg (oUL a)) (Int.le_refl 0) (Int.le_refl 0) ha;simp only[Int.zero_add]at e;rw[e,Int.natCast_mul,Int.toNat_of_nonneg hn]
    rw[if_neg h4,if_neg h4];by_cases h3:d=3
    · rw[if_pos h3,if_pos h3];simp only[mx,mn]at ha hb⊢;have e:((max (oUL a) (oUL b):Nat):Int)=max (oUL a:Int) (oUL b:Int):=by omega
      rw[e];refine⟨by split<;>omega,?_⟩
      (repeat' split at ha)<;>(repeat' split at hb)<;>(repeat' split)<;>omega
    rw[if_neg h3,if_neg h3];split<;>exact⟨by simp only;omega,rfl⟩
   obtain⟨k0,k1⟩:=key;generalize(bd1 d c n A B)=X at*;generalize(if d=4 then n.toNat*oUL a else if d=3 then max (oUL a) (oUL b)else if d=1 then 1 else 0:Nat)=K at*
   have e:0≤(Qi CR p X).o∧mn (Qi CR p X).o 9=mn (p.o+K) 9:=by
    simp only[Qi,CR];simp only[mn]at k1⊢;refine⟨by split<;>omega,?_⟩
    (repeat' split at k1)<;>(repeat' split)<;>omega
   have il:=X7D l (Qi CR p X) h.2 e.1;rw[il];have e2:=e.2;generalize(Qi CR p X).o=Y at*;simp only[mn]at e2⊢;rw[Int.natCast_add]
   (repeat' split at e2)<;>(repeat' split)<;>omega
theorem Wz {f:Fl} (h:Qf f=0):X16 f=true∧ZF f.vars=0∧hcs f.vars [] f.hats=0∧ssC f.vars f.hats.length f.body true=0∧X6t f.body=false:=by
 unfold Qf at h;split at h
 · cases h
 rename_i hs;split at h
 · rename_i hv;split at h
   · rename_i hh;split at h
     · rename_i hb;split at h
       · cases h
       rename_i ho;exact⟨by simpa using hs,hv,hh,hb,by simpa using ho⟩
     rename_i hb;exact absurd h hb
   rename_i hh;exact absurd h hh
 rename_i hv;exact absurd h hv
theorem Xaw {l:List St} (h:X6t l=false):(bdL CR l ⟨0,0,0⟩).s≤4096∧(bdL CR l ⟨0,0,0⟩).o≤8∧(bdL CR l ⟨0,0,0⟩).t≤67108864:=by
 unfold X6t at h;simp only[Bool.or_eq_false_iff,decide_eq_false_iff_not,Int.not_lt]at h;exact⟨h.1,h.2.1,h.2.2⟩
theorem Xbd {f:Fl} (hb:Wj f.body=true) (h:Qf f=0):wfL f.vars f.hats.length f.body=true∧oUL f.body≤2000000∧∀h∈f.hats,W3 f.vars true h.term=true:=by
 obtain⟨_,_,hh,hs,ho⟩:=Wz h;have h8:=(Xaw ho).2.1;have hc:=X7D f.body ⟨0,0,0⟩ (X2x _ _ hs) (Int.le_refl 0);refine⟨X86 _ _ hs hb,?_,X8V _ _ hh⟩;simp only[Int.zero_add,mn]at hc
 (repeat' split at hc)<;>omega
end Go.Proofs.YtppjennamodfdaaGreat

namespace Go.Proofs.YtppjennamodfdaaGreat
open Go Go.Hl
structure Sm (f:Fl):Prop where
 vars:f.vars.length≤1000
 hats:f.hats.length≤1000
 nodes:Xj f.body+QE f.hats≤1000
 bnd:Wj f.body=true
mutual
theorem szN_le:∀s:St,szN s≤2*szS s
 | .mk _ _ _ _ _ a b _=>by have:=X3h a;have:=X3h b;simp only[szN,szS];omega
theorem X3h:∀l:List St,X02 l≤2*szL l
 |[]=>by simp[X02]
 |s::l=>by have:=szN_le s;have:=X3h l;simp only[X02,szL];omega
end
theorem Sm.sz {f:Fl} (h:Sm f):szL f.body≤1000:=Nat.le_trans (Qu f.body) (by have:=h.nodes;omega)
theorem X1C {f:Fl} (h:Qf f=0):gL f.body=true:=X8t f.body true (Wz h).2.2.2.1
mutual
theorem wdS_le:∀s:St,wdS s≤2*szS s
 | .mk o _ _ _ _ a b _=>by have:=X2q a;have:=X2q b;simp only[wdS,szS];split<;>omega
theorem X2q:∀l:List St,wdL l≤2*szL l
 |[]=>by simp[wdL]
 |s::l=>by have:=wdS_le s;have:=X2q l;simp only[wdL,szL];omega
end
theorem X3i {l:List St} (h:gL l=true):(grN l).length=2+wdL l:=by
 simp only[grN,List.length_cons,List.length_append,W0 l _ _ _ h,List.length_nil];omega
abbrev grC (l:List St):CD:=.sl 4 (XD (grN l))
theorem X7w (f:Fl) (h:Sm f) (d:Nat):Con Tryz.prog 122 false [aF f] (.tup [.agg [.c (if Qf f=0 then grC f.body else .lit XU)],li (Qf f)]) none d:=by
 have cc:=X5h f (by have:=h.vars;omega) (by have:=h.hats;omega) (by have:=h.nodes;omega) h.bnd;have cb:=X6H f (by have:=h.sz;have:=X3h f.body;omega);have hg:=@X1C f;have he:=Xbf f.body;obtain⟨vars,hats,body⟩:=f;simp only at he hg;obtain⟨C,hC⟩:∃x,Qf ⟨vars,hats,body⟩=x:=⟨_,rfl⟩;rw[hC]at cc hg⊢;refine X5 Tryz.func122 ?_;simp only[Tryz.f122];simp only[aF,Fl.enc,List.map_cons,List.map_nil]at cc cb⊢;refine X2 ?_;refine X0<|X0<|(Xm [⟨true,.v (li C),none⟩] ?_ ?_)
 · first|exact cc _|exact trivial|simpa[*]using cc _
 refine X2 ?_;refine(Xc rfl (fun h3=>?_) fun h3=>?_)
 · (try simp only[BN]at h3);have hz:¬C=0:=by simpa using h3
   clear h3 he hg cb;refine X0<|(Xl (by simp[*,XA,Qb,XN,cellsOf,Qc];rfl) ?_);exact XR ⟨.inr rfl,_,le_refl _,⟨_,by simp;rfl,by simp[XK,hz,XU,li]⟩,by simp,fun h=>by cases h⟩
 (try simp only[BN]at h3);have hz:C=0:=by simpa using h3
 have he:=he (hg hz);rw[he]at cb;clear h3 he hg;refine X0<|(QS [⟨false,.v (.agg [.c (.sl 4 (XD (grN body)))]),none⟩] (by simp[*,cellsOf,Qc];first|exact⟨rfl,Iff.rfl⟩|exact⟨rfl,trivial⟩|rfl) ?_ ?_)
 · first|exact cb _|exact trivial|simpa[*,cellsOf,Qc]using cb _
 exact XR ⟨.inr rfl,_,le_refl _,⟨_,by simp;rfl,by simp[XK,hz,li]⟩,by simp,fun h=>by cases h⟩
@[simp] theorem fsN:flatS Tryz.prog 143=some [true,true,true,true]:=by kernel_rfl
@[simp] theorem arN:arrI Tryz.prog 143=none:=by kernel_rfl
theorem eqN_con (a:List Nd) (ha:a.length≤1000000000) (d:Nat):Con Tryz.prog 170 true [.one (.c (.sl 4 (XD a))),.one (.c (.sl 4 (XD a)))] (.v (lb true)) none d:=by
 refine X5 Tryz.func170 ?_;simp only[Tryz.f170];refine X2 ?_;refine X0<|X0<|X1 ?_;refine(Xc rfl (fun h2=>?_) fun h2=>?_)
 · cases h2
 (try simp only[BN]at h2);refine X0<|X0<|X1 ?_;refine X3<|(Xb [0,1,12] (fun(z:Nat)=>[(13,.v (li z))]) (fun z=>[]) (fun z=>z≤a.length) (fun z=>a.length - z) (0:Nat) (Nat.zero_le _) ?_ ?_)
 · exact X4 (fun n=>n) []
 rintro k hk;simp only[upS,X6,Xw]
 try simp only[X6,KN,Nat.reduceBEq,if_true,if_false,ins,Nat.reduceLT]
 refine X2 ?_;refine X0<|(X7 rfl (fun h8=>X9 ?_) (fun h8=>?_))
 · (try simp only[BN]at h8);have hlt:k<a.length:=by omega
   obtain⟨x,he,_⟩:=Xo hlt;have hw1:=Xy hlt (by omega);have hk1:k+1≤a.length:=hlt;have he':=ZE he;simp only[Nd.enc]at he';clear hlt h8 he;refine X0<|X3<|X0<|X1 ?_;refine X0<|(Q4 (by kernel_rfl) (by kernel_rfl) (by rfl) (by simp[*];rfl) ?_);refine(Xc rfl (fun h11=>?_) fun h11=>?_)
   · cases h11
   (try simp only[BN]at h11);refine X1 ?_;exact⟨k+1,hk1,by omega,X4 (fun n=>n) []⟩
 (try simp only[BN]at h8);refine(Xf ?_);refine X2 ?_;exact Xe
theorem X83 (f:Fl) (h:Sm f) (h0:Qf f=0) (d:Nat):Con Tryz.prog 147 true [aF f,.agg [.c (grC f.body)]] (.v (li 0)) none d:=by
 have cc:=X5h f (by have:=h.vars;omega) (by have:=h.hats;omega) (by have:=h.nodes;omega) h.bnd;have cb:=X6H f (by have:=h.sz;have:=X3h f.body;omega);rw[Xbf f.body (X1C h0)]at cb;have hlen:=X3i (X1C h0);have ce:=eqN_con (grN f.body) (by have:=h.sz;have:=X2q f.body;omega);obtain⟨vars,hats,body⟩:=f;rw[h0]at cc;clear h h0 hlen;simp only at ce cb;refine X5 Tryz.func147 ?_;simp only[Tryz.f147];simp only[aF,Fl.enc,List.map_cons,List.map_nil]at cc cb⊢;refine X2 ?_;refine X0<|X0<|(Xm [⟨true,.v (li 0),none⟩] ?_ ?_)
 · first|exact cc _|exact trivial|simpa[*]using cc _
 refine X2 ?_;refine(Xc rfl (fun h3=>?_) fun h3=>?_)
 · exact Bool.noConfusion h3
 (try simp only[BN]at h3);refine X0<|X0<|(Q7 [⟨false,.v (.agg [.c (.sl 4 (XD (grN body)))]),none⟩,⟨true,.v (lb true),none⟩] (by kernel_rfl) (by kernel_rfl) (by rfl) (by simp[*];first|exact⟨rfl,Iff.rfl⟩|exact⟨rfl,trivial⟩|rfl) ?_ ?_)
 · first|exact⟨cb _,ce _⟩|exact trivial|(repeat' first|exact trivial|exact cb _|exact ce _|apply And.intro)
 refine(Xc rfl (fun h7=>?_) fun h7=>?_)
 · exact Bool.noConfusion h7
 (try simp only[BN]at h7);refine X2 ?_;exact Xe
end Go.Proofs.YtppjennamodfdaaGreat

namespace Go.Proofs.YtppjennamodfdaaGreat
open Go Go.Hl
mutual
def flS:St→List St
 | .mk d c v n t a b bs=>.mk d c v n t a b bs::(flL a++flL b)
def flL:List St→List St
 |[]=>[]
 |s::l=>flS s++flL l
end
theorem X9V (s:St):flS s=s::(flL s.then_++flL s.else_):=by cases s;rfl
mutual
theorem XaX:∀s:St,(flS s).length=szS s
 | .mk _ _ _ _ _ a b _=>by simp only[flS,szS,List.length_cons,List.length_append,XT a,XT b];omega
theorem XT:∀l:List St,(flL l).length=szL l
 |[]=>rfl
 |s::l=>by simp only[flL,szL,List.length_append,XaX s,XT l]
end
theorem Qq (a b:List St):X8 (a++b)=X8 a++X8 b:=by rw[QZ,QZ,QZ,List.map_append]
theorem X9w (l:List St):szL l≤1000→∀d:Nat,Con Tryz.prog 148 false [lS l] (.v (lS (flL l))) none d:=by
 revert l
 apply St.lists;intro l ih hn d;have hlen:=X5b l;obtain⟨res,hres⟩:∃r,flL l=r:=⟨_,rfl⟩;rw[hres];refine X5 Tryz.func148 ?_;simp only[Tryz.f148];refine X0<|(Xl (by simp[*,Qq,X8];rfl) ?_);refine X0<|(Xl (by simp[*,Qq,X8];rfl) ?_);refine X0<|X0<|(Xl (by simp[*,Qq,X8];rfl) ?_);refine X3<|(Xb [6,7] (fun(x:Nat×List St)=>[(3,.v (.one (.own 1003))),(8,.v (li x.1))]) (fun x=>[(1003,.row 76 10 (X8 x.2))]) (fun x=>x.1≤l.length∧x.2++flL (l.drop x.1)=res∧x.2.length+szL (l.drop x.1)≤1000) (fun x=>l.length - x.1) (0,[]) ⟨Nat.zero_le _,by simpa using hres,by simpa using hn⟩ ?_ ?_)
 · exact Xu (fun n=>n) [1003] rfl (by simp[*,upS,X6,Qq,X8]) (by simp[*,upS]) (by simp[upS])
 rintro⟨k,acc⟩ ⟨hk,hJ,hal⟩;simp only[upS,X6,Xw]
 try simp only[X6,KN,Nat.reduceBEq,if_true,if_false,ins,Nat.reduceLT]
 simp only at hk hJ hal;clear hres;refine X0<|(Xl (by simp[*,Qq,X8];rfl) ?_);refine X0<|(X7 rfl (fun h5=>X9 ?_) (fun h5=>?_))
 · (try simp only[BN]at h5);have hlt:k<l.length:=by omega
   obtain⟨s,he,hd⟩:=Xo hlt;have hw1:=Xy hlt (by omega);have hk1:k+1≤l.length:=hlt;have hmem:s∈l:=List.mem_of_getElem? he;rw[hd]at hJ hal;simp only[flL,X9V]at hJ;simp only[szL]at hal;have he':=XX he;have iha:=(ih s hmem).1;have ihb:=(ih s hmem).2;obtain⟨so,sc,sv,sn,⟨to,tn,tk⟩,sa,sb,sbs⟩:=s;simp only[St.then_,St.else_]at iha ihb hJ;simp only[szS]at hal;have iha:=iha (by omega);have ihb:=ihb (by omega);have la:=XT sa;have lb:=XT sb;obtain⟨A,hA⟩:∃x,flL sa=x:=⟨_,rfl⟩;obtain⟨B,hB⟩:∃x,flL sb=x:=⟨_,rfl⟩;rw[hA]at iha hJ la;rw[hB]at ihb hJ lb;have r1:Q9 (acc.length+1) 144:=Xv (by omega) (by decide);have r2:Q9 (acc.length+1+A.length) 144:=Xv (by omega) (by decide);have r3:Q9 (acc.length+(A.length+1)+B.length) 144:=Xv (by omega) (by decide);rw[la]at r2 r3;rw[lb]at r3;simp only[St.enc,Tm.enc,List.cons_append,List.nil_append]at he';clear hlt h5 ih hmem he hd hA hB;refine X0<|X3<|X0<|(Xl (by simp[*,Qq,X8];rfl) ?_);refine X0<|(Xl (by simp[*,Qq,X8,XA,Qb,XN];rfl) ?_);refine X0<|(QS [⟨false,.v (lS A),none⟩] (by simp[*,Qq,X8];first|exact⟨rfl,Iff.rfl⟩|exact⟨rfl,trivial⟩|rfl) ?_ ?_)
   · first|exact iha _|exact trivial|simpa[*,Qq,X8]using iha _
   refine(QS [⟨false,.v (lS B),none⟩] (by simp[*,Qq,X8];first|exact⟨rfl,Iff.rfl⟩|exact⟨rfl,trivial⟩|rfl) ?_ ?_)
   · first|exact ihb _|exact trivial|simpa[*,Qq,X8]using ihb _
   refine(Xl (by simp[*,Qq,X8];rfl) ?_);exact⟨(k+1,acc++(.mk so sc sv sn (.mk to tn tk) sa sb sbs::(A++B))),⟨hk1,by simpa using hJ,by simp only[List.length_append,List.length_cons];omega⟩,by simp only;omega,Xu (fun n=>if n=1003 then 25 else n) [] rfl (by simp[upS,X6, *,Qq,X8]) (by simp[*,upS,Qq,X8]) (by simp[upS])⟩
 (try simp only[BN]at h5);have hkl:k=l.length:=by omega
 subst hkl;simp only[List.drop_length,flL,List.append_nil]at hJ;subst hJ;clear h5 ih;refine(Xf ?_);refine Xz (XO 1003 rfl) ?_;refine X0<|(Xl (by simp[*,Qq,X8];rfl) ?_);exact XR ⟨.inr rfl,_,le_refl _,⟨⟨_,by simp;rfl,by simp[XK]⟩,by simp,fun h=>by cases h⟩⟩
end Go.Proofs.YtppjennamodfdaaGreat

namespace Go.Proofs.YtppjennamodfdaaGreat
open Go Go.Hl
def QF (steps:List St) (d:Nat):Int:=match steps[d]? with
 |some s=>s.var
 |none=>(d:Int) - steps.length
def XB (l:List Nat):List (List CD):=l.map fun d:Nat=>[iC d]
@[simp] theorem len_encD (l:List Nat):(XB l).length=l.length:=by simp[XB]
@[simp] theorem X5v (a b:List Nat):XB (a++b)=XB a++XB b:=by simp[XB]
@[simp] theorem X3q:XB []=[]:=rfl
@[simp] theorem encD_one (a:Nat):XB [a]=[[iC a]]:=rfl
def mpI (l:List Nat):List (Value×CD):=l.map fun d:Nat=>(.int .i64 d,bC true)
@[simp] theorem X50 (l:List Nat):(mpI l).length=l.length:=by simp[mpI]
theorem X51 {l:List Nat} {j:Nat} {k:Value} {v:CD} (h:(mpI l)[j]? =some (k,v)):∃d:Nat,l[j]? =some d∧k=.int .i64 d∧v=bC true:=by
 simp only[mpI,List.getElem?_map,Option.map_eq_some_iff]at h;obtain⟨d,hd,he⟩:=h;cases he;exact⟨d,hd,rfl,rfl⟩
def setsC (S:List (List Nat)):CD:=.sl 1 (S.map fun l=>[.mp (mpI l)])
theorem X9C {steps:List St} {d:Nat} (s:St) (h:steps[d]? =some s):QF steps d=s.var:=by simp[QF,h]
theorem X9Q {steps:List St} {d:Nat} (h:steps.length≤d):QF steps d=(d:Int) - steps.length:=by simp[QF,List.getElem?_eq_none h]
theorem X81 (steps:List St) (n:Nat) (hn:n≤1000000) (hl:steps.length≤1000000) (d:Nat):Con Tryz.prog 149 true [li n,.one (.c (.ptr [.sl 10 (X8 steps)]))] (.v (li (QF steps n))) none d:=by
 obtain⟨res,hres⟩:∃x,QF steps n=x:=⟨_,rfl⟩;rw[hres];refine X5 Tryz.func149 ?_;simp only[Tryz.f149];refine X2 ?_;refine X0<|X0<|X1 ?_;refine(Xc rfl (fun h2=>?_) fun h2=>?_)
 · (try simp only[BN]at h2);have hge:steps.length≤n:=by simpa using h2
   rw[X9Q hge]at hres;have hw:IntKind.i64.wrap ((n:Int) - steps.length)=(n:Int) - steps.length:=Xa (by omega) (by omega);clear h2;refine X2 ?_;exact Xe
 (try simp only[BN]at h2);have hlt:n<steps.length:=by simpa using h2
 obtain⟨s,he,_⟩:=Xo hlt;have he':=XX he;rw[X9C s he]at hres;obtain⟨so,sc,sv,sn,⟨to,tn,tk⟩,sa,sb,sbs⟩:=s;simp only[St.enc,Tm.enc,List.cons_append,List.nil_append]at he';simp only[St.var]at hres;clear h2 he hlt;refine X2 ?_;exact Xe
def Ql (steps:List St) (x:Nd):Bool:=decide (x.k=2)&&(match steps[x.a.toNat]? with
 |some s=>decide (s.do_=0)||decide (s.do_=5)
 |none=>false)
def X0B (steps:List St) (x:Nd):Int:=match steps[x.a.toNat]? with
 |some s=>s.var
 |none=>0
def X4S (steps:List St) (nv:Nat) (Si:List Nat) (x:Nd):List Nat:=
 if x.k=0 then(List.range nv).map fun v=>steps.length+v
 else Si.filter (fun d=> !Ql steps x||decide (QF steps d≠X0B steps x))++if Ql steps x=true then [x.a.toNat] else []
def aftΦ (steps:List St) (nv:Nat) (Si:List Nat) (x:Nd) (l:List Nat):Prop:=(∀d,d∈l↔d∈X4S steps nv Si x)∧l.length≤5000
theorem QA {seen:List Nat} {n:Nat} (h:seen.Nodup) (hl:∀j∈seen,j<n):seen.length≤n:=by
 induction n generalizing seen with
 | zero=>
   cases seen with
   |nil=>simp
   |cons x l=>exact absurd (hl x (by simp)) (by omega)
 | succ n ih=>
   have h1:=ih (h.erase n) fun j hj=>by
    have h2:=(h.mem_erase_iff).1 hj;have:=hl j h2.2;omega
   have:=List.length_erase_of_mem (a:=n) (l:=seen);by_cases hm:n∈seen
   · rw[this hm]at h1;omega
   rw[List.erase_of_not_mem hm]at h1;omega
abbrev kC (steps:List St):CD:=.fn 149 [.ptr [.sl 10 (X8 steps)]]
theorem out_all {Si seen out:List Nat} {p:Nat→Bool} (hall:∀j:Nat,j<(mpI Si).length→j∈seen) (h:∀d,d∈out↔∃j∈seen,Si[j]? =some d∧p d=true) (d:Nat):d∈out↔d∈Si.filter p:=by
 rw[h,List.mem_filter];constructor
 · rintro⟨j,_,h1,h2⟩;exact⟨List.mem_of_getElem? h1,h2⟩
 rintro⟨h1,h2⟩;obtain⟨j,hj⟩:=List.mem_iff_getElem?.1 h1;exact⟨j,hall j (by rw[X50];exact(List.getElem?_eq_some_iff.1 hj).1),hj,h2⟩
theorem X4e (l:List Nat):(Ob.row 3 1 (XB l)).lits:=by
 intro r hr c hc;simp only[XB,List.mem_map]at hr;obtain⟨_,_,rfl⟩:=hr;rw[List.mem_singleton.1 hc];exact⟨_,rfl⟩
def X04 (l:List Nat) (n:Nat):Prop:=∀j∈l,j<n
set_option maxHeartbeats 4000000 in
theorem XcD (f:Fl) (N:List Nd) (steps:List St) (S:List (List Nat)) (i:Nat) (x:Nd) (Si:List Nat) (hx:N[i]? =some x) (hS:S[i]? =some Si) (hs:steps.length≤1000) (hv:f.vars.length≤1000) (hSi:Si.length≤2000) (hSb:∀d∈Si,d≤1000000) (ha:(x.k≠2∧x.a=-1)∨∃m:Nat,x.a=m∧m<steps.length) (dd:Nat) (hdd:dd<1000000):
  ConF (X:=List Nat) Tryz.prog 150 true [li i,.one (.c (.ptr [.sl 4 (XD N)])),.one (.c (.ptr f.enc)),.one (.c (.ptr [.sl 10 (X8 steps)])),.one (.c (.ptr [setsC S])),.one (.c (.ptr [kC steps]))] (aftΦ steps f.vars.length Si x) (fun _=>.v (.one (.own dd))) (fun l=>some (.row 3 1 (XB l))) dd:=by
 have hx':=ZE hx;have hSr:(S.map fun l=>[CD.mp (mpI l)])[i]? =some [CD.mp (mpI Si)]:=by simp[hS]
 obtain⟨vars,hats,body⟩:=f;obtain⟨xk,xa,xn,xo⟩:=x;simp only at hv;simp only[Nd.enc]at hx';clear hx hS;refine X8n Tryz.func150 rfl (by kernel_rfl) (Nat.le_of_ble_eq_true rfl) ?_;simp only[Tryz.f150];simp only[Fl.enc,setsC];refine X2 ?_;refine X2 ?_;refine X2 ?_;refine X0<|X0<|X1 ?_;refine(Xc rfl (fun h4=>?_) fun h4=>?_)
 · (try simp only[BN]at h4);have hk:xk=0:=by simpa using h4
   clear h4 ha;refine X0<|X0<|X1 ?_;refine X3<|(Xb [3,23] (fun(y:Nat)=>[(9,.v (.one (.own 900001))),(24,.v (li y))]) (fun y=>[(900001,.row 3 1 (XB ((List.range y).map fun v=>steps.length+v)))]) (fun y=>y≤vars.length) (fun y=>vars.length - y) (0:Nat) (Nat.zero_le _) ?_ ?_)
   · exact X4 (fun n=>n) [900001]
   rintro y hy;simp only[upS,X6,Xw]
   try simp only[X6,KN,Nat.reduceBEq,if_true,if_false,ins,Nat.reduceLT]
   refine X2 ?_;refine X0<|(X7 rfl (fun h8=>X9 ?_) (fun h8=>?_))
   · (try simp only[BN]at h8);have hlt:y<vars.length:=by omega
     have hw1:=Xy hlt (by omega);have hk1:y+1≤vars.length:=hlt;have hw2:IntKind.i64.wrap ((steps.length:Int)+y)=steps.length+y:=Xa (by omega) (by omega);have hroom:Q9 (y+1) 8:=Xv (by omega) (by decide)
     have hsn:XB ((List.range (y+1)).map fun v=>steps.length+v)=XB ((List.range y).map fun v=>steps.length+v)++[[iC ((steps.length:Int)+y)]]:=by
      rw[List.range_succ,List.map_append,X5v];simp
     clear hlt h8 hx' hSr;refine X0<|X3<|X0<|X1 ?_;refine X1 ?_;refine X1 ?_;exact⟨y+1,hk1,by omega,X4 (fun n=>if n=900001 then 33 else n) []⟩
   (try simp only[BN]at h8);have hkl:y=vars.length:=by omega
   subst hkl;refine(Xf ?_);refine X2 ?_;exact XR ⟨.inr rfl,(List.range vars.length).map fun v=>steps.length+v,⟨fun d=>by simp only[X4S,if_pos hk],by simp;omega⟩,_,X7R 7 900001 dd (by simp) rfl hdd,⟨⟨_,by simp;rfl,by simp[XK]⟩,by simp,fun _=>⟨rfl,fun o ho=>by cases ho;exact X4e _⟩⟩⟩
 (try simp only[BN]at h4);have hk:¬xk=0:=by simpa using h4
 clear h4;refine XL [0,3,4,5,8,9] (fun(z:Bool)=>[(11,.v (lb z))]) (fun(z:Bool)=>[(8,.box [.c (iC xk),.c (iC xa),.c (iC xn),.c (iC xo)])]) (fun(z:Bool)=>z=Ql steps ⟨xk,xa,xn,xo⟩) ?_ ?_
 · rcases ha with⟨h2,rfl⟩|⟨m,rfl,hm⟩
   · simp only at h2;refine XP ?_;refine RunsN.cutE 7 [] (by simp[*];rfl) trivial (le_refl _) ?_;refine RunsN.skip (.bool false) (by simp[QH]) (by rfl) ?_;refine RunsN.skip (.bool false) (by simp[QH]) (by rfl) ?_;refine RunsN.skip (.bool false) (by simp[QH]) (by rfl) ?_;refine RunsN.skip (.bool false) (by simp[QH]) (by rfl) ?_;refine RunsN.skip (.bool false) (by simp[QH]) (by rfl) ?_;refine RunsN.cutE 3 [] (by simp[*];rfl) trivial (le_refl _) ?_;refine RunsN.skip (.bool false) (by simp[QH]) (by rfl) ?_;refine RunsN.skip (.bool false) (by simp[QH]) (by rfl) ?_;refine RunsN.skip (.bool false) (by simp[QH]) (by rfl) ?_;refine RunsN.skip (.bool false) (by simp[QH]) (by rfl) ?_;refine RunsN.doneE [] (by simp[*];rfl) trivial ?_;refine⟨_,rfl,Xu (fun n=>n) [] rfl (by simp[upS,X6,Ql,h2]) (by simp[upS]) (by simp[upS])⟩
   obtain⟨q,he,_⟩:=Xo hm;have he':=XX he;obtain⟨so,sc,sv,sn,⟨to,tn,tk⟩,sa,sb,sbs⟩:=q;simp only[St.enc,Tm.enc,List.cons_append,List.nil_append]at he';clear hm;by_cases h2:xk=2
   · refine Xl (by simp[*];rfl) ?_;refine⟨_,rfl,Xu (fun n=>n) [] rfl (by simp[upS,X6,Ql,h2,he,St.do_]<;>rfl) (by simp[upS,h2]) (by simp[upS])⟩
   refine Xl (by simp[*];rfl) ?_;refine⟨_,rfl,Xu (fun n=>n) [] rfl (by simp[upS,X6,Ql,h2]) (by simp[upS]) (by simp[upS])⟩
 rintro z hz;simp only[upS,X6,Xw]
 try simp only[X6,KN,Nat.reduceBEq,if_true,if_false,ins,Nat.reduceLT]
 have hz2:(xa=-1∧z=false)∨∃(m:Nat) (o c v n t1 t2:Int) (tk:List Tm) (sa sb:List St) (sbs:List Int),xa=m∧(X8 steps)[m]? =some [iC o,iC c,iC v,iC n,iC t1,iC t2,.sl 3 (Xn tk),.sl 10 (X8 sa),.sl 10 (X8 sb),.sl 1 (Xi sbs)]∧X0B steps ⟨xk,xa,xn,xo⟩=v:=by
  rcases ha with⟨h2,rfl⟩|⟨m,rfl,hm⟩
  · refine .inl ⟨rfl,?_⟩;simp only at h2;rw[hz];simp[Ql,h2]
  obtain⟨q,he,_⟩:=Xo hm;have he':=XX he;obtain⟨so,sc,sv,sn,⟨to,tn,tk⟩,sa,sb,sbs⟩:=q;exact .inr ⟨m,so,sc,sv,sn,to,tn,tk,sa,sb,sbs,rfl,he',by simp[X0B,he,St.var]⟩
 obtain⟨V,hV⟩:∃x,X0B steps ⟨xk,xa,xn,xo⟩=x:=⟨_,rfl⟩
 have haft:∀d,d∈X4S steps vars.length Si ⟨xk,xa,xn,xo⟩↔d∈Si.filter (fun d=> !z||decide (QF steps d≠V))++if z=true then [xa.toNat] else []:=by
  intro d;simp only[X4S,if_neg hk,←hz,hV]
 rw[hV]at hz2;clear hz hV ha;refine X0<|X0<|X1 ?_;refine X3<|(Xb [3,5,8,11,61] (fun(y:List Nat×List Nat)=>[(9,.v (.one (.own 900001)))]) (fun y=>[(8,.box [.c (iC xk),.c (iC xa),.c (iC xn),.c (iC xo)]),(61,.it (mpI Si) y.1),(900001,.row 3 1 (XB y.2))]) (fun y=>y.1.Nodup∧X04 y.1 Si.length∧(∀d,d∈y.2↔∃j∈y.1,Si[j]? =some d∧(!z||decide (QF steps d≠V))=true)∧y.2.length≤y.1.length) (fun y=>Si.length - y.1.length) ([],[]) ⟨List.nodup_nil,by simp[X04],by simp,Nat.le_refl _⟩ ?_ ?_)
 · exact X4 (fun n=>n) [900001]
 rintro⟨seen,out⟩ ⟨j1,j2,j3,j4⟩;simp only[upS,X6,Xw]
 try simp only[X6,KN,Nat.reduceBEq,if_true,if_false,ins,Nat.reduceLT]
 simp only at j1 j2 j3 j4;refine X1v (fun j k v hj hn=>?_) (fun hall=>?_)
 skip
 · (try simp only[BN]at h19);obtain⟨d,hd,rfl,rfl⟩:=X51 hj;have hjl:j<Si.length:=(List.getElem?_eq_some_iff.1 hd).1
   have hnd:(seen++[j]).Nodup:=by
    rw[List.nodup_append];exact⟨j1,by simp,fun a ha b hb=>by rw[List.mem_singleton.1 hb];exact fun e=>hn (e▸ha)⟩
   have hin:X04 (seen++[j]) Si.length:=fun i hi=>by
    rcases List.mem_append.1 hi with h|h
    · exact j2 i h
    rw[List.mem_singleton.1 h];exact hjl
   have hle:=QA hnd hin;simp only[List.length_append,List.length_singleton]at hle;have hroom:Q9 (out.length+1) 8:=Xv (by omega) (by decide);have hdb:=hSb d (List.mem_of_getElem? hd);clear hjl;have cv:=X81 steps d hdb (by omega);refine X3<|X0<|X1 ?_;refine XL [3,5,8,9,11,12,61] (fun(q:Bool)=>[(79,.v (lb q))]) (fun(q:Bool)=>[(8,.box [.c (iC xk),.c (iC xa),.c (iC xn),.c (iC xo)]),(61,.it (mpI Si) (seen++[j])),(900001,.row 3 1 (XB out))]) (fun(q:Bool)=>q=(!z||decide (QF steps d≠V))) ?_ ?_
   · rcases hz2 with⟨rfl,rfl⟩|⟨m,po,pc,pv,pn,p1,p2,pk,pa,pb,pbs,rfl,he',rfl⟩
     · refine WH [none] (by kernel_rfl) (by kernel_rfl) (by rfl) (by simp[*];first|exact⟨rfl,Iff.rfl⟩|exact⟨rfl,trivial⟩|rfl) ?_ ?_
       · trivial
       exact⟨_,rfl,Xu (fun n=>n) [] rfl (by simp[upS,X6]) (by simp[upS]) (by simp[upS])⟩
     cases z with
     | false=>
       refine WH [none] (by kernel_rfl) (by kernel_rfl) (by rfl) (by simp[*];first|exact⟨rfl,Iff.rfl⟩|exact⟨rfl,trivial⟩|rfl) ?_ ?_
       · trivial
       exact⟨_,rfl,Xu (fun n=>n) [] rfl (by simp[upS,X6]) (by simp[upS]) (by simp[upS])⟩
     | true=>
       refine Q7 [⟨true,.v (li (QF steps d)),none⟩] (by kernel_rfl) (by kernel_rfl) (by rfl) (by simp[*];first|exact⟨rfl,Iff.rfl⟩|exact⟨rfl,trivial⟩|rfl) ?_ ?_
       · first|exact cv _|simpa using cv _
       exact⟨_,rfl,Xu (fun n=>n) [] rfl (by simp[upS,X6]) (by simp[upS]) (by simp[upS])⟩
   rintro q hq;simp only[upS,X6,Xw]
   try simp only[X6,KN,Nat.reduceBEq,if_true,if_false,ins,Nat.reduceLT]
   refine(Xc rfl (fun h22=>?_) fun h22=>?_)
   · (try simp only[BN]at h22);have hp:(!z||decide (QF steps d≠V))=true:=by rw[←hq];simpa using h22
     have hmem:∀x,x∈out++[d]↔∃i∈seen++[j],Si[i]? =some x∧(!z||decide (QF steps x≠V))=true:=by
      intro x;rw[List.mem_append,j3,List.mem_singleton];constructor
      · rintro(⟨i,h1,h2⟩|rfl)
        · exact⟨i,List.mem_append_left _ h1,h2⟩
        exact⟨j,by simp,hd,hp⟩
      rintro⟨i,h1,h2,h3⟩;rcases List.mem_append.1 h1 with h1|h1
      · exact .inl ⟨i,h1,h2,h3⟩
      rw[List.mem_singleton.1 h1,hd]at h2;exact .inr (Option.some.inj h2).symm
     refine X1 ?_;exact⟨(seen++[j],out++[d]),⟨hnd,hin,hmem,by simp only[List.length_append,List.length_singleton];omega⟩,by simp only[List.length_append,List.length_singleton];omega,X4 (fun n=>if n=900001 then 83 else n) []⟩
   (try simp only[BN]at h22);have hp:(!z||decide (QF steps d≠V))=false:=by rw[←hq];simpa using h22
   have hmem:∀x,x∈out↔∃i∈seen++[j],Si[i]? =some x∧(!z||decide (QF steps x≠V))=true:=by
    intro x;rw[j3];constructor
    · rintro⟨i,h1,h2⟩;exact⟨i,List.mem_append_left _ h1,h2⟩
    rintro⟨i,h1,h2,h3⟩;rcases List.mem_append.1 h1 with h1|h1
    · exact⟨i,h1,h2,h3⟩
    rw[List.mem_singleton.1 h1,hd]at h2;rw[←Option.some.inj h2,hp]at h3;cases h3
   exact⟨(seen++[j],out),⟨hnd,hin,hmem,by simp only[List.length_append,List.length_singleton];omega⟩,by simp only[List.length_append,List.length_singleton];omega,X4 (fun n=>n) []⟩
 (try simp only[BN]at h19);have hout:=out_all hall j3;have hle:=QA j1 j2;have hroom:Q9 (out.length+1) 8:=Xv (by omega) (by decide);clear hall j1 j2 j3;refine(Xf ?_);refine X0<|X0<|X1 ?_;refine(Xc rfl (fun h27=>?_) fun h27=>?_)
 · (try simp only[BN]at h27);have hz':z=true:=by simpa using h27
   subst hz';obtain⟨m,po,pc,pv,pn,p1,p2,pk,pa,pb,pbs,rfl,_,_⟩:=hz2.resolve_left fun e=>Bool.noConfusion e.2;clear hz2;refine X1 ?_;refine X2 ?_;exact XR ⟨.inr rfl,out++[m],⟨fun d=>by rw[haft,List.mem_append,List.mem_append,hout];simp,by simp;omega⟩,_,X7R (e:=3) (sz:=1) (rows:=XB (out++[m])) 7 89 dd (by simp) (by simp[X5v]) hdd,⟨⟨_,by simp;rfl,by simp[XK]⟩,by simp[X5v],fun _=>⟨rfl,fun o ho=>by cases ho;exact X4e _⟩⟩⟩
 (try simp only[BN]at h27);have hz':z=false:=by simpa using h27
 subst hz';clear hz2;refine X2 ?_;exact XR ⟨.inr rfl,out,⟨fun d=>by rw[haft,hout];simp,by omega⟩,_,X7R 7 900001 dd (by simp) rfl hdd,⟨⟨_,by simp;rfl,by simp[XK]⟩,by simp,fun _=>⟨rfl,fun o ho=>by cases ho;exact X4e _⟩⟩⟩
end Go.Proofs.YtppjennamodfdaaGreat

namespace Go.Proofs.YtppjennamodfdaaGreat
open Go Go.Hl
def ZK (x:Nd) (to:Nat):Prop:=x.n=to∨x.o=to
instance (x:Nd) (to:Nat):Decidable (ZK x to):=by unfold ZK;exact inferInstance
inductive Rc (N:List Nd) (steps:List St) (nv:Nat):Nat→Nat→Prop
 |entry {i to v:Nat} {x:Nd}:N[i]? =some x→x.k=0→ZK x to→v<nv→Rc N steps nv to (steps.length+v)
 |pass {i to d:Nat} {x:Nd}:N[i]? =some x→x.k≠0→ZK x to→Rc N steps nv i d→(!Ql steps x||decide (QF steps d≠X0B steps x))=true→Rc N steps nv to d
 |gen {i to:Nat} {x:Nd}:N[i]? =some x→x.k≠0→ZK x to→Ql steps x=true→Rc N steps nv to x.a.toNat
open Classical in
noncomputable def rcL (N:List Nd) (steps:List St) (nv:Nat):List (List Nat):=(List.range N.length).map fun to=>(List.range (steps.length+nv)).filter fun d=>decide (Rc N steps nv to d)
structure Gs (N:List Nd) (steps:List St) (nv:Nat) (S:List (List Nat)):Prop where
 len:S.length=N.length
 nod:∀l∈S,l.Nodup
 lt:∀l∈S,∀d∈l,d<steps.length+nv
 snd:∀(to:Nat) l d,S[to]? =some l→d∈l→Rc N steps nv to d
def clo (N:List Nd) (steps:List St) (nv:Nat) (S:List (List Nat)) (i:Nat):Prop:=
 ∀x Si,N[i]? =some x→S[i]? =some Si→∀d∈X4S steps nv Si x,∀to l,ZK x to→S[to]? =some l→d∈l
theorem XaG {N:List Nd} {steps:List St} {nv i:Nat} {S:List (List Nat)} {x:Nd} {Si:List Nat} (g:Gs N steps nv S) (hx:N[i]? =some x) (hS:S[i]? =some Si) {d:Nat} (hd:d∈X4S steps nv Si x) {to:Nat} (ht:ZK x to):Rc N steps nv to d:=by
 unfold X4S at hd;split at hd
 · rename_i h0;obtain⟨v,hv,rfl⟩:=List.mem_map.1 hd;exact .entry hx h0 ht (by simpa using hv)
 rename_i h0;rcases List.mem_append.1 hd with h|h
 · obtain⟨h1,h2⟩:=List.mem_filter.1 h;exact .pass hx h0 ht (g.snd i Si d hS h1) h2
 split at h
 · rename_i ha;rw[List.mem_singleton.1 h];exact .gen hx h0 ht ha
 cases h
theorem rc_lt {N:List Nd} {steps:List St} {nv:Nat} {to d:Nat} (ha:∀x∈N,Ql steps x=true→x.a.toNat<steps.length) (h:Rc N steps nv to d):d<steps.length+nv:=by
 induction h with
 |entry _ _ _ hv=>omega
 |pass _ _ _ _ _ ih=>exact ih
 |gen hx _ _ h=>have:=ha _ (List.mem_of_getElem? hx) h;omega
theorem X9T {N:List Nd} {steps:List St} {nv:Nat} {S:List (List Nat)} (g:Gs N steps nv S) (hc:∀i,i<N.length→clo N steps nv S i) {to d:Nat} {l:List Nat} (hl:S[to]? =some l) (h:Rc N steps nv to d):d∈l:=by
 induction h generalizing l with
 | entry hx h0 ht hv=>
   rename_i i to v x;have hi:=(List.getElem?_eq_some_iff.1 hx).1;obtain⟨Si,hS,_⟩:=Xo (show i<S.length by rw[g.len];exact hi);refine hc i hi x Si hx hS _ ?_ to l ht hl;unfold X4S;rw[if_pos h0];exact List.mem_map.2 ⟨v,by simpa using hv,rfl⟩
 | pass hx h0 ht _ hk ih=>
   rename_i i to d x _;have hi:=(List.getElem?_eq_some_iff.1 hx).1;obtain⟨Si,hS,_⟩:=Xo (show i<S.length by rw[g.len];exact hi);refine hc i hi x Si hx hS _ ?_ to l ht hl;unfold X4S;rw[if_neg h0];exact List.mem_append_left _ (List.mem_filter.2 ⟨ih hS,hk⟩)
 | gen hx h0 ht h=>
   rename_i i to x;have hi:=(List.getElem?_eq_some_iff.1 hx).1;obtain⟨Si,hS,_⟩:=Xo (show i<S.length by rw[g.len];exact hi);refine hc i hi x Si hx hS _ ?_ to l ht hl;unfold X4S;rw[if_neg h0,if_pos h];simp
def srtN (l:List Nat):List Int:=(l.map Int.ofNat).mergeSort fun x y=>decide (x≤y)
theorem Xb9:∀{l m:List Nat},l.Pairwise (· < ·)→m.Pairwise (· < ·)→(∀x,x∈l↔x∈m)→l=m
 |[],[],_,_,_=>rfl
 |[],b::m,_,_,h=>absurd ((h b).2 (by simp)) (by simp)
 |a::l,[],_,_,h=>absurd ((h a).1 (by simp)) (by simp)
 | a ::l,b::m,hl,hm,h=>by
   rw[List.pairwise_cons]at hl hm
   have hab:a=b:=by
    rcases List.mem_cons.1 ((h a).1 (by simp))with e|e
    · exact e
    rcases List.mem_cons.1 ((h b).2 (by simp))with e2|e2
    · exact e2.symm
    have:=hm.1 a e;have:=hl.1 b e2;omega
   subst hab;congr 1;refine Xb9 hl.2 hm.2 fun x=>?_;constructor
   · intro hx;rcases List.mem_cons.1 ((h x).1 (by simp[hx]))with e|e
     · subst e;exact absurd (hl.1 x hx) (Nat.lt_irrefl _)
     exact e
   intro hx;rcases List.mem_cons.1 ((h x).2 (by simp[hx]))with e|e
   · subst e;exact absurd (hm.1 x hx) (Nat.lt_irrefl _)
   exact e
theorem XcF (n:Nat):(List.range n).Pairwise (· < ·):=List.pairwise_lt_range
theorem Xad {l:List Nat} {n:Nat} (hn:l.Nodup) {p:Nat→Bool} (h:∀x,x∈l↔x<n∧p x=true):Xi (srtN l)=XB ((List.range n).filter p):=by
 have h2:(l.mergeSort fun x y=>decide (x≤y))=(List.range n).filter p:=by
  refine Xb9 ?_ ((XcF n).filter _) fun x=>by rw[List.mem_mergeSort,h];simp
  have h3:=List.pairwise_mergeSort (le:=fun x y:Nat=>decide (x≤y)) (fun a b c h1 h2=>by simp at*;omega) (fun a b=>by simp;omega) l;have h4:(l.mergeSort fun x y=>decide (x≤y)).Nodup:=(List.mergeSort_perm l _).nodup_iff.2 hn;refine(List.pairwise_and_iff.2 ⟨h3,h4⟩).imp fun {a b} ⟨h5,h6⟩=>?_;have h5:a≤b:=by simpa using h5
  have h6:a≠b:=h6;omega
 rw[←h2];unfold srtN Xi XB
 have:(l.map Int.ofNat).mergeSort (fun x y=>decide (x≤y))=(l.mergeSort fun x y=>decide (x≤y)).map Int.ofNat:=by
  rw[List.map_mergeSort];intro a _ b _;simp
 rw[this,List.map_map];rfl
def Qa (rows:List (List Nat)):List (List CD):=rows.map fun l=>[.sl 1 (XB l)]
@[simp] theorem len_encDD (l:List (List Nat)):(Qa l).length=l.length:=by simp[Qa]
theorem X1M (d:Nat):∀l:List Nat,X2f (.int .i64) (.int .i64 d) (mpI l)=some (if d∈l then some (bC true)else none)
 |[]=>rfl
 | k ::l=>by
   have e:mpI (k::l)=(.int .i64 k,bC true)::mpI l:=rfl;rw[e];unfold X2f
   have h1:Instr.sameNow (.int .i64) (.int .i64 (d:Int)) (.int .i64 (k:Int))=some (decide (d=k)):=by
    have h2:((d:Int)==(k:Int))=decide (d=k):=by
     rw[Bool.eq_iff_iff];simp only[beq_iff_eq,decide_eq_true_eq];omega
    simp[Instr.sameNow,h2]
   rw[h1];by_cases hk:d=k
   · subst hk;simp
   simp only[hk,decide_false,List.mem_cons,false_or];exact X1M d l
def Z1 (S:List (List Nat)):Nat:=(S.map List.length).sum
theorem Xco {S:List (List Nat)} {to:Nat} {l:List Nat} (h:S[to]? =some l) (d:Nat):Z1 (S.set to (l++[d]))=Z1 S+1:=by
 induction S generalizing to with
 |nil=>cases h
 | cons a S ih=>
   cases to with
   |zero=>cases h;simp[Z1];omega
   | succ to=>
     have:=ih (to:=to) h;simp only[Z1,List.set_cons_succ,List.map_cons,List.sum_cons]at this⊢;omega
theorem X9F {N:List Nd} {steps:List St} {nv:Nat} {S:List (List Nat)} (g:Gs N steps nv S):Z1 S≤N.length*(steps.length+nv):=by
 have key:∀S:List (List Nat),(∀l∈S,l.length≤steps.length+nv)→Z1 S≤S.length*(steps.length+nv):=by
  intro S
  induction S with
  |nil=>simp[Z1]
  | cons a S ih=>
    intro h;have h1:=h a (by simp);have h2:=ih fun l hl=>h l (by simp[hl]);simp only[Z1,List.map_cons,List.sum_cons,List.length_cons,Nat.add_mul,Nat.one_mul]at h2⊢;omega
 have:=key S fun l hl=>QA (g.nod l hl) (g.lt l hl)
 rwa [g.len]at this
theorem Gs.add {N:List Nd} {steps:List St} {nv to d:Nat} {S:List (List Nat)} {l:List Nat} (g:Gs N steps nv S) (hl:S[to]? =some l) (hd:d∉l) (hlt:d<steps.length+nv) (hr:Rc N steps nv to d):Gs N steps nv (S.set to (l++[d])):=by
 have hm:∀q∈S.set to (l++[d]),q∈S∨q=l++[d]:=fun q hq=>List.mem_or_eq_of_mem_set hq;refine⟨by rw[List.length_set];exact g.len,fun q hq=>?_,fun q hq x hx=>?_,fun i q x hq hx=>?_⟩
 · rcases hm q hq with h|rfl
   · exact g.nod q h
   rw[List.nodup_append];exact⟨g.nod l (List.mem_of_getElem? hl),by simp,fun a ha b hb=>by rw[List.mem_singleton.1 hb];exact fun e=>hd (e▸ha)⟩
 · rcases hm q hq with h|rfl
   · exact g.lt q h x hx
   rcases List.mem_append.1 hx with h|h
   · exact g.lt l (List.mem_of_getElem? hl) x h
   rw[List.mem_singleton.1 h];exact hlt
 rw[List.getElem?_set]at hq;split at hq
 · rename_i e;subst e;split at hq
   · cases hq;rcases List.mem_append.1 hx with h|h
     · exact g.snd to l x hl h
     rw[List.mem_singleton.1 h];exact hr
   cases hq
 exact g.snd i q x hq hx
end Go.Proofs.YtppjennamodfdaaGreat

namespace Go.Proofs.YtppjennamodfdaaGreat
open Go Go.Hl
def X1s (m:Nat) (t:Int):Prop:=t=-1∨∃k:Nat,t=k∧k<m
structure ndOK (m n:Nat) (x:Nd):Prop where
 hn:X1s m x.n
 ho:X1s m x.o
 ha:(x.k≠2∧x.a=-1)∨∃t:Nat,x.a=t∧t<n
theorem X1s.nat {m t:Nat} (h:t<m):X1s m (t:Int):=.inr ⟨t,rfl,h⟩
theorem X7N (s:St):1≤wdS s:=by cases s;simp only[wdS];split<;>omega
theorem X59 {l:List St} (h:l≠[]):1≤wdL l:=by
 cases l with
 |nil=>exact absurd rfl h
 |cons s l=>have:=X7N s;simp only[wdL];omega
theorem X1s.ite {m:Nat} {t e:Int} {l:List St} (h1:X1s m t) (h2:l≠[]→X1s m e):X1s m (if l=[] then t else e):=by
 split
 · exact h1
 rename_i h;exact h2 h
theorem X1s.mk {m:Nat} {t:Int} (k:Nat) (h:t=k) (hk:k<m):X1s m t:=.inr ⟨k,h,hk⟩
mutual
theorem layS_ok {m n:Nat}:∀(s:St) (p k after:Nat),gS s=true→p+szS s≤n→k+wdS s≤m→after<m→∀x∈X1p s p k after,ndOK m n x
 | .mk o c v q t a b bs,p,k,after,hg,hp,hk,haf,x,hx=>by
   simp only[gS,Bool.and_eq_true]at hg;simp only[szS]at hp;simp only[wdS]at hk;unfold X1p at hx;split at hx
   · rename_i h3;rw[if_neg (by omega)]at hk;rcases List.mem_cons.1 hx with rfl|hx
     · refine⟨.ite (.nat haf) fun h=>.mk (k+1) (by simp) (by have:=X59 h;omega),.ite (.nat haf) fun h=>.mk (k+1+wdL a) (by simp) (by have:=X59 h;omega),.inr ⟨p,rfl,(show p<n by omega)⟩⟩
     rcases List.mem_append.1 hx with hx|hx
     · exact X3B a (p+1) (k+1) after hg.2.1 (by omega) (by omega) haf x (by simpa using hx)
     exact X3B b (p+1+szL a) (k+1+wdL a) after hg.2.2 (by omega) (by omega) haf x (by simpa using hx)
   split at hx
   · rename_i h3 h4;rw[if_pos h4]at hk;rcases List.mem_cons.1 hx with rfl|hx
     · exact⟨.mk (k+1) (by simp) (by omega),.inl rfl,.inr ⟨p,rfl,(show p<n by omega)⟩⟩
     rcases List.mem_cons.1 hx with rfl|hx
     · exact⟨.ite (.mk (k+1) (by simp) (by omega)) fun h=>.mk (k+2) (by simp) (by have:=X59 h;omega),.nat haf,.inr ⟨p,rfl,(show p<n by omega)⟩⟩
     exact X3B a (p+1) (k+2) (k+1) hg.2.1 (by omega) (by omega) (by omega) x (by simpa using hx)
   rw[List.mem_singleton.1 hx];have:1≤wdS (St.mk o c v q t a b bs):=X7N _;exact⟨X1s.nat haf,.inl rfl,.inr ⟨p,rfl,(show p<n by omega)⟩⟩
theorem X3B {m n:Nat}:∀(l:List St) (p k after:Nat),gL l=true→p+szL l≤n→k+wdL l≤m→after<m→∀x∈Ws l p k after,ndOK m n x
 |[],_,_,_,_,_,_,_,x,hx=>by simp[Ws]at hx
 | s ::l,p,k,after,hg,hp,hk,haf,x,hx=>by
   simp only[gL,Bool.and_eq_true]at hg;simp only[szL]at hp;simp only[wdL]at hk;unfold Ws at hx;rcases List.mem_append.1 hx with hx|hx
   · refine layS_ok s p k _ hg.1 (by omega) (by omega) ?_ x hx;split
     · exact haf
     rename_i h;have:=X59 h;omega
   exact X3B l (p+szS s) (k+wdS s) after hg.2 (by omega) (by omega) haf x (by simpa using hx)
end
theorem X5U {l:List St} (hg:gL l=true):∀x∈grN l,ndOK (grN l).length (szL l) x:=by
 rw[X3i hg];intro x hx;unfold grN at hx;rcases List.mem_cons.1 hx with rfl|hx
 · refine⟨.ite (.mk (1+wdL l) (by simp) (by omega)) fun h=>.mk 1 rfl (by omega),.inl rfl,.inl ⟨by simp,rfl⟩⟩
 rcases List.mem_append.1 hx with hx|hx
 · exact X3B l 0 1 (1+wdL l) hg (by omega) (by omega) (by omega) x (by simpa using hx)
 rw[List.mem_singleton.1 hx];exact⟨.inl rfl,.inl rfl,.inl ⟨by simp,rfl⟩⟩
structure Inv (N:List Nd) (steps:List St) (nv:Nat) (S0 S:List (List Nat)) (c:Bool) (P:Prop):Prop where
 g:Gs N steps nv S
 tot:Z1 S0≤Z1 S
 up:c=true→Z1 S0<Z1 S
 same:c=false→S=S0∧P
theorem Inv.mono {N:List Nd} {steps:List St} {nv:Nat} {S0 S:List (List Nat)} {c:Bool} {P Q:Prop} (h:Inv N steps nv S0 S c P) (hpq:S=S0→P→Q):Inv N steps nv S0 S c Q:=
 ⟨h.g,h.tot,h.up,fun hc=>⟨(h.same hc).1,hpq (h.same hc).1 (h.same hc).2⟩⟩
theorem Inv.add {N:List Nd} {steps:List St} {nv:Nat} {S0 S:List (List Nat)} {c:Bool} {P Q:Prop} (h:Inv N steps nv S0 S c P) {to d:Nat} {l:List Nat} (hl:S[to]? =some l) (hd:d∉l) (hlt:d<steps.length+nv) (hr:Rc N steps nv to d):Inv N steps nv S0 (S.set to (l++[d])) true Q:=by
 have:=Xco hl d;exact⟨h.g.add hl hd hlt hr,by have:=h.tot;omega,fun _=>by have:=h.tot;omega,fun hc=>by cases hc⟩
def inS (S:List (List Nat)) (to:Int) (d:Nat):Prop:=∀(m:Nat) l,to=(m:Int)→S[m]? =some l→d∈l
def msS (S:List (List Nat)):List (Option (List (Value×CD))):=S.map fun l=>some (mpI l)
@[simp] theorem len_msS (S:List (List Nat)):(msS S).length=S.length:=by simp[msS]
@[simp] theorem map_msS (S:List (List Nat)):(msS S).map (fun r=>[mpC r])=S.map fun l=>[CD.mp (mpI l)]:=by simp[msS,mpC]
theorem Xbt {S:List (List Nat)} {i:Nat} {l:List Nat} (h:S[i]? =some l):(msS S)[i]? =some (some (mpI l)):=by simp[msS,h]
theorem set_msS (S:List (List Nat)) (i:Nat) (l:List Nat) (d:Nat):(msS S).set i (some (mpI l++[(.int .i64 d,bC true)]))=msS (S.set i (l++[d])):=by
 simp[msS,List.map_set,mpI]
def msI (y n:Nat):List (Option (List (Value×CD))):=List.replicate y (some [])++List.replicate (n - y) none
theorem msI_len {y n:Nat} (h:y≤n):(msI y n).length=n:=by simp[msI];omega
theorem msI_free {y n:Nat} (h:y<n):ZH (msI y n) y=true:=by
 obtain⟨k,hk⟩:∃k,n - y=k+1:=⟨n - y - 1,by omega⟩;simp[ZH,msI,hk,List.replicate_succ]
theorem msI_set {y n:Nat} (h:y<n):(msI y n).set y (some [])=msI (y+1) n:=by
 obtain⟨k,hk⟩:∃k,n - y=k+1:=⟨n - y - 1,by omega⟩;have e:n - (y+1)=k:=by omega
 have e2:List.replicate (y+1) (some ([]:List (Value×CD)))=List.replicate y (some [])++[some []]:=List.replicate_succ';simp only[msI,hk,e,e2];rw[List.set_append,if_neg (by simp)];simp[List.replicate_succ]
theorem msI_zero (n:Nat):msI 0 n=List.replicate n none:=by simp[msI]
theorem msI_end (n:Nat):msI n n=msS (List.replicate n []):=by simp[msI,msS,mpI]
theorem Gs.empty (N:List Nd) (steps:List St) (nv:Nat):Gs N steps nv (List.replicate N.length []):=by
 refine⟨by simp,fun l hl=>?_,fun l hl=>?_,fun to l d h hd=>?_⟩
 · rw[(List.mem_replicate.1 hl).2];exact List.nodup_nil
 · rw[(List.mem_replicate.1 hl).2];simp
 have:=List.mem_of_getElem? h;rw[(List.mem_replicate.1 this).2]at hd;cases hd
def ZP (l:List Nat):Option (List (List CD)):=if l=[] then none else some (XB l)
def rwI (L:List (List Nat)) (y n:Nat):List (Option (List (List CD))):=(L.take y).map ZP++List.replicate (n - y) none
theorem Xbq {L:List (List Nat)} {y n:Nat} (h:y≤n) (hL:L.length=n):(rwI L y n).length=n:=by simp[rwI,hL];omega
theorem Xbo {L:List (List Nat)} {y n:Nat} (h:y<n) (hL:L.length=n):(rwI L y n)[y]? =some none:=by
 have ht:((L.take y).map ZP).length=y:=by rw[List.length_map,List.length_take];omega
 unfold rwI;rw[List.getElem?_append_right (by rw[ht];exact Nat.le_refl _),ht,Nat.sub_self];obtain⟨k,hk⟩:∃k,n - y=k+1:=⟨n - y - 1,by omega⟩;rw[hk];rfl
theorem Xbe {L:List (List Nat)} {y n:Nat} {l:List Nat} (hl:L[y]? =some l) (h:y<n) (hL:L.length=n):(rwI L y n).set y (ZP l)=rwI L (y+1) n:=by
 have ht:((L.take y).map ZP).length=y:=by rw[List.length_map,List.length_take];omega
 obtain⟨k,hk⟩:∃k,n - y=k+1:=⟨n - y - 1,by omega⟩;have e:n - (y+1)=k:=by omega
 unfold rwI;rw[List.set_append,if_neg (by rw[ht];omega),ht,Nat.sub_self,List.take_add_one,hl,hk,e];simp[List.replicate_succ]
theorem X8W (L:List (List Nat)) (n:Nat):rwI L 0 n=List.replicate n none:=by simp[rwI]
theorem XaV {L:List (List Nat)} {n:Nat} (hL:L.length=n):(rwI L n n).map (fun r=>[CD.sl 1 (r.getD [])])=Qa L:=by
 unfold rwI Qa;rw[←hL,List.take_length,Nat.sub_self];simp only[List.replicate_zero,List.append_nil,List.map_map];refine List.map_congr_left fun l _=>?_;unfold ZP;simp only[Function.comp];split
 · rename_i h;subst h;rfl
 rfl
theorem X2N (l:List Nat):XB l=Xi (l.map Int.ofNat):=by simp[XB,Xi]
end Go.Proofs.YtppjennamodfdaaGreat

namespace Go.Proofs.YtppjennamodfdaaGreat
open Go Go.Hl Go.Shelf Go.Sort
def sortR:Ren:=⟨fun f=>if f=125 then 74 else if f=128 then 119 else if f=129 then 120 else if f=189 then 35 else if f=215 then 144 else if f=216 then 116 else if f=257 then 73 else if f=294 then 110 else if f=295 then 111 else if f=296 then 112 else if f=297 then 113 else if f=298 then 114 else if f=299 then 115 else if f=300 then 117 else if f=301 then 118 else if f=328 then 139 else if f=329 then 140 else if f=330 then 141 else if f=331 then 142 else if f=332 then 143 else if f=343 then 160 else f,fun t=>if t=0 then 0 else if t=3 then 3 else if t=4 then 4 else if t=5 then 5 else if t=9 then 9 else if t=28 then 27 else if t=46 then 125 else if t=51 then 168 else if t=53 then 170 else if t=131 then 117 else if t=182 then 161 else if t=183 then 162 else if t=218 then 187 else if t=222 then 191 else if t=228 then 201 else if t=229 then 180 else t,fun g=>g⟩
theorem sortL:Lays.n189 Tryz.prog sortR where
 mixed:=by kernel_rfl
 f125:=by kernel_rfl
 f128:=by kernel_rfl
 f129:=by kernel_rfl
 f189:=by kernel_rfl
 f215:=by kernel_rfl
 f216:=by kernel_rfl
 f257:=by kernel_rfl
 f294:=by kernel_rfl
 f295:=by kernel_rfl
 f296:=by kernel_rfl
 f297:=by kernel_rfl
 f298:=by kernel_rfl
 f299:=by kernel_rfl
 f300:=by kernel_rfl
 f301:=by kernel_rfl
 f328:=by kernel_rfl
 f329:=by kernel_rfl
 f330:=by kernel_rfl
 f331:=by kernel_rfl
 f332:=by kernel_rfl
 f343:=by kernel_rfl
 t0:=by kernel_rfl
 a0:=fun w=>rfl
 z0:=fun w=>rfl
 v0:=fun w=>rfl
 t3:=by kernel_rfl
 a3:=fun w=>rfl
 z3:=fun w=>rfl
 v3:=fun w=>rfl
 t4:=by kernel_rfl
 a4:=fun w=>rfl
 z4:=fun w=>rfl
 v4:=fun w=>rfl
 t5:=by kernel_rfl
 a5:=fun w=>rfl
 z5:=fun w=>rfl
 v5:=fun w=>rfl
 t9:=by kernel_rfl
 a9:=fun w=>rfl
 z9:=fun w=>rfl
 v9:=fun w=>rfl
 t28:=by kernel_rfl
 a28:=fun w=>rfl
 z28:=fun w=>rfl
 v28:=fun w=>rfl
 t46:=by kernel_rfl
 a46:=fun w=>rfl
 z46:=fun w=>rfl
 v46:=fun w=>rfl
 t51:=by kernel_rfl
 a51:=fun w=>rfl
 z51:=fun w=>rfl
 v51:=fun w=>rfl
 t53:=by kernel_rfl
 a53:=fun w=>rfl
 z53:=fun w=>rfl
 v53:=fun w=>rfl
 t131:=by kernel_rfl
 a131:=fun w=>rfl
 z131:=fun w=>rfl
 v131:=fun w=>rfl
 t182:=by kernel_rfl
 a182:=fun w=>rfl
 z182:=fun w=>rfl
 v182:=fun w=>rfl
 t183:=by kernel_rfl
 a183:=fun w=>rfl
 z183:=fun w=>rfl
 v183:=fun w=>rfl
 t218:=by kernel_rfl
 a218:=fun w=>rfl
 z218:=fun w=>rfl
 v218:=fun w=>rfl
 t222:=by kernel_rfl
 a222:=fun w=>rfl
 z222:=fun w=>rfl
 v222:=fun w=>rfl
 t228:=by kernel_rfl
 a228:=fun w=>rfl
 z228:=fun w=>rfl
 v228:=fun w=>rfl
 t229:=by kernel_rfl
 a229:=fun w=>rfl
 z229:=fun w=>rfl
 v229:=fun w=>rfl
structure RowOut (w w':World) (g o:Nat) (ys:List Int):Prop where
 os:w'.os=w.os
 tape:w'.tape=w.tape
 output:w'.output=w.output
 size:w.heap.size≤w'.heap.size
 other:∀k,k<w.heap.size→k≠g→w'.heap[k]? =w.heap[k]?
 cells:∀cur t x,w.heap[g]? =some (.cells cur t x)→∃cur':Array Value,w'.heap[g]? =some (.cells cur' t x)∧cur'.size=cur.size∧∀k (hk:k<ys.length),o+k<cur.size→cur'[o+k]? =some (.int .i64 ys[k])
theorem Xa6 (w:World) (q g o:Nat) (os:Array Obj) (ys:List Int) (m:Nat) (hg:g<w.heap.size):RowOut w (grow (putRow (Value.int .i64) (Sort.ahead w q) g o (ys++List.replicate m 0).toArray) os) g o ys:=by
 have hsz:(putRow (Value.int .i64) (Sort.ahead w q) g o (ys++List.replicate m 0).toArray).heap.size=w.heap.size:=by simp[putRow,mapBlock]
 refine⟨rfl,rfl,rfl,by simp only[grow,Array.size_append,hsz];omega,fun k hk hne=>?_,fun cur t x hc=>?_⟩
 · rw[heap_grow_old _ _ (by rw[hsz];exact hk)];simp only[putRow,mapBlock,heap_ahead,Array.getElem?_modify];rw[if_neg fun h=>hne h.symm]
 refine⟨putCells (Value.int .i64) o (ys++List.replicate m 0).toArray cur,?_,by simp[putCells],fun k hk hkc=>?_⟩
 · rw[heap_grow_old _ _ (by rw[hsz];exact hg)];simp only[putRow,mapBlock,heap_ahead,Array.getElem?_modify,if_true,hc];rfl
 simp only[putCells,Array.getElem?_mapIdx,Array.getElem?_eq_getElem hkc,Option.map_some,Nat.add_sub_cancel_left];rw[if_pos ⟨by omega,by simp;omega⟩];congr 2;rw[getElem!_pos _ k (by simp;omega)];simp[hk]
theorem getRC_I2 {zs:List Int} {a b:Nat} {d:CD} (h:XS (Xi zs) a b=some d):b=0∧∃n,zs[a]? =some n∧d=iC n:=by
 unfold XS at h;rw[X8H]at h;cases hz:zs[a]? with
 |none=>rw[hz]at h;cases h
 | some n=>
   rw[hz]at h;cases b with
   |zero=>cases h;exact⟨rfl,n,rfl,rfl⟩
   |succ b=>cases h
theorem rowR_con {f:FuncId} (hcall:Qn Tryz.prog f=true) (zs ys:List Int) (hz:0<zs.length) (hle:ys.length=zs.length)
  (key:∀(g o cap:Nat) (w:World),Holds (Value.int .i64) w g o zs.toArray→g<w.heap.size→zs.length≤cap→cap≤maxLen→Calls Tryz.prog f #[.slice (some ⟨g,o,none⟩) zs.length cap] w fun e w'=>e=.returned (.tuple #[])∧RowOut w w' g o ys):
  ConR Tryz.prog f 3 1 (Xi zs) (Xi ys):=by
 refine⟨hcall,fun F B w v hro hF hvF=>?_⟩;obtain⟨h0,hrs,xs,⟨hxl,hown⟩,hx1,hc⟩:=hro;rcases hown with⟨_,hn⟩|⟨g,o,cap,cur,rfl,hB,hg,hcap,hmax,hcs,htake⟩
 · rw[X1R]at hn;omega
 rw[X1R]at hxl hcap htake⊢;rw[Nat.mul_one]at hxl htake hcs
 have hcur:∀k (hk:k<zs.length),cur[o+k]? =some (.int .i64 zs[k]):=by
  intro k hk;obtain⟨u,hu,hr⟩:=hc k 0 (iC zs[k]) (by unfold XS;rw[X8H];simp[hk]);cases hr;have:xs[k]? =cur[o+k]? :=by rw[←htake,List.getElem?_take,if_pos hk,List.getElem?_drop,Array.getElem?_toList]
  rw[←this];simpa using hu
 have hH:Holds (Value.int .i64) w g o zs.toArray:=by
  intro k hk;have hk':k<zs.length:=by simpa using hk
  refine⟨?_,?_⟩
  · have:w.cell? ⟨g,o+k,none⟩=cur[o+k]? :=by simp[World.cell?,hg]
    rw[this,hcur k hk'];simp[hk']
  simp[World.frozen?,hg]
 have hgs:g<w.heap.size:=(Array.getElem?_eq_some_iff.1 hg).1;refine(key g o cap w hH hgs hcap hmax).mono ?_;rintro e w' ⟨rfl,hout⟩;obtain⟨cur',hg',hcs',hcell⟩:=hout.cells cur _ _ hg;refine⟨rfl,hout.os,hout.tape,hout.output,hout.size,fun k hk hne=>hout.other k hk fun e=>hne (by rw[e];rfl),by decide,?_,ys.map (Value.int .i64),⟨by simp,.inr ⟨g,o,cap,cur',?_,hB,hg',by rw[X1R];omega,hmax,?_,?_⟩⟩,?_,?_⟩
 · intro r hr;simp only[Xi,List.mem_map]at hr;obtain⟨n,_,rfl⟩:=hr;rfl
 · rw[X1R,hle]
 · rw[hcs',Nat.mul_one];exact hcs
 · rw[X1R,Nat.mul_one];apply List.ext_getElem?;intro k;rw[List.getElem?_take,List.getElem?_drop,List.getElem?_map];by_cases hk:k<ys.length
   · rw[if_pos hk,Array.getElem?_toList,hcell k hk (by omega)];simp[hk]
   rw[if_neg hk,List.getElem?_eq_none (by omega)];rfl
 · intro u hu;obtain⟨n,_,rfl⟩:=List.mem_map.1 hu;rfl
 intro a b d hd;obtain⟨rfl,n,hn,rfl⟩:=getRC_I2 hd;exact⟨.int .i64 n,by simp[hn],CRel.lit _⟩
theorem X3Y (zs:List Int) (hz:0<zs.length) (hl:zs.length≤17592186044416):ConR Tryz.prog 35 3 1 (Xi zs) (Xi (zs.mergeSort fun x y=>decide (x≤y))):=by
 refine rowR_con (by kernel_rfl) zs _ hz (List.length_mergeSort _) fun g o cap w hH hg hcap hmax=>?_;have h:=Any.slices_Sort_int sortL g o cap zs w hH hg (by omega);refine h.mono ?_;rintro e w' ⟨rfl,q,os,rfl⟩;refine⟨rfl,?_⟩;have:=Xa6 w q g o os (zs.mergeSort fun x y=>decide (x≤y)) 0 hg;simpa using this
theorem X3T (d:Nat):Con Tryz.prog 35 true [lI []] (.tup []) none d:=by
 refine⟨by kernel_rfl,fun F w vs hF hsz hargs=>?_⟩;obtain⟨l⟩:=vs
 match l,hsz with
 | [v0],_=>
   have a0:CRel F w (.sl 1 []) v0:=hargs 0 _ v0 rfl rfl
   have key:∃p cap,v0=.slice p 0 cap:=by
    cases a0 with
    |nil=>exact⟨_,_,rfl⟩
    |emp a cap=>exact⟨_,_,rfl⟩
    |sl rows b o cap cells=>exact⟨_,_,rfl⟩
   obtain⟨p,cap,rfl⟩:=key;refine(Any.slices_Sort_int_none sortL p cap w).mono ?_;rintro e w' ⟨rfl,rfl⟩;exact⟨_,fun _=>False,noγ,rfl,⟨rfl,rfl,rfl,Nat.le_refl _,fun _ _=>rfl⟩,fun b hb=>hb.elim,⟨#[],rfl,rfl,fun j t u h1 h2=>by simp at h1⟩,fun o ho=>by cases ho⟩
end Go.Proofs.YtppjennamodfdaaGreat
