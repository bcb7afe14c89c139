/- Part 7: contracts of functions of the program and of the reference, and plain facts about what they compute; used by the proof of the claimed statement. Conditions: as each theorem states. -/
import Derived.Test.YtppjennamodfdaaGreatProg
import Derived.Test.YtppjennamodfdaaGreatNHmZ
import Derived.KernelRfl
import Derived.Test.YtppjennamodfdaaGreatN1
import Derived.Test.YtppjennamodfdaaGreatN2
import Derived.Test.YtppjennamodfdaaGreatN3
import Derived.Test.YtppjennamodfdaaGreatN4
import Derived.Test.YtppjennamodfdaaGreatN5
import Derived.Test.YtppjennamodfdaaGreatN6
set_option linter.unusedSimpArgs false
set_option linter.unusedVariables false
set_option linter.unnecessarySimpa false
set_option maxRecDepth 100000
set_option maxHeartbeats 2000000
namespace Go.Proofs.YtppjennamodfdaaGreat
open Go Go.Hl
theorem Xa9 (f:Fl) (hv:X0d f.vars) (hl:f.vars.length≤1000000) (l:List St):Xl l≤1000000000→Wm l=true→∀(top:Bool) (d:Nat),
  Con Tryz.prog 65 true [aF f,lS l,lb top] (.v (li (ssC f.vars f.hats.length l top))) none d:=by
 revert l
 apply St.lists;intro l ih hn hbn top d;have hlen:=Q9 l;obtain⟨res,hres⟩:∃r,ssC f.vars f.hats.length l top=r:=⟨_,rfl⟩;rw[hres];have csh:=fun s last hb=>X9R f s last (by omega) hb;obtain⟨vars,hats,body⟩:=f;simp only at hv hl hres ih csh;refine X7 Tryz.func65 ?_;simp only[Tryz.f65];simp only[aF,Fl.enc,List.map_cons,List.map_nil];refine X4 ?_;refine X0<|X0<|X3 ?_;refine X5<|(Xd [1,2,3] (fun(x:Nat)=>[(7,.v (li x))]) (fun x=>[(3,.box [.c (.sl 5 (Xs vars)),.c (.sl 6 (Xt hats)),.c (.sl 10 (Xa body))])]) (fun x=>x≤l.length∧ssC vars hats.length (l.drop x) top=res) (fun x=>l.length - x) (0:Nat) ⟨Nat.zero_le _,hres⟩ ?_ ?_)
 · exact X6 (fun n=>n) []
 rintro k ⟨hk,hJ⟩;simp only[upS,X8,Xy]
 try simp only[X8,KN,Nat.reduceBEq,if_true,if_false,ins,Nat.reduceLT]
 clear hres;refine X0<|X0<|X3 ?_;refine(X9 rfl (fun h4=>Xb ?_) (fun h4=>?_))
 · (try simp only[BN]at h4);have hlt:k<l.length:=by omega
   obtain⟨s,he,hd⟩:=Xq hlt;have hmem:s∈l:=List.mem_of_getElem? he;have hnm:=Qm hmem;have hbm:=X1A hbn hmem;have iha:=fun h h2=>(ih s hmem).1 h h2;have ihb:=fun h h2=>(ih s hmem).2 h h2;have hw1:=XA hlt (by omega);have hw2:IntKind.i64.wrap ((l.length:Int) - 1)=(l.length:Int) - 1:=Xc (by omega) (by omega);have hk1:k+1≤l.length:=hlt;have hla:=X6q hk1;rw[hd]at hJ;have ct:=X6n vars false hv (by omega) s.term;have csh1:=csh s (top&&decide ((k:Int)=(l.length:Int) - 1));obtain⟨sd,sc,sv,sn,⟨so,stn,sks⟩,sa,sb,sbs⟩:=s;simp only[St.then_,St.else_,St.term,St.bounds,St.do_,St.var,St.n,St.cost]at iha ihb hnm ct csh1;simp only[X0B,Bool.and_eq_true,decide_eq_true_eq]at hbm;simp only[ssC,hla]at hJ;have ca:=iha (by omega) hbm.2.1;have cb:=ihb (by omega) hbm.2.2;have ct:=ct (by omega);have csh1:=csh1 hbm.1;have hbl:=hbm.1;have he':=XX he;simp only[St.enc,Tm.enc,List.cons_append,List.nil_append]at he';simp only[aF,Fl.enc,aS,St.enc,Tm.enc,List.map_cons,List.map_nil,List.cons_append,List.nil_append]at csh1 ca cb;have hshb:=@X7m vars hats.length sd sv sn (.mk so stn sks) sa.length sb.length sbs (top&&decide ((k:Int)=(l.length:Int) - 1));obtain⟨SH,hSH⟩:∃x,shB vars hats.length sd sv sn (.mk so stn sks) sa.length sb.length sbs (top&&decide ((k:Int)=(l.length:Int) - 1))=x:=⟨_,rfl⟩;obtain⟨NU,hNU⟩:∃x,X2L sd sc sn sbs=x:=⟨_,rfl⟩;obtain⟨TC,hTC⟩:∃x,X0G vars false (.mk so stn sks)=x:=⟨_,rfl⟩;obtain⟨SC,hSC⟩:∃x,stC vars hats.length sd sc sv sn (.mk so stn sks) sa.length sb.length sbs (top&&decide ((k:Int)=(l.length:Int) - 1))=x:=⟨_,rfl⟩;rw[hSC]at hJ;unfold stC at hSC;rw[hSH]at csh1 hshb hSC;rw[hNU]at hSC;rw[hTC]at ct hSC;have ca:=fun d=>ca false d;have cb:=fun d=>cb false d;obtain⟨SA,hSA⟩:∃x,ssC vars hats.length sa false=x:=⟨_,rfl⟩;obtain⟨SB,hSB⟩:∃x,ssC vars hats.length sb false=x:=⟨_,rfl⟩;rw[hSA]at ca hJ;rw[hSB]at cb hJ;clear hlt h4 iha ihb ih hmem hnm hd he hbm hSH hTC hSA hSB csh hla;refine X0<|X5<|X0<|X3 ?_;refine X0<|X0<|(Xp [⟨true,.v (lb SH),none⟩] ?_ ?_)
   · first|exact csh1 _|exact trivial|simpa[*]using csh1 _
   refine(Xe rfl (fun h7=>?_) fun h7=>?_)
   · (try simp only[BN]at h7);rw[if_pos h7]at hSC;subst hSC;rw[if_neg (by decide)]at hJ;subst hJ;refine X4 ?_;exact Xh
   (try simp only[BN]at h7);rw[if_neg (by simp[h7])]at hSC;obtain⟨hs6,hs5,hs4⟩:=hshb h7;clear hshb csh1;refine X4 ?_;refine(XO [1,2,3,7,8] (fun(z:Int)=>[(9,.v (li z))]) (fun(z:Int)=>[(3,.box [.c (.sl 5 (Xs vars)),.c (.sl 6 (Xt hats)),.c (.sl 10 (Xa body))]),(8,.box [.c (iC sd),.c (iC sc),.c (iC sv),.c (iC sn),.c (iC so),.c (iC stn),.c (.sl 3 (Xo sks)),.c (.sl 10 (Xa sa)),.c (.sl 10 (Xa sb)),.c (.sl 1 (Xj sbs))])]) (fun(z:Int)=>z=X3u sd) ?_ ?_)
   ·
    refine X4 ?_;refine(Xe rfl (fun h13=>?_) fun h13=>?_)
    · (try simp only[BN]at h13);refine X3 ?_;exact⟨67108864,by simp[X3u,h13],X6 (fun n=>n) []⟩
    (try simp only[BN]at h13);exact⟨10000,by simp[X3u,h13],X6 (fun n=>n) []⟩
   rintro M hM;simp only[upS,X8,Xy]
   try simp only[X8,KN,Nat.reduceBEq,if_true,if_false,ins,Nat.reduceLT]
   refine X0<|X0<|X3 ?_;refine(Xe rfl (fun h18=>?_) fun h18=>?_)
   · try simp only[BN]at h18
     have hz:NU=false:=by
      rw[←hNU];unfold X2L;rw[←hM];simp only[Bool.and_eq_false_iff,Bool.or_eq_true,Bool.and_eq_true,Bool.not_eq_false',decide_eq_true_eq];by_cases hn0:sn<0
      · have:=hs4 hn0;omega
      omega
     rw[if_pos hz]at hSC;subst hSC;rw[if_neg (by decide)]at hJ;subst hJ;refine X4 ?_;exact Xh
   try simp only[BN]at h18
   have hz:NU=(decide (sd≠6)||X3Z sbs):=by
    rw[←hNU];unfold X2L;rw[←hM]
    rw[show(!(decide (sc<0)||decide (M<sc)||(decide (sd=4)&&(decide (sn<0)||decide (4096<sn)))))=true by
     simp only[Bool.or_eq_false_iff,Bool.and_eq_false_iff,Bool.not_eq_true',decide_eq_false_iff_not]
     omega]
    rfl
   clear h18 hNU hM hs4;rcases XaE sbs with h0|⟨b0,hb0⟩
   · subst h0;have hd6:sd≠6:=fun h=>hs6 h rfl;have hw3:IntKind.i64.wrap (-1)=-1:=by decide
     have hz2:NU=true:=by rw[hz];simp[hd6]
     rw[if_neg (by simp[hz2])]at hSC;clear hs6 hs5 hz;refine X0<|X0<|X3 ?_;refine(Xe rfl (fun h22=>?_) fun h22=>?_)
     · exact absurd h22 (by simp)
     (try simp only[BN]at h22);subst hSC;refine Xk [⟨true,.v (li TC),none⟩] ?_ ?_
     · first|exact ct _|exact trivial|simpa[*]using ct _
     refine X0<|X0<|X3 ?_;refine(Xe rfl (fun h27=>?_) fun h27=>?_)
     · (try simp only[BN]at h27);rw[if_neg h27]at hJ;subst hJ;refine X4 ?_;exact Xh
     (try simp only[BN]at h27);rw[if_pos (by simpa using h27)]at hJ;refine Xk [⟨true,.v (li SA),none⟩] ?_ ?_
     · first|exact ca _|exact trivial|simpa[*]using ca _
     refine X0<|X0<|X3 ?_;refine(Xe rfl (fun h32=>?_) fun h32=>?_)
     · (try simp only[BN]at h32);rw[if_neg h32]at hJ;subst hJ;refine X4 ?_;exact Xh
     (try simp only[BN]at h32);rw[if_pos (by simpa using h32)]at hJ;refine Xk [⟨true,.v (li SB),none⟩] ?_ ?_
     · first|exact cb _|exact trivial|simpa[*]using cb _
     refine X4 ?_;refine(Xe rfl (fun h37=>?_) fun h37=>?_)
     · (try simp only[BN]at h37);rw[if_neg h37]at hJ;subst hJ;refine X4 ?_;exact Xh
     (try simp only[BN]at h37);rw[if_pos (by simpa using h37)]at hJ;refine X3 ?_;exact⟨k+1,⟨hk1,hJ⟩,by omega,X6 (fun n=>n) []⟩
   have hpos:1≤sbs.length:=(List.getElem?_eq_some_iff.1 hb0).1;obtain⟨x,hx⟩:=X71 (show sbs.length - 1<sbs.length by omega);have hd6:sd=6:=Classical.byContradiction fun h=>by rw[hs5 h]at hpos;simp at hpos
   have hw3:IntKind.i64.wrap ((sbs.length:Int) - 1)=(sbs.length:Int) - 1:=Xc (by omega) (by omega);have hw4:0≤(sbs.length:Int) - 1:=by omega
   have hw5:((sbs.length:Int) - 1).toNat=sbs.length - 1:=by omega
   have hw6:1≤(sbs.length:Int):=by omega
   have hw7:decide (0<(sbs.length:Int))=true:=decide_eq_true (by omega);have hz2:NU=decide (x≤67108864):=by rw[hz];unfold X3Z;rw[hx,hd6];simp
   have hne:sbs≠[]:=by intro h;rw[h]at hpos;simp at hpos
   clear hs6 hs5 hz hb0 hpos;refine X0<|X0<|X3 ?_;refine(Xe rfl (fun h22=>?_) fun h22=>?_)
   · try simp only[BN]at h22
     have hx2:67108864<x:=by
      omega
     rw[if_pos (by rw[hz2];exact decide_eq_false (by omega))]at hSC;subst hSC;rw[if_neg (by decide)]at hJ;subst hJ;refine X4 ?_;exact Xh
   try simp only[BN]at h22
   have hx2:x≤67108864:=by
    first
     |omega
     | (rcases h22 with h|h
        · exact absurd h (by simp[hne])
        omega)
   rw[if_neg (by rw[hz2,decide_eq_true hx2];decide)]at hSC;subst hSC;refine Xk [⟨true,.v (li TC),none⟩] ?_ ?_
   · first|exact ct _|exact trivial|simpa[*]using ct _
   refine X0<|X0<|X3 ?_;refine(Xe rfl (fun h27=>?_) fun h27=>?_)
   · (try simp only[BN]at h27);rw[if_neg h27]at hJ;subst hJ;refine X4 ?_;exact Xh
   (try simp only[BN]at h27);rw[if_pos (by simpa using h27)]at hJ;refine Xk [⟨true,.v (li SA),none⟩] ?_ ?_
   · first|exact ca _|exact trivial|simpa[*]using ca _
   refine X0<|X0<|X3 ?_;refine(Xe rfl (fun h32=>?_) fun h32=>?_)
   · (try simp only[BN]at h32);rw[if_neg h32]at hJ;subst hJ;refine X4 ?_;exact Xh
   (try simp only[BN]at h32);rw[if_pos (by simpa using h32)]at hJ;refine Xk [⟨true,.v (li SB),none⟩] ?_ ?_
   · first|exact cb _|exact trivial|simpa[*]using cb _
   refine X4 ?_;refine(Xe rfl (fun h37=>?_) fun h37=>?_)
   · (try simp only[BN]at h37);rw[if_neg h37]at hJ;subst hJ;refine X4 ?_;exact Xh
   (try simp only[BN]at h37);rw[if_pos (by simpa using h37)]at hJ;refine X3 ?_;exact⟨k+1,⟨hk1,hJ⟩,by omega,X6 (fun n=>n) []⟩
 (try simp only[BN]at h4);have hkl:k=l.length:=by omega
 rw[hkl,List.drop_length]at hJ;simp only[ssC]at hJ;subst hJ;refine(Xg ?_);refine X4 ?_;exact Xh
end Go.Proofs.YtppjennamodfdaaGreat

namespace Go.Proofs.YtppjennamodfdaaGreat
open Go Go.Hl
theorem X5G (l:List Vr) (hl:l.length≤1000000) (d:Nat):Con Tryz.prog 102 false [lV l] (.v (lV l)) none d:=by
 have hroom:Qa l.length 48:=Xx (by omega) (by omega);cases l with
 | nil=>
   refine XbA ?_ ?_
   · refine X7 Tryz.func102 ?_;simp only[Tryz.f102];refine X4 ?_;refine X0<|X0<|X3 ?_;refine(Xe rfl (fun h2=>?_) fun h2=>?_)
     · (try simp only[BN]at h2);refine X4 ?_;exact XU ⟨.inr rfl,_,le_one 2 5 rfl,⟨⟨_,by simp;rfl,by simp[XN]⟩,by simp,fun h=>by cases h⟩⟩
     exact absurd h2 (by simp)
   intro a cap;refine X7 Tryz.func102 ?_;simp only[Tryz.f102];refine X4 ?_;refine X0<|X0<|X3 ?_;refine(Xe rfl (fun h2=>?_) fun h2=>?_)
   · exact absurd h2 (by simp)
   (try simp only[BN]at h2);refine XC (le_emp 0 5 rfl) ?_;refine X4 ?_;exact XU ⟨.inr rfl,_,XR 7 rfl,⟨⟨_,by simp;rfl,by simp[XN]⟩,by simp,fun h=>by cases h⟩⟩
 | cons v r=>
   refine X7 Tryz.func102 ?_;simp only[Tryz.f102];rw[List.length_cons]at hroom;refine X4 ?_;refine X0<|X0<|X3 ?_;refine(Xe rfl (fun h2=>?_) fun h2=>?_)
   · exact absurd h2 (by simp)
   (try simp only[BN]at h2);refine X4 ?_;exact XU ⟨.inr rfl,_,XR 7 rfl,⟨⟨_,by simp;rfl,by simp[XN]⟩,by simp,fun h=>by cases h⟩⟩
theorem X60 (l:List Int) (hl:l.length≤1000000000) (d:Nat):Con Tryz.prog 34 false [lI l] (.v (lI l)) none d:=by
 have hroom:Qa l.length 8:=⟨by unfold maxLen;omega,by omega⟩;cases l with
 | nil=>
   refine XbA ?_ ?_
   · refine X7 Tryz.func34 ?_;simp only[Tryz.f34];refine X4 ?_;refine X0<|X0<|X3 ?_;refine(Xe rfl (fun h2=>?_) fun h2=>?_)
     · (try simp only[BN]at h2);refine X4 ?_;exact XU ⟨.inr rfl,_,le_one 2 1 rfl,⟨⟨_,by simp;rfl,by simp[XN]⟩,by simp,fun h=>by cases h⟩⟩
     exact absurd h2 (by simp)
   intro a cap;refine X7 Tryz.func34 ?_;simp only[Tryz.f34];refine X4 ?_;refine X0<|X0<|X3 ?_;refine(Xe rfl (fun h2=>?_) fun h2=>?_)
   · exact absurd h2 (by simp)
   (try simp only[BN]at h2);refine XC (le_emp 0 1 rfl) ?_;refine X4 ?_;exact XU ⟨.inr rfl,_,XR 7 rfl,⟨⟨_,by simp;rfl,by simp[XN]⟩,by simp,fun h=>by cases h⟩⟩
 | cons v r=>
   refine X7 Tryz.func34 ?_;simp only[Tryz.f34];rw[List.length_cons]at hroom;refine X4 ?_;refine X0<|X0<|X3 ?_;refine(Xe rfl (fun h2=>?_) fun h2=>?_)
   · exact absurd h2 (by simp)
   (try simp only[BN]at h2);refine X4 ?_;exact XU ⟨.inr rfl,_,XR 7 rfl,⟨⟨_,by simp;rfl,by simp[XN]⟩,by simp,fun h=>by cases h⟩⟩
end Go.Proofs.YtppjennamodfdaaGreat

namespace Go.Proofs.YtppjennamodfdaaGreat
open Go Go.Hl
theorem Xcy (f:Fl) (hv:f.vars.length≤1000000) (hh:f.hats.length≤1000000) (hn:Xl f.body+QI f.hats≤900000000) (d:Nat):
  Con Tryz.prog 60 true [aF f] (.v (lb (X0Z f))) none d:=by
 obtain⟨res,hres⟩:∃r,X0Z f=r:=⟨_,rfl⟩;rw[hres];have cn:=XcW f.body (by omega);have csd:=XaQ f.body (by omega);have ctd:=Xc1 f.body (by omega);unfold X0Z at hres;obtain⟨vars,hats,body⟩:=f;simp only at hv hh hn hres cn csd ctd;refine X7 Tryz.func60 ?_;simp only[Tryz.f60];simp only[aF,Fl.enc,List.map_cons,List.map_nil];refine X4 ?_;refine X0<|X0<|X3 ?_;refine(Xe rfl (fun h2=>?_) fun h2=>?_)
 · try simp only[BN]at h2
   have hz:(decide (vars.length≤64)&&decide (hats.length≤8))=false:=by
    simp only[Bool.and_eq_false_iff,decide_eq_false_iff_not];omega
   rw[hz]at hres;simp only[Bool.false_and]at hres;subst hres;refine X4 ?_;exact Xh
 try simp only[BN]at h2
 have hz:(decide (vars.length≤64)&&decide (hats.length≤8))=true:=by
  simp only[Bool.and_eq_true,decide_eq_true_eq];omega
 rw[hz]at hres;simp only[Bool.true_and]at hres;refine Xk [⟨true,.v (li (Xl body)),none⟩] ?_ ?_
 · first|exact cn _|exact trivial|simpa[*]using cn _
 refine X0<|X0<|X3 ?_;refine X5<|(Xd [1] (fun(x:Nat×Nat)=>[(3,.v (li x.2)),(4,.v (li x.1))]) (fun x=>[(1,.box [.c (.sl 5 (Xs vars)),.c (.sl 6 (Xt hats)),.c (.sl 10 (Xa body))])]) (fun x=>x.1≤hats.length∧x.2+QI (hats.drop x.1)=Xl body+QI hats∧X0p (hats.drop x.1)=X0p hats) (fun x=>hats.length - x.1) (0,Xl body) ⟨Nat.zero_le _,by simp,by simp⟩ ?_ ?_)
 · exact X6 (fun n=>n) []
 rintro⟨k,n⟩ ⟨hk,hJ,hJ2⟩;simp only[upS,X8,Xy]
 try simp only[X8,KN,Nat.reduceBEq,if_true,if_false,ins,Nat.reduceLT]
 simp only at hk hJ hJ2;refine X0<|X0<|X3 ?_;refine(X9 rfl (fun h9=>Xb ?_) (fun h9=>?_))
 · (try simp only[BN]at h9);have hlt:k<hats.length:=by omega
   obtain⟨h,he,hd⟩:=Xq hlt;have hw1:=XA hlt (by omega);have hk1:k+1≤hats.length:=hlt;rw[hd]at hJ hJ2;simp only[QI]at hJ;have hJ2:(decide (tdT h.term≤12)&&X0p (hats.drop (k+1)))=X0p hats:=hJ2;have ctn:=X6m h.term (by omega);have ctd2:=X5m h.term (by omega);have hw2:IntKind.i64.wrap ((n:Int)+h.term.nodes)=((n+h.term.nodes:Nat):Int):=by rw[Xc (by omega) (by omega)];simp
   obtain⟨nm,lo,hi,⟨o,tn,ks⟩⟩:=h;simp only at hJ hJ2 ctn ctd2 hw2;simp only[aT,Tm.enc,List.map_cons,List.map_nil]at ctn ctd2;obtain⟨N,hN⟩:∃x,(Tm.mk o tn ks).nodes=x:=⟨_,rfl⟩;obtain⟨D,hD⟩:∃x,tdT (Tm.mk o tn ks)=x:=⟨_,rfl⟩;rw[hN]at ctn hJ hw2;rw[hD]at ctd2 hJ2;clear hlt h9 hd hN hD;refine X0<|X5<|X0<|(Xp [⟨true,.v (li N),none⟩] ?_ ?_)
   · first|exact ctn _|exact trivial|simpa[*]using ctn _
   refine Xk [⟨true,.v (li D),none⟩] ?_ ?_
   · first|exact ctd2 _|exact trivial|simpa[*]using ctd2 _
   refine(Xe rfl (fun h12=>?_) fun h12=>?_)
   · (try simp only[BN]at h12);have hz2:X0p hats=false:=by rw[←hJ2];simp only[Bool.and_eq_false_iff,decide_eq_false_iff_not];omega
     rw[hz2,Bool.and_false]at hres;subst hres;refine X4 ?_;exact Xh
   (try simp only[BN]at h12);rw[decide_eq_true (by omega),Bool.true_and]at hJ2;refine X3 ?_;exact⟨(k+1,n+N),⟨hk1,by simp only;omega,hJ2⟩,by simp only;omega,X6 (fun n=>n) []⟩
 (try simp only[BN]at h9);have hkl:k=hats.length:=by omega
 subst hkl;rw[List.drop_length]at hJ hJ2;simp only[QI,Nat.add_zero]at hJ;have hJ2:X0p hats=true:=hJ2.symm;rw[hJ2,Bool.and_true,←hJ]at hres;obtain⟨S,hS⟩:∃x,sdL body=x:=⟨_,rfl⟩;obtain⟨T,hT⟩:∃x,WB body=x:=⟨_,rfl⟩;rw[hS]at csd hres;rw[hT]at ctd hres;have e1:decide (n≤1024)=decide ((n:Int)≤1024):=by rw[Bool.eq_iff_iff,decide_eq_true_eq,decide_eq_true_eq];omega
 have e2:decide (S≤12)=decide ((S:Int)≤12):=by rw[Bool.eq_iff_iff,decide_eq_true_eq,decide_eq_true_eq];omega
 rw[e1,e2]at hres;clear e1 e2 hS hT hJ2 h9 hJ;refine(Xg ?_);refine Xk [⟨true,.v (li S),none⟩,⟨true,.v (lb T),none⟩] ?_ ?_
 · first|exact⟨csd _,ctd _⟩|exact trivial|(repeat' first|exact trivial|exact csd _|exact ctd _|apply And.intro)
 exact(Xm (fun h=>⟨.inr rfl,h⟩) _ (by simp[*];rfl) (by subst hres;simp[XN]) (by simp))
end Go.Proofs.YtppjennamodfdaaGreat

namespace Go.Proofs.YtppjennamodfdaaGreat
open Go Go.Hl
theorem X2C (f:Fl) (hv:f.vars.length≤1000000) (hh:f.hats.length≤1000000) (hn:Xl f.body+QI f.hats≤900000000) (hb:Wm f.body=true) (d:Nat):
  Con Tryz.prog 25 true [aF f] (.v (li (Qb f))) none d:=by
 obtain⟨res,hres⟩:∃r,Qb f=r:=⟨_,rfl⟩;rw[hres];have csz:=Xcy f hv hh hn;have cvars:=Xcm f.vars hv;have ct:=fun(hg:X0d f.vars) (h:Ht) (hm:h∈f.hats)=>X6n f.vars true hg (by omega) h.term (by have:=Z5 hm;omega);have cst:=fun hg=>Xa9 f hg hv f.body (by omega) hb;have cup:=fun ho=>X4L f.body (by omega) ho;have hgood:ZI f.vars=0→X0d f.vars:=X2y;have hok:ssC f.vars f.hats.length f.body true=0→okL f.body=true:=X2u _ _;unfold Qb X7g at hres;obtain⟨SZ,hSZ⟩:∃x,X0Z f=x:=⟨_,rfl⟩;rw[hSZ]at csz hres;obtain⟨vars,hats,body⟩:=f;simp only at hv hh hn hb hres csz cvars ct cst cup hgood hok;obtain⟨VC,hVC⟩:∃x,ZI vars=x:=⟨_,rfl⟩;obtain⟨HC,hHC⟩:∃x,hcs vars [] hats=x:=⟨_,rfl⟩;obtain⟨SC,hSC⟩:∃x,ssC vars hats.length body true=x:=⟨_,rfl⟩;rw[hVC]at cvars hres hgood;rw[hHC]at hres;rw[hSC]at hres hok;have cst:=fun hg=>cst hg true;rw[hSC]at cst;clear hVC hSC hSZ;refine X7 Tryz.func25 ?_;simp only[Tryz.f25];simp only[aF,Fl.enc,List.map_cons,List.map_nil]at csz cst⊢;refine X4 ?_;refine X0<|X0<|(Xp [⟨true,.v (lb SZ),none⟩] ?_ ?_)
 · first|exact csz _|exact trivial|simpa[*]using csz _
 refine(Xe rfl (fun h2=>?_) fun h2=>?_)
 · (try simp only[BN]at h2);have hz:SZ=false:=by simpa using h2
   rw[if_pos hz]at hres;subst hres;refine X4 ?_;exact Xh
 (try simp only[BN]at h2);have hz:SZ=true:=by simpa using h2
 rw[if_neg (by rw[hz];decide)]at hres;clear csz h2;subst hz;refine Xk [⟨true,.v (li VC),none⟩] ?_ ?_
 · first|exact cvars _|exact trivial|simpa[*]using cvars _
 refine X0<|X0<|X3 ?_;refine(Xe rfl (fun h7=>?_) fun h7=>?_)
 · (try simp only[BN]at h7);rw[if_neg h7]at hres;subst hres;refine X4 ?_;exact Xh
 (try simp only[BN]at h7);have hv0:VC=0:=by simpa using h7
 have hg:=hgood hv0;have ct:=ct hg;have cst:=cst hg;rw[if_pos hv0]at hres;clear cvars hgood h7;subst hv0;refine X0<|X0<|X3 ?_;refine X5<|(Xd [1] (fun(x:Nat)=>[(4,.v (li x))]) (fun x=>[(1,.box [.c (.sl 5 (Xs vars)),.c (.sl 6 (Xt hats)),.c (.sl 10 (Xa body))])]) (fun x=>x≤hats.length∧hcs vars (hats.take x) (hats.drop x)=HC) (fun x=>hats.length - x) (0:Nat) ⟨Nat.zero_le _,hHC⟩ ?_ ?_)
 · exact X6 (fun n=>n) []
 rintro k ⟨hk,hJ⟩;simp only[upS,X8,Xy]
 try simp only[X8,KN,Nat.reduceBEq,if_true,if_false,ins,Nat.reduceLT]
 clear hHC;refine X0<|X0<|X3 ?_;refine(X9 rfl (fun h13=>Xb ?_) (fun h13=>?_))
 · (try simp only[BN]at h13);have hlt:k<hats.length:=by omega
   obtain⟨h,he,hd⟩:=Xq hlt;have hw1:=XA hlt (by omega);have hk1:k+1≤hats.length:=hlt;have hkl:(hats.take k).length=k:=by rw[List.length_take];omega
   rw[hd]at hJ;simp only[hcs]at hJ;rw[←ZZ he]at hJ;have ct:=ct h (List.mem_of_getElem? he);obtain⟨nm,lo,hi,⟨o,tn,ks⟩⟩:=h;obtain⟨C,hC⟩:∃x,X5U vars (hats.take k) ⟨nm,lo,hi,.mk o tn ks⟩=x:=⟨_,rfl⟩;rw[hC]at hJ;simp only[X5U]at hC;simp only[aT,Tm.enc,List.map_cons,List.map_nil]at ct;obtain⟨TC,hTC⟩:∃x,X0G vars true (.mk o tn ks)=x:=⟨_,rfl⟩;rw[hTC]at ct hC;clear hlt h13 hd cup hok cst hTC;refine X0<|X5<|X0<|X3 ?_;refine X0<|X0<|(Xp [⟨true,.v (lb (ZP nm)),none⟩] ?_ ?_)
   · first|exact X23 _ _|exact trivial|simpa[*]using X23 _ _
   refine(Xe rfl (fun h16=>?_) fun h16=>?_)
   · (try simp only[BN]at h16);rw[if_pos h16]at hC;subst hC;rw[if_neg (by decide)]at hJ;subst hJ;rw[if_neg (by decide)]at hres;subst hres;refine X4 ?_;exact Xh
   (try simp only[BN]at h16);rw[if_neg (by simp[h16])]at hC;clear h16;refine X0<|X0<|X3 ?_;refine X5<|(Xd [1,4,5] (fun(x:Nat)=>[(6,.v (li x))]) (fun x=>[(1,.box [.c (.sl 5 (Xs vars)),.c (.sl 6 (Xt hats)),.c (.sl 10 (Xa body))]),(5,.box [.c (sC nm),.c (iC lo),.c (iC hi),.c (iC o),.c (iC tn),.c (.sl 3 (Xo ks))])]) (fun x=>x≤k∧∀j:Nat,j<x→∀w,hats[j]? =some w→w.name≠nm) (fun x=>k - x) (0:Nat) ⟨Nat.zero_le _,fun j hj=>absurd hj (Nat.not_lt_zero j)⟩ ?_ ?_)
   · exact X6 (fun n=>n) []
   rintro j ⟨hj,hno⟩;simp only[upS,X8,Xy]
   try simp only[X8,KN,Nat.reduceBEq,if_true,if_false,ins,Nat.reduceLT]
   refine X0<|X0<|X3 ?_;refine(X9 rfl (fun h22=>Xb ?_) (fun h22=>?_))
   · (try simp only[BN]at h22);have hjk:j<k:=by omega
     obtain⟨w,hw⟩:∃w,hats[j]? =some w:=⟨hats[j],by simp[show j<hats.length by omega]⟩;have hwj:=XA hjk (by omega);have hj1:j+1≤k:=hjk
     have hmemw:w∈hats.take k:=by
      have:(hats.take k)[j]? =some w:=by rw[List.getElem?_take_of_lt hjk];exact hw
      exact List.mem_of_getElem? this
     obtain⟨n2,l2,i2,⟨o2,t2,k2⟩⟩:=w;clear hjk h22;refine X0<|X5<|X0<|(Q6 (by kernel_rfl) (by kernel_rfl) (by rfl) (by simp[*];rfl) ?_);refine(Xe rfl (fun h24=>?_) fun h24=>?_)
     · try simp only[BN]at h24
       have hany:((hats.take k).any fun w=>decide (w.name=nm))=true:=by
        rw[List.any_eq_true];exact⟨_,hmemw,by simpa using h24⟩
       rw[if_pos hany]at hC;subst hC;rw[if_neg (by decide)]at hJ;subst hJ;rw[if_neg (by decide)]at hres;subst hres;refine X4 ?_;exact Xh
     (try simp only[BN]at h24);refine X3 ?_
     exact⟨j+1,⟨hj1,fun i hi u hu=>by
      rcases Nat.lt_or_eq_of_le (Nat.le_of_lt_succ hi)with h|h
      · exact hno i h u hu
      subst h;rw[hw]at hu;cases hu
      simpa using h24⟩,by omega,X6 (fun n=>n) []⟩
   (try simp only[BN]at h22);have hjk:j=k:=by omega
   subst hjk
   have hany:((hats.take j).any fun w=>decide (w.name=nm))=false:=by
    rw[List.any_eq_false];intro w hw;obtain⟨i,hi⟩:=List.mem_iff_getElem?.1 hw;have hij:i<j:=by have:=(List.getElem?_eq_some_iff.1 hi).1;omega
    rw[List.getElem?_take_of_lt hij]at hi;simpa using hno i hij w hi
   rw[if_neg (by simp[hany])]at hC;clear hno hkl hany;refine(Xg ?_);refine X0<|X0<|(Xp [⟨true,.v (lb (QN lo hi)),none⟩] ?_ ?_)
   · first|exact ZT _ _ _|exact trivial|simpa[*]using ZT _ _ _
   refine(Xe rfl (fun h30=>?_) fun h30=>?_)
   · (try simp only[BN]at h30);rw[if_pos h30]at hC;subst hC;rw[if_neg (by decide)]at hJ;subst hJ;rw[if_neg (by decide)]at hres;subst hres;refine X4 ?_;exact Xh
   (try simp only[BN]at h30);rw[if_neg (by simp[h30])]at hC;subst hC;clear h30;refine Xk [⟨true,.v (li TC),none⟩] ?_ ?_
   · first|exact ct _|exact trivial|simpa[*]using ct _
   refine X4 ?_;refine(Xe rfl (fun h35=>?_) fun h35=>?_)
   · (try simp only[BN]at h35);rw[if_neg h35]at hJ;subst hJ;rw[if_neg h35]at hres;subst hres;refine X4 ?_;exact Xh
   (try simp only[BN]at h35);rw[if_pos (by simpa using h35)]at hJ;refine X3 ?_;exact⟨j+1,⟨hk1,hJ⟩,by omega,X6 (fun n=>n) []⟩
 (try simp only[BN]at h13);have hkl:k=hats.length:=by omega
 rw[hkl,List.drop_length]at hJ;simp only[hcs]at hJ;rw[if_pos hJ.symm]at hres;clear hJ hkl hk h13 ct;refine(Xg ?_);refine Xk [⟨true,.v (li SC),none⟩] ?_ ?_
 · first|exact cst _|exact trivial|simpa[*]using cst _
 refine X0<|X0<|X3 ?_;refine(Xe rfl (fun h42=>?_) fun h42=>?_)
 · (try simp only[BN]at h42);rw[if_neg h42]at hres;subst hres;refine X4 ?_;exact Xh
 (try simp only[BN]at h42);have hs0:SC=0:=by simpa using h42
 rw[if_pos hs0]at hres;have hok:=hok hs0;have cup:=cup hok;obtain⟨Y,hY⟩:∃x,bdL CR body ⟨0,0,0⟩=x:=⟨_,rfl⟩;rw[hY]at hres cup;obtain⟨y1,y2,y3⟩:=Y;simp only[Bool.or_eq_true,decide_eq_true_eq]at hres;simp only at cup;clear hY cst h42 hok;refine Xk [⟨true,.tup [li y1,li y2,li y3],none⟩] ?_ ?_
 · first|exact cup _|exact trivial|simpa[*]using cup _
 refine X0<|X0<|X3 ?_;refine(Xe rfl (fun h47=>?_) fun h47=>?_)
 · (try simp only[BN]at h47);rw[if_pos (by omega)]at hres;subst hres;refine X4 ?_;exact Xh
 (try simp only[BN]at h47);rw[if_neg (by omega)]at hres;subst hres;refine X4 ?_;exact Xh
end Go.Proofs.YtppjennamodfdaaGreat

namespace Go.Proofs.YtppjennamodfdaaGreat
open Go Go.Hl
theorem X4e (l:List St):Xl l≤1000000000→∀d:Nat,Con Tryz.prog 132 true [lS l] (.v (li (szL l))) none d:=by
 revert l
 apply St.lists;intro l ih hn d;have hlen:=Q9 l;have hsl:=Qw l;obtain⟨res,hres⟩:∃r,szL l=r:=⟨_,rfl⟩;rw[hres]at hsl⊢;refine X7 Tryz.func132 ?_;simp only[Tryz.f132];refine X4 ?_;refine X4 ?_;refine X0<|X0<|X3 ?_;refine X5<|(Xd [8,9] (fun(x:Nat×Nat)=>[(3,.v (li ((x.2:Nat):Int))),(10,.v (li x.1))]) (fun x=>[]) (fun x=>x.1≤l.length∧x.2+szL (l.drop x.1)=res+(l.drop x.1).length) (fun x=>l.length - x.1) (0,l.length) ⟨Nat.zero_le _,by simp only[List.drop_zero,hres];omega⟩ ?_ ?_)
 · exact X6 (fun n=>n) []
 rintro⟨k,m⟩ ⟨hk,hJ⟩;simp only[upS,X8,Xy]
 try simp only[X8,KN,Nat.reduceBEq,if_true,if_false,ins,Nat.reduceLT]
 simp only at hk hJ;refine X4 ?_;refine X0<|(X9 rfl (fun h5=>Xb ?_) (fun h5=>?_))
 · (try simp only[BN]at h5);have hlt:k<l.length:=by omega
   obtain⟨s,he,hd⟩:=Xq hlt;have hmem:s∈l:=List.mem_of_getElem? he;have hnm:=Qm hmem;have iha:=fun h=>(ih s hmem).1 h;have ihb:=fun h=>(ih s hmem).2 h;have hw1:=XA hlt (by omega);have hk1:k+1≤l.length:=hlt;rw[hd]at hJ;have hrl:=X5a (l.drop (k+1));obtain⟨sd,sc,sv,sn,⟨so,stn,sks⟩,sa,sb,sbs⟩:=s;simp only[St.then_,St.else_,St.term]at iha ihb hnm;simp only[szL,szS,List.length_cons]at hJ;have ca:=iha (by omega);have cb:=ihb (by omega);have hla:=Qw sa;have hlb:=Qw sb;have he':=XX he;simp only[St.enc,Tm.enc,List.cons_append,List.nil_append]at he';generalize szL sa=na at*;generalize szL sb=nb at*;have hw2:IntKind.i64.wrap ((na:Int)+(nb:Int))=(na:Int)+(nb:Int):=Xc (by omega) (by omega);have hw3:IntKind.i64.wrap ((m:Int)+((na:Int)+(nb:Int)))=(m:Int)+((na:Int)+(nb:Int)):=Xc (by omega) (by omega);clear hlt h5 ih hmem iha ihb;refine X0<|X5<|X0<|X3 ?_;refine(Qk [⟨true,.v (li (na:Int)),none⟩,⟨true,.v (li (nb:Int)),none⟩] (by kernel_rfl) (by kernel_rfl) (by rfl) (by simp[*];first|exact⟨rfl,Iff.rfl⟩|exact⟨rfl,trivial⟩|rfl) ?_ ?_)
   · first|exact⟨ca _,cb _⟩|exact trivial|(repeat' first|exact trivial|exact ca _|exact cb _|apply And.intro)
   refine X3 ?_;exact⟨(k+1,m+(na+nb)),⟨hk1,by simp only;omega⟩,by simp only;omega,X6 (fun n=>n) []⟩
 (try simp only[BN]at h5);have hkl:k=l.length:=by omega
 rw[hkl,List.drop_length]at hJ;simp only[szL,List.length_nil]at hJ;have hm:m=res:=by omega
 refine(Xg ?_);refine X4 ?_;exact Xh
theorem Xcp (f:Fl) (hn:Xl f.body≤1000000000) (d:Nat):Con Tryz.prog 101 true [aF f] (.v (li (szL f.body))) none d:=by
 have cs:=X4e f.body hn;obtain⟨vars,hats,body⟩:=f;simp only at cs⊢;obtain⟨n,hn⟩:∃x,szL body=x:=⟨_,rfl⟩;rw[hn]at cs⊢;clear hn;refine X7 Tryz.func101 ?_;simp only[Tryz.f101];simp only[aF,Fl.enc,List.map_cons,List.map_nil];refine X4 ?_;refine Xk [⟨true,.v (li (n:Int)),none⟩] ?_ ?_
 · first|exact cs _|exact trivial|simpa[*]using cs _
 exact Xh
theorem W1 (l:List St):Xl l≤1000000000→∀d:Nat,Con Tryz.prog 26 true [lS l] (.v (li (szL l))) none d:=by
 revert l
 apply St.lists;intro l ih hn d;have hlen:=Q9 l;have hsl:=Qw l;obtain⟨res,hres⟩:∃r,szL l=r:=⟨_,rfl⟩;rw[hres]at hsl⊢;refine X7 Tryz.func26 ?_;simp only[Tryz.f26];refine X4 ?_;refine X4 ?_;refine X0<|X0<|X3 ?_;refine X5<|(Xd [0] (fun(x:Nat×Nat)=>[(3,.v (li ((x.2:Nat):Int))),(4,.v (li x.1))]) (fun x=>[]) (fun x=>x.1≤l.length∧x.2+szL (l.drop x.1)=res) (fun x=>l.length - x.1) (0,0) ⟨Nat.zero_le _,by simp[hres]⟩ ?_ ?_)
 · exact X6 (fun n=>n) []
 rintro⟨k,m⟩ ⟨hk,hJ⟩;simp only[upS,X8,Xy]
 try simp only[X8,KN,Nat.reduceBEq,if_true,if_false,ins,Nat.reduceLT]
 simp only at hk hJ;refine X0<|X0<|X3 ?_;refine(X9 rfl (fun h5=>Xb ?_) (fun h5=>?_))
 · (try simp only[BN]at h5);have hlt:k<l.length:=by omega
   obtain⟨s,he,hd⟩:=Xq hlt;have hmem:s∈l:=List.mem_of_getElem? he;have hnm:=Qm hmem;have iha:=fun h=>(ih s hmem).1 h;have ihb:=fun h=>(ih s hmem).2 h;have hw1:=XA hlt (by omega);have hk1:k+1≤l.length:=hlt;rw[hd]at hJ;obtain⟨sd,sc,sv,sn,⟨so,stn,sks⟩,sa,sb,sbs⟩:=s;simp only[St.then_,St.else_,St.term]at iha ihb hnm;simp only[szL,szS]at hJ;have ca:=iha (by omega);have cb:=ihb (by omega);have he':=XX he;simp only[St.enc,Tm.enc,List.cons_append,List.nil_append]at he';generalize szL sa=na at*;generalize szL sb=nb at*;have hw2:IntKind.i64.wrap ((m:Int)+1)=(m:Int)+1:=Xc (by omega) (by omega);have hw3:IntKind.i64.wrap ((m:Int)+1+(na:Int))=(m:Int)+1+(na:Int):=Xc (by omega) (by omega);have hw4:IntKind.i64.wrap ((m:Int)+1+(na:Int)+(nb:Int))=(m:Int)+1+(na:Int)+(nb:Int):=Xc (by omega) (by omega);clear hlt h5 ih hmem iha ihb;refine X0<|X5<|(Qk [⟨true,.v (li (na:Int)),none⟩,⟨true,.v (li (nb:Int)),none⟩] (by kernel_rfl) (by kernel_rfl) (by rfl) (by simp[*];first|exact⟨rfl,Iff.rfl⟩|exact⟨rfl,trivial⟩|rfl) ?_ ?_)
   · first|exact⟨ca _,cb _⟩|exact trivial|(repeat' first|exact trivial|exact ca _|exact cb _|apply And.intro)
   refine X3 ?_;exact⟨(k+1,m+1+na+nb),⟨hk1,by simp only;omega⟩,by simp only;omega,X6 (fun n=>n) []⟩
 (try simp only[BN]at h5);have hkl:k=l.length:=by omega
 rw[hkl,List.drop_length]at hJ;simp only[szL]at hJ;have hm:m=res:=by omega
 refine(Xg ?_);refine X4 ?_;exact Xh
end Go.Proofs.YtppjennamodfdaaGreat

namespace Go.Proofs.YtppjennamodfdaaGreat
open Go Go.Hl
theorem X9d (s:St) (hn:s.nodes≤1000000) (hb:X0B s=true) (ca:∀d:Nat,Con Tryz.prog 157 false [lS s.then_] (.v (lS s.then_)) none d) (cb:∀d:Nat,Con Tryz.prog 157 false [lS s.else_] (.v (lS s.else_)) none d) (d:Nat):
  Con Tryz.prog 133 false [aS s] (.v (aS s)) none d:=by
 have ct:=X7e s.term;have cc:=X60 s.bounds;obtain⟨sd,sc,sv,sn,⟨so,stn,sks⟩,sa,sb,sbs⟩:=s;simp only[St.then_,St.else_,St.term,St.bounds]at ca cb ct cc;simp only[X0B,Bool.and_eq_true,decide_eq_true_eq]at hb;have cc:=cc hb.1;simp only[St.nodes]at hn;have ct:=ct (by omega);simp only[aT,Tm.enc,List.map_cons,List.map_nil]at ct;clear hn hb;refine X7 Tryz.func133 ?_;simp only[Tryz.f133];simp only[aS,St.enc,Tm.enc,List.map_cons,List.map_nil,List.cons_append,List.nil_append];refine X4 ?_;refine X0<|(Qk [⟨false,.v (.agg [.c (iC so),.c (iC stn),.c (.sl 3 (Xo sks))]),none⟩,⟨false,.v (lS sa),none⟩,⟨false,.v (lS sb),none⟩,⟨false,.v (lI sbs),none⟩] (by kernel_rfl) (by kernel_rfl) (by rfl) (by simp[*,XD,Qd,XQ];first|exact⟨rfl,Iff.rfl⟩|exact⟨rfl,trivial⟩|rfl) ?_ ?_)
 · first|exact⟨ct _,ca _,cb _,cc _⟩|exact trivial|(repeat' first|exact trivial|exact ct _|exact ca _|exact cb _|exact cc _|apply And.intro)
 exact XU ⟨.inr rfl,_,le_refl _,⟨⟨_,by simp;rfl,by simp[XN]⟩,by simp,fun h=>by cases h⟩⟩
theorem X5H (l:List St):Xl l≤1000000→Wm l=true→∀d:Nat,Con Tryz.prog 157 false [lS l] (.v (lS l)) none d:=by
 revert l
 apply St.lists;intro l ih hn hbn d;have hlen:=Q9 l;refine X7 Tryz.func157 ?_;simp only[Tryz.f157];refine X4 ?_;refine X4 ?_;refine X0<|X0<|X3 ?_;refine X5<|(Xd [6,7] (fun(x:Nat)=>[(3,.v (.one (.own 1003))),(8,.v (li x))]) (fun x=>[(1003,.row 76 10 (Xa (l.take x)))]) (fun x=>x≤l.length) (fun x=>l.length - x) (0:Nat) (Nat.zero_le _) ?_ ?_)
 · exact X6 (fun n=>n) [1003]
 rintro k hk;simp only[upS,X8,Xy]
 try simp only[X8,KN,Nat.reduceBEq,if_true,if_false,ins,Nat.reduceLT]
 refine X4 ?_;refine X0<|(X9 rfl (fun h5=>Xb ?_) (fun h5=>?_))
 · (try simp only[BN]at h5);have hlt:k<l.length:=by omega
   obtain⟨s,he,hd⟩:=Xq hlt;have hw1:=XA hlt (by omega);have hk1:k+1≤l.length:=hlt;have hmem:s∈l:=List.mem_of_getElem? he;have hnm:=Qm hmem;have hbm:=X1A hbn hmem
   have hsz:s.nodes≤1000000:=by
    obtain⟨sd,sc,sv,sn,t,sa,sb,sbs⟩:=s;simp only[St.then_,St.else_,St.term,St.nodes]at*;omega
   have hbab:Wm s.then_=true∧Wm s.else_=true:=by
    obtain⟨sd,sc,sv,sn,t,sa,sb,sbs⟩:=s;simp only[X0B,Bool.and_eq_true,decide_eq_true_eq]at hbm;exact hbm.2
   have cs:=X9d s hsz hbm ((ih s hmem).1 (by omega) hbab.1) ((ih s hmem).2 (by omega) hbab.2);have htl:(l.take k).length=k:=by rw[List.length_take];omega
   have hroom:Qa (k+1) 144:=Xx (by omega) (by omega)
   have hsn:Xa (l.take (k+1))=Xa (l.take k)++[s.enc]:=by
    rw[W2,W2,List.take_add_one,he,Option.toList_some,List.map_append];rfl
   have he':=XX he;obtain⟨sd,sc,sv,sn,⟨so,stn,sks⟩,sa,sb,sbs⟩:=s;simp only[St.enc,Tm.enc,List.cons_append,List.nil_append]at he' hsn;simp only[aS,St.enc,Tm.enc,List.map_cons,List.map_nil,List.cons_append,List.nil_append]at cs;clear hlt h5 ih hmem hnm he hd hbm hsz hbab;refine X0<|X5<|X0<|X3 ?_;refine(Xp [⟨false,.v (aS (.mk sd sc sv sn (.mk so stn sks) sa sb sbs)),none⟩] ?_ ?_)
   · first|exact cs _|exact trivial|simpa[*]using cs _
   refine X3 ?_;exact⟨k+1,hk1,by omega,X6 (fun n=>if n=1003 then 16 else n) []⟩
 (try simp only[BN]at h5);have hkl:k=l.length:=by omega
 subst hkl;simp only[List.take_length];refine(Xg ?_);refine X4 ?_;exact XU ⟨.inr rfl,_,XR 1003 rfl,⟨⟨_,by simp;rfl,by simp[XN]⟩,by simp,fun h=>by cases h⟩⟩
theorem XcQ (s:St) (hn:s.nodes≤1000000) (hb:X0B s=true) (d:Nat):Con Tryz.prog 133 false [aS s] (.v (aS s)) none d:=by
 have hx:Xl s.then_≤1000000∧Xl s.else_≤1000000∧Wm s.then_=true∧Wm s.else_=true:=by
  obtain⟨sd,sc,sv,sn,t,sa,sb,sbs⟩:=s;simp only[St.then_,St.else_,St.nodes,X0B,Bool.and_eq_true,decide_eq_true_eq]at*;exact⟨by omega,by omega,hb.2⟩
 exact X9d s hn hb (X5H _ hx.1 hx.2.2.1) (X5H _ hx.2.1 hx.2.2.2) d
mutual
def woS:St→Int→St
 | .mk d c v n t a b bs,i=>.mk d c v n t (woL a i) (woL b (i - szL a)) bs
def woL:List St→Int→List St
 |[],_=>[]
 |s::l,i=>(if i=0 then [] else [woS s (i - 1)])++woL l (i - szS s)
end
mutual
theorem woS_id:∀(s:St) (i:Int),i<0∨(szS s:Int) - 1≤i→woS s i=s
 | .mk d c v n t a b bs,i,h=>by
   simp only[szS]at h;simp only[woS];rw[ZN a i (by omega),ZN b _ (by omega)]
theorem ZN:∀(l:List St) (i:Int),i<0∨(szL l:Int)≤i→woL l i=l
 |[],i,h=>rfl
 | s::l,i,h=>by
   have hp:=X89 s;simp only[szL]at h;simp only[woL];rw[if_neg (by omega),woS_id s _ (by omega),ZN l _ (by omega)];rfl
end
mutual
theorem XbY:∀(s:St) (i:Int),(woS s i).nodes≤s.nodes
 | .mk d c v n t a b bs,i=>by
   have:=X25 a i;have:=X25 b (i - szL a);simp only[woS,St.nodes];omega
theorem X25:∀(l:List St) (i:Int),Xl (woL l i)≤Xl l
 |[],i=>Nat.le_refl _
 | s::l,i=>by
   have:=XbY s (i - 1);have:=X25 l (i - szS s);simp only[woL];split
   · simp only[List.nil_append,Xl];omega
   simp only[List.cons_append,List.nil_append,Xl];omega
end
mutual
theorem woS_bnd:∀(s:St) (i:Int),X0B s=true→X0B (woS s i)=true
 | .mk d c v n t a b bs,i,h=>by
   simp only[X0B,Bool.and_eq_true]at h;simp only[woS,X0B,Bool.and_eq_true];exact⟨h.1,X3l a _ h.2.1,X3l b _ h.2.2⟩
theorem X3l:∀(l:List St) (i:Int),Wm l=true→Wm (woL l i)=true
 |[],i,h=>rfl
 | s::l,i,h=>by
   simp only[Wm,Bool.and_eq_true]at h;simp only[woL];split
   · exact X3l l _ h.2
   simp only[List.cons_append,List.nil_append,Wm,Bool.and_eq_true];exact⟨woS_bnd s _ h.1,X3l l _ h.2⟩
end
mutual
def fndS:St→Int→Option St
 | .mk d c v n t a b bs,i=>if i=0 then some (.mk d c v n t a b bs)else
   match X1r a (i - 1)with
   |some x=>some x
   |none=>X1r b (i - 1 - szL a)
def X1r:List St→Int→Option St
 |[],_=>none
 | s::l,i=>match fndS s i with
   |some x=>some x
   |none=>X1r l (i - szS s)
end
theorem X2V (i:Int):X1r [] i=none:=by simp only[X1r]
theorem X0S (d c v n:Int) (t:Tm) (a b:List St) (bs:List Int) (l:List St) (i:Int):X1r (.mk d c v n t a b bs::l) i=
  if i=0 then some (.mk d c v n t a b bs)else
  match X1r a (i - 1)with
  |some x=>some x
  | none=>match X1r b (i - 1 - szL a)with
    |some x=>some x
    |none=>X1r l (i - 1 - szL a - szL b):=by
 have h:i - ((1+szL a+szL b:Nat):Int)=i - 1 - szL a - szL b:=by omega
 simp only[X1r,fndS,szS];rw[h];by_cases h0:i=0
 · simp only[h0,if_true]
 simp only[h0,if_false];cases X1r a (i - 1)with
 |some x=>rfl
 |none=>rfl
end Go.Proofs.YtppjennamodfdaaGreat

namespace Go.Proofs.YtppjennamodfdaaGreat
open Go Go.Hl
theorem Xag (l:List St) (s:St):Xa (l++[s])=Xa l++[s.enc]:=by
 rw[W2,W2,List.map_append];rfl
theorem X7Q (l:List St):Xl l≤1000000→Wm l=true→∀i:Int,-5000000≤i→i≤5000000→∀d:Nat,Con Tryz.prog 103 false [lS l,li i] (.v (lS (woL l i))) none d:=by
 revert l
 apply St.lists;intro l ih hn hbn i hi0 hi1 d;have hlen:=Q9 l;have hszl:=Qw l;obtain⟨res,hres⟩:∃r,woL l i=r:=⟨_,rfl⟩;rw[hres];refine X7 Tryz.func103 ?_;simp only[Tryz.f103];refine X4 ?_;refine X4 ?_;refine X0<|X0<|X3 ?_;refine X5<|(Xd [11,12] (fun(x:Nat×Int×List St)=>[(1,.v (li x.2.1)),(5,.v (.one (.own 1003))),(13,.v (li x.1))]) (fun x=>[(1003,.row 76 10 (Xa x.2.2))]) (fun x=>x.1≤l.length∧x.2.2++woL (l.drop x.1) x.2.1=res∧x.2.2.length≤x.1∧-6000000≤x.2.1 - szL (l.drop x.1)∧x.2.1≤5000000) (fun x=>l.length - x.1) (0,i,[]) ⟨Nat.zero_le _,by simpa using hres,Nat.le_refl _,by simp only[List.drop_zero];omega,hi1⟩ ?_ ?_)
 · exact X6 (fun n=>n) [1003]
 rintro⟨k,c,acc⟩ ⟨hk,hJ,hal,hc0,hc1⟩;simp only[upS,X8,Xy]
 try simp only[X8,KN,Nat.reduceBEq,if_true,if_false,ins,Nat.reduceLT]
 simp only at hk hJ hal hc0 hc1;clear hres hi0 hi1;refine X4 ?_;refine X0<|(X9 rfl (fun h5=>Xb ?_) (fun h5=>?_))
 · (try simp only[BN]at h5);have hlt:k<l.length:=by omega
   obtain⟨s,he,hd⟩:=Xq hlt;have hw1:=XA hlt (by omega);have hk1:k+1≤l.length:=hlt;have hmem:s∈l:=List.mem_of_getElem? he;have hnm:=Qm hmem;have hbm:=X1A hbn hmem
   have hsz:s.nodes≤1000000:=by
    obtain⟨sd,sc,sv,sn,t,sa,sb,sbs⟩:=s;simp only[St.then_,St.else_,St.term,St.nodes]at*;omega
   have cc:=XcQ s hsz hbm;rw[hd]at hJ hc0;simp only[woL]at hJ;simp only[szL]at hc0;have he':=XX he;have iha:=(ih s hmem).1 (by omega);have ihb:=(ih s hmem).2 (by omega);have hroom:Qa (acc.length+1) 144:=Xx (by omega) (by omega);obtain⟨sd,sc,sv,sn,⟨so,stn,sks⟩,sa,sb,sbs⟩:=s;simp only[X0B,Bool.and_eq_true,decide_eq_true_eq]at hbm;simp only[St.then_,St.else_,St.term]at iha ihb hnm;have iha:=iha hbm.2.1;have ihb:=ihb hbm.2.2;have ca:=X4e sa (by omega);have cb:=X4e sb (by omega);have hla:=Qw sa;have hlb:=Qw sb;have hida:=ZN sa;have hidb:=ZN sb;simp only[woS,szS]at hJ;simp only[szS]at hc0;simp only[St.enc,Tm.enc,List.cons_append,List.nil_append]at he';simp only[aS,St.enc,Tm.enc,List.map_cons,List.map_nil,List.cons_append,List.nil_append]at cc;generalize szL sa=na at*;generalize szL sb=nb at*;have hwa:IntKind.i64.wrap (c - 1)=c - 1:=Xc (by omega) (by omega);have hc:c - ((1+na+nb:Nat):Int)=c - 1 - ((na:Int)+(nb:Int)):=by omega
   rw[hc]at hJ;clear hlt h5 ih hmem hd he hbm hsz hc;refine X0<|X5<|X0<|X3 ?_;refine X0<|X0<|X3 ?_;refine(Xe rfl (fun h8=>?_) fun h8=>?_)
   · (try simp only[BN]at h8);have hw2:IntKind.i64.wrap ((na:Int)+(nb:Int))=(na:Int)+(nb:Int):=Xc (by omega) (by omega);have hw3:IntKind.i64.wrap (c - 1 - ((na:Int)+(nb:Int)))=c - 1 - ((na:Int)+(nb:Int)):=Xc (by omega) (by omega);rw[if_pos (by simpa using h8),List.nil_append]at hJ;clear h8 iha ihb hida hidb cc;refine X4 ?_;refine X0<|(Qk [⟨true,.v (li (na:Int)),none⟩,⟨true,.v (li (nb:Int)),none⟩] (by kernel_rfl) (by kernel_rfl) (by rfl) (by simp[*];first|exact⟨rfl,Iff.rfl⟩|exact⟨rfl,trivial⟩|rfl) ?_ ?_)
     · first|exact⟨ca _,cb _⟩|exact trivial|(repeat' first|exact trivial|exact ca _|exact cb _|apply And.intro)
     refine(Xg ?_);refine X3 ?_;exact⟨(k+1,c - 1 - ((na:Int)+(nb:Int)),acc),⟨hk1,hJ,by simp only;omega,by simp only;omega,by simp only;omega⟩,by simp only;omega,X6 (fun n=>n) []⟩
   (try simp only[BN]at h8);have hne:¬c=0:=by simpa using h8
   rw[if_neg hne,←List.append_assoc]at hJ;have iha:=fun h0 h1=>iha (c - 1) h0 h1;have hida:=hida (c - 1);have ihb:=fun h0 h1=>ihb (c - 1 - (na:Int)) h0 h1;have hidb:=hidb (c - 1 - (na:Int));obtain⟨A,hA⟩:∃x,woL sa (c - 1)=x:=⟨_,rfl⟩;obtain⟨B,hB⟩:∃x,woL sb (c - 1 - (na:Int))=x:=⟨_,rfl⟩;rw[hA]at iha hida hJ;rw[hB]at ihb hidb hJ;have hw4:IntKind.i64.wrap (c - 1 - (na:Int))=c - 1 - (na:Int):=Xc (by omega) (by omega);have hw5:IntKind.i64.wrap (c - 1 - (na:Int) - (nb:Int))=c - 1 - (na:Int) - (nb:Int):=Xc (by omega) (by omega);have hsn:=Xag acc (.mk sd sc sv sn (.mk so stn sks) A B sbs);simp only[St.enc,Tm.enc,List.cons_append,List.nil_append]at hsn;clear h8 hA hB;refine X4 ?_;refine Xk [⟨false,.v (.agg [.c (iC sd),.c (iC sc),.c (iC sv),.c (iC sn),.c (iC so),.c (iC stn),.c (.sl 3 (Xo sks)),.c (.sl 10 (Xa sa)),.c (.sl 10 (Xa sb)),.c (.sl 1 (Xj sbs))]),none⟩] ?_ ?_
   · first|exact cc _|exact trivial|simpa[*]using cc _
   refine(XO [1,5,7,8,11,12,13] (fun(z:Unit)=>[]) (fun(z:Unit)=>[(7,.box [.c (iC sd),.c (iC sc),.c (iC sv),.c (iC sn),.c (iC so),.c (iC stn),.c (.sl 3 (Xo sks)),.c (.sl 10 (Xa sa)),.c (.sl 10 (Xa sb)),.c (.sl 1 (Xj sbs))]),(8,.box [.c (iC sd),.c (iC sc),.c (iC sv),.c (iC sn),.c (iC so),.c (iC stn),.c (.sl 3 (Xo sks)),.c (.sl 10 (Xa A)),.c (.sl 10 (Xa sb)),.c (.sl 1 (Xj sbs))]),(1003,.row 76 10 (Xa acc))]) (fun(z:Unit)=>True) ?_ ?_)
   ·
    refine Xk [⟨true,.v (li (na:Int)),none⟩] ?_ ?_
    · first|exact ca _|exact trivial|simpa[*]using ca _
    refine X4 ?_;refine(Xe rfl (fun h18=>?_) fun h18=>?_)
    · try simp only[BN]at h18
      have h18':1≤c∧c - 1<(na:Int):=by
       first|omega|(simp at h18;omega)
      have iha:=iha (by omega) (by omega);refine(Xp [⟨false,.v (lS A),none⟩] ?_ ?_)
      · first|exact iha _|exact trivial|simpa[*]using iha _
      exact⟨(),trivial,X6 (fun n=>n) []⟩
    try simp only[BN]at h18
    have hAs:A=sa:=hida (by
     first|omega|(simp at h18;omega))
    clear iha hida hsn hJ;subst hAs;exact⟨(),trivial,X6 (fun n=>n) []⟩
   rintro⟨⟩ hz;simp only[upS,X8,Xy]
   try simp only[X8,KN,Nat.reduceBEq,if_true,if_false,ins,Nat.reduceLT]
   refine Xk [⟨true,.v (li (na:Int)),none⟩] ?_ ?_
   · first|exact ca _|exact trivial|simpa[*]using ca _
   refine(XO [1,5,7,8,11,12,13] (fun(z:Unit)=>[]) (fun(z:Unit)=>[(7,.box [.c (iC sd),.c (iC sc),.c (iC sv),.c (iC sn),.c (iC so),.c (iC stn),.c (.sl 3 (Xo sks)),.c (.sl 10 (Xa sa)),.c (.sl 10 (Xa sb)),.c (.sl 1 (Xj sbs))]),(8,.box [.c (iC sd),.c (iC sc),.c (iC sv),.c (iC sn),.c (iC so),.c (iC stn),.c (.sl 3 (Xo sks)),.c (.sl 10 (Xa A)),.c (.sl 10 (Xa B)),.c (.sl 1 (Xj sbs))]),(1003,.row 76 10 (Xa acc))]) (fun(z:Unit)=>True) ?_ ?_)
   ·
    refine Xk [⟨true,.v (li (nb:Int)),none⟩] ?_ ?_
    · first|exact cb _|exact trivial|simpa[*]using cb _
    refine X4 ?_;refine(Xe rfl (fun h26=>?_) fun h26=>?_)
    · try simp only[BN]at h26
      have h26':0≤c - 1 - (na:Int)∧c - 1 - (na:Int)<(nb:Int):=by
       first|omega|(simp at h26;omega)
      have ihb:=ihb (by omega) (by omega);refine(Xp [⟨false,.v (lS B),none⟩] ?_ ?_)
      · first|exact ihb _|exact trivial|simpa[*]using ihb _
      exact⟨(),trivial,X6 (fun n=>n) []⟩
    try simp only[BN]at h26
    have hBs:B=sb:=hidb (by
     first|omega|(simp at h26;omega))
    clear ihb hidb hsn hJ;subst hBs;exact⟨(),trivial,X6 (fun n=>n) []⟩
   rintro⟨⟩ hz2;simp only[upS,X8,Xy]
   try simp only[X8,KN,Nat.reduceBEq,if_true,if_false,ins,Nat.reduceLT]
   refine Xk [⟨true,.v (li (nb:Int)),none⟩] ?_ ?_
   · first|exact cb _|exact trivial|simpa[*]using cb _
   refine X3 ?_;refine X3 ?_;exact⟨(k+1,c - 1 - (na:Int) - (nb:Int),acc++[.mk sd sc sv sn (.mk so stn sks) A B sbs]),⟨hk1,by simp only;rw[show c - 1 - (na:Int) - (nb:Int)=c - 1 - ((na:Int)+(nb:Int)) by omega];exact hJ,by simp only[List.length_append,List.length_singleton];omega,by simp only;omega,by simp only;omega⟩,by simp only;omega,X6 (fun n=>if n=1003 then 77 else n) []⟩
 (try simp only[BN]at h5);have hkl:k=l.length:=by omega
 rw[hkl,List.drop_length]at hJ;simp only[woL,List.append_nil]at hJ;subst hJ;refine(Xg ?_);refine X4 ?_;exact XU ⟨.inr rfl,_,XR 1003 rfl,⟨⟨_,by simp;rfl,by simp[XN]⟩,by simp,fun h=>by cases h⟩⟩
end Go.Proofs.YtppjennamodfdaaGreat

namespace Go.Proofs.YtppjennamodfdaaGreat
open Go Go.Hl
theorem X9M (f:Fl) (hv:f.vars.length≤1000000) (hh:f.hats.length≤1000000) (ht:∀h∈f.hats,h.term.nodes≤1000000) (hn:Xl f.body≤1000000) (hb:Wm f.body=true) (i:Int) (h0:0≤i) (h1:i<(szL f.body:Int)) (d:Nat):
  Con Tryz.prog 67 false [aF f,li i] (.tup [aF ⟨f.vars,f.hats,woL f.body i⟩,li 0]) none d:=by
 have cs:=Xcp f (by omega);have cv:=X5G f.vars hv;have hsl:=Qw f.body;have cw:=X7Q f.body hn hb i (by omega) (by omega);obtain⟨vars,hats,body⟩:=f;simp only at hv hh ht cs cv cw h1;obtain⟨G,hG⟩:∃x,woL body i=x:=⟨_,rfl⟩;obtain⟨N,hN⟩:∃x,szL body=x:=⟨_,rfl⟩;rw[hN]at cs h1;rw[hG]at cw⊢;have hneg:¬i<0:=by omega
 have hge:¬(N:Int)≤i:=by omega
 clear hG hN hsl hn hb;refine X7 Tryz.func67 ?_;simp only[Tryz.f67];simp only[aF,Fl.enc,List.map_cons,List.map_nil]at cs⊢;refine X4 ?_;refine X0<|X0<|(Xp [⟨true,.v (li (N:Int)),none⟩] ?_ ?_)
 · first|exact cs _|exact trivial|simpa[*]using cs _
 refine(Xe rfl (fun h2=>?_) fun h2=>?_)
 · exact Bool.noConfusion h2
 (try simp only[BN]at h2);refine X0<|(Qk [⟨false,.v (lV vars),none⟩,⟨false,.v (lS G),none⟩] (by kernel_rfl) (by kernel_rfl) (by rfl) (by simp[*,XD,Qd,XQ];first|exact⟨rfl,Iff.rfl⟩|exact⟨rfl,trivial⟩|rfl) ?_ ?_)
 · first|exact⟨cv _,cw _⟩|exact trivial|(repeat' first|exact trivial|exact cv _|exact cw _|apply And.intro)
 refine X0<|X0<|X3 ?_;refine X5<|(Xd [4,6,27,28] (fun(x:Nat)=>[(29,.v (li x))]) (fun x=>[(4,.box [.c (.lit XY),.c (.lit XY),.c (.lit XY)]),(6,.box [.c (.sl 5 (Xs vars)),.own 900001,.c (.sl 10 (Xa G))]),(900001,.row 99 6 (Xt (hats.take x)))]) (fun x=>x≤hats.length) (fun x=>hats.length - x) (0:Nat) (Nat.zero_le _) ?_ ?_)
 · exact X6 (fun n=>n) [900001]
 rintro k hk;simp only[upS,X8,Xy]
 try simp only[X8,KN,Nat.reduceBEq,if_true,if_false,ins,Nat.reduceLT]
 refine X4 ?_;refine X0<|(X9 rfl (fun h9=>Xb ?_) (fun h9=>?_))
 · (try simp only[BN]at h9);have hlt:k<hats.length:=by omega
   obtain⟨h,he,hd⟩:=Xq hlt;have hw1:=XA hlt (by omega);have hk1:k+1≤hats.length:=hlt;have hmem:h∈hats:=List.mem_of_getElem? he;have ct:=X7e h.term (ht h hmem);have htl:(hats.take k).length=k:=by rw[List.length_take];omega
   have hroom:Qa (k+1) 72:=Xx (by omega) (by omega)
   have hsn:Xt (hats.take (k+1))=Xt (hats.take k)++[h.enc]:=by
    unfold Xt;rw[List.take_add_one,he,Option.toList_some,List.map_append];rfl
   have he':(Xt hats)[k]? =some h.enc:=by simp[he]
   obtain⟨hnm,hlo,hhi,⟨ho,htn,hks⟩⟩:=h;simp only[aT,Tm.enc,List.map_cons,List.map_nil]at ct;simp only[Ht.enc,Tm.enc,List.cons_append,List.nil_append]at hsn he';clear hlt h9 hmem hd he ht cs cv cw;refine X0<|X5<|X0<|X3 ?_;refine Xk [⟨false,.v (.agg [.c (iC ho),.c (iC htn),.c (.sl 3 (Xo hks))]),none⟩] ?_ ?_
   · first|exact ct _|exact trivial|simpa[*]using ct _
   refine X3 ?_;refine X3 ?_;exact⟨k+1,hk1,by omega,X6 (fun n=>if n=900001 then 41 else n) []⟩
 (try simp only[BN]at h9);have hkl:k=hats.length:=by omega
 subst hkl;simp only[List.take_length];refine(Xg ?_);refine XC (XR 900001 rfl) ?_;refine X4 ?_;exact XU ⟨.inr rfl,_,le_refl _,⟨⟨_,by simp;rfl,by simp[XN]⟩,by simp,fun h=>by cases h⟩⟩
end Go.Proofs.YtppjennamodfdaaGreat

namespace Go.Proofs.YtppjennamodfdaaGreat
open Go Go.Hl
mutual
def tL:Tm→Int→Int
 | .mk _ _ ks,left=>tLs ks (left - 1)
def tLs:List Tm→Int→Int
 |[],left=>left
 |t::l,left=>if 0≤left then tLs l (tL t left)else left
end
def lo1 (x:Int):Int:=if x<0 then x else -1
mutual
theorem X5o:∀(t:Tm) (left:Int),lo1 (left - 1)≤tL t left∧tL t left≤left - 1
 | .mk _ _ ks,left=>by
   simp only[tL];exact Xb2 ks (left - 1)
theorem Xb2:∀(l:List Tm) (left:Int),lo1 left≤tLs l left∧tLs l left≤left
 | [],left=>by
   simp only[tLs,lo1];split<;>omega
 | t ::l,left=>by
   simp only[tLs];split
   · have h1:=X5o t left;have h2:=Xb2 l (tL t left);unfold lo1 at*;refine⟨?_,by omega⟩;split
     · omega
     refine Int.le_trans ?_ h2.1;split<;>(try split at h1)<;>omega
   unfold lo1;split<;>omega
end
theorem tLs_neg (l:List Tm) (left:Int) (h:left<0):tLs l left=left:=by
 cases l with
 |nil=>rfl
 |cons t l=>simp only[tLs];rw[if_neg (by omega)]
mutual
theorem XaU:∀(t:Tm) (left:Int),0≤tL t left→tL t left=left - t.nodes
 | .mk _ _ ks,left=>by
   simp only[tL,Tm.nodes];intro h;have:=Xbx ks (left - 1) h;omega
theorem Xbx:∀(l:List Tm) (left:Int),0≤tLs l left→tLs l left=left - Qr l
 |[],left=>by simp[tLs,Qr]
 | t::l,left=>by
   simp only[tLs,Qr];split
   · intro h;have h1:=Xbx l (tL t left) h;have h2:=Xb2 l (tL t left);have h3:=XaU t left (by omega);omega
   intro h;omega
end
def sL:List St→Int→Int
 |[],left=>left
 | .mk _ _ _ _ t a b bs::l,left=>
   if 0≤left then(if tL t (left - 1)<bs.length then -1 else sL l (sL b (sL a (tL t (left - 1) - bs.length))))else left
theorem sL_neg (l:List St) (left:Int) (h:left<0):sL l left=left:=by
 cases l with
 |nil=>simp[sL]
 |cons s l=>obtain⟨d,c,v,n,t,a,b,bs⟩:=s;simp only[sL];rw[if_neg (by omega)]
theorem X3r:∀(l:List St) (left:Int),lo1 left≤sL l left∧sL l left≤left
 | [],left=>by
   simp only[sL,lo1];split<;>omega
 | .mk _ _ _ _ t a b bs::l,left=>by
   simp only[sL];by_cases h0:0≤left
   · rw[if_pos h0];have e:lo1 left=-1:=by unfold lo1;rw[if_neg (by omega)]
     rw[e];split
     · omega
     have h1:=X5o t (left - 1);have ha:=X3r a (tL t (left - 1) - bs.length);have hb:=X3r b (sL a (tL t (left - 1) - bs.length));have hl:=X3r l (sL b (sL a (tL t (left - 1) - bs.length)));refine⟨?_,by omega⟩;generalize sL l (sL b (sL a (tL t (left - 1) - bs.length)))=z at*;generalize sL b (sL a (tL t (left - 1) - bs.length))=y at*;generalize sL a (tL t (left - 1) - bs.length)=x at*;generalize tL t (left - 1)=w at*;unfold lo1 at ha hb hl
     (repeat' split at ha)<;>(repeat' split at hb)<;>(repeat' split at hl)<;>omega
   rw[if_neg h0];unfold lo1;split<;>omega
theorem X7R:∀(l:List St) (left:Int),left≤1000000→0≤sL l left→sL l left≤left - Xl l∧Wm l=true
 |[],left,_,_=>by simp[sL,Xl,Wm]
 | .mk _ _ _ _ t a b bs::l,left,hle,h=>by
   simp only[sL]at h⊢;by_cases h0:0≤left
   · rw[if_pos h0]at h⊢;split at h
     · omega
     rename_i hbs;rw[if_neg hbs];have i0:=X5o t (left - 1);have ia:=X3r a (tL t (left - 1) - bs.length);have ib:=X3r b (sL a (tL t (left - 1) - bs.length));have il:=X3r l (sL b (sL a (tL t (left - 1) - bs.length)));have p3:=X7R l (sL b (sL a (tL t (left - 1) - bs.length))) (by omega) h;have p2:=X7R b (sL a (tL t (left - 1) - bs.length)) (by omega) (by omega);have p1:=X7R a (tL t (left - 1) - bs.length) (by omega) (by omega);have p0:=XaU t (left - 1) (by omega);simp only[Xl,St.nodes,Wm,X0B,p1.2,p2.2,p3.2,Bool.and_true,decide_eq_true_eq];omega
   rw[if_neg h0]at h;omega
def hL:List Ht→Int→Int
 |[],m=>m
 |h::l,m=>hL l (tL h.term m)
theorem hL_le:∀(l:List Ht) (m:Int),hL l m≤m
 |[],m=>by simp[hL]
 | h::l,m=>by
   have h1:=hL_le l (tL h.term m);have h2:=X5o h.term m;simp only[hL];omega
theorem hL_pos:∀(l:List Ht) (m:Int),0≤hL l m→hL l m=m - QI l
 |[],m,_=>by simp[hL,QI]
 | h::l,m,h0=>by
   simp only[hL,QI]at h0⊢;have h1:=hL_pos l _ h0;have h2:=hL_le l (tL h.term m);have h3:=XaU h.term m (by omega);omega
def X1p (f:Fl) (vars nodes:Int):Bool:=if vars<f.vars.length∨vars<f.hats.length then false else decide (0≤hL f.hats (sL f.body nodes))
theorem X7F {f:Fl} {vars nodes:Int} (hn:nodes≤1000000) (h:X1p f vars nodes=true):f.vars.length≤vars∧f.hats.length≤vars∧Xl f.body+QI f.hats≤nodes∧Wm f.body=true:=by
 unfold X1p at h;split at h
 · cases h
 rename_i h1;simp only[decide_eq_true_eq]at h;have e1:=hL_pos _ _ h;have e2:=hL_le f.hats (sL f.body nodes);have e3:=X7R f.body nodes hn (by omega);exact⟨by omega,by omega,by omega,e3.2⟩
theorem X6B (t:Tm):∀left:Int,-1000000≤left→left≤1000000→∀d:Nat,Con Tryz.prog 78 true [aT t,li left] (.v (li (tL t left))) none d:=by
 induction t using Tm.ind with
 |h o n ks ih=>
 intro left h1 h2 d;obtain⟨res,hres⟩:∃r,tL (.mk o n ks) left=r:=⟨_,rfl⟩;rw[hres];simp only[tL]at hres;have hw0:IntKind.i64.wrap (left - 1)=left - 1:=Xc (by omega) (by omega);refine X7 Tryz.func78 ?_;simp only[Tryz.f78];simp only[aT,Tm.enc];refine X4 ?_;refine X4 ?_;refine X0<|X0<|X3 ?_;refine X5<|(Xd [2] (fun(x:Nat×Int)=>[(1,.v (li x.2)),(5,.v (li x.1))]) (fun x=>[(2,.box [.c (iC o),.c (iC n),.c (.sl 3 (Xo ks))])]) (fun x=>x.1≤ks.length∧tLs (ks.drop x.1) x.2=res∧-1000001≤x.2∧x.2+x.1≤1000000) (fun x=>ks.length - x.1) (0,left - 1) ⟨Nat.zero_le _,by simpa using hres,by simp only;omega,by simp only;omega⟩ ?_ ?_)
 · exact X6 (fun n=>n) []
 rintro⟨k,m⟩ ⟨hk,hJ,hm,hm2⟩;simp only[upS,X8,Xy]
 try simp only[X8,KN,Nat.reduceBEq,if_true,if_false,ins,Nat.reduceLT]
 simp only at hk hJ hm hm2;refine X0<|X0<|X3 ?_;refine(X9 rfl (fun h5=>Xb ?_) (fun h5=>?_))
 · (try simp only[BN]at h5);have hlt:k<ks.length:=by omega
   have hm0:0≤m:=by omega
   obtain⟨⟨eo,en,ek⟩,he,hd⟩:=Xq hlt;have he':=Wt he;simp only[Tm.enc]at he';have hw1:IntKind.i64.wrap ((k:Int)+1)=(k:Int)+1:=Xc (by omega) (by omega);rw[hd]at hJ;simp only[tLs]at hJ;rw[if_pos hm0]at hJ;have hk1:k+1≤ks.length:=hlt;have c:=ih _ (List.mem_of_getElem? he) m (by omega) (by omega);have hti:=X5o (.mk eo en ek) m;have hlo:-1≤lo1 (m - 1):=by unfold lo1;split<;>omega
   obtain⟨M,hM⟩:∃x,tL (.mk eo en ek) m=x:=⟨_,rfl⟩;rw[hM]at c hJ hti;clear hlt h5 hM ih hd;refine X0<|X5<|(Xp [⟨true,.v (li M),none⟩] ?_ ?_)
   · first|exact c _|exact trivial|simpa[*]using c _
   refine X3 ?_;exact⟨(k+1,M),⟨hk1,hJ,by simp only;omega,by simp only;omega⟩,by simp only;omega,X6 (fun n=>n) []⟩
 try simp only[BN]at h5
 have hz:tLs (ks.drop k) m=m:=by
  by_cases hm0:m<0
  · exact tLs_neg _ _ hm0
  have hkl:k=ks.length:=by omega
  rw[hkl,List.drop_length];rfl
 rw[hz]at hJ;subst hJ;refine(Xg ?_);refine X4 ?_;exact Xh
theorem Xcb (l:List St):∀left:Int,-1000000≤left→left≤1000000→∀d:Nat,Con Tryz.prog 77 true [lS l,li left] (.v (li (sL l left))) none d:=by
 revert l
 apply St.lists;intro l ih left h1 h2 d;obtain⟨res,hres⟩:∃r,sL l left=r:=⟨_,rfl⟩;rw[hres];refine X7 Tryz.func77 ?_;simp only[Tryz.f77];refine X4 ?_;refine X0<|X0<|X3 ?_;refine X5<|(Xd [0] (fun(x:Nat×Int)=>[(1,.v (li x.2)),(5,.v (li x.1))]) (fun x=>[]) (fun x=>x.1≤l.length∧sL (l.drop x.1) x.2=res∧-1000001≤x.2∧x.2+x.1≤1000000) (fun x=>l.length - x.1) (0,left) ⟨Nat.zero_le _,hres,by simp only;omega,by simp only;omega⟩ ?_ ?_)
 · exact X6 (fun n=>n) []
 rintro⟨k,m⟩ ⟨hk,hJ,hm,hm2⟩;simp only[upS,X8,Xy]
 try simp only[X8,KN,Nat.reduceBEq,if_true,if_false,ins,Nat.reduceLT]
 simp only at hk hJ hm hm2;clear hres;refine X0<|X0<|X3 ?_;refine(X9 rfl (fun h4=>Xb ?_) (fun h4=>?_))
 · (try simp only[BN]at h4);have hlt:k<l.length:=by omega
   have hm0:0≤m:=by omega
   obtain⟨s,he,hd⟩:=Xq hlt;have hmem:s∈l:=List.mem_of_getElem? he;have iha:=(ih s hmem).1;have ihb:=(ih s hmem).2;have hw1:IntKind.i64.wrap ((k:Int)+1)=(k:Int)+1:=Xc (by omega) (by omega);have hk1:k+1≤l.length:=hlt;have he':=XX he;obtain⟨sd,sc,sv,sn,⟨so,stn,sks⟩,sa,sb,sbs⟩:=s;simp only[St.then_,St.else_]at iha ihb;simp only[St.enc,Tm.enc,List.cons_append,List.nil_append]at he';rw[hd]at hJ;simp only[sL]at hJ;rw[if_pos hm0]at hJ;have hw2:IntKind.i64.wrap (m - 1)=m - 1:=Xc (by omega) (by omega);have c:=X6B (.mk so stn sks) (m - 1) (by omega) (by omega);have hti:=X5o (.mk so stn sks) (m - 1);have hlo:-2≤lo1 (m - 1 - 1):=by unfold lo1;split<;>omega
   obtain⟨M,hM⟩:∃x,tL (.mk so stn sks) (m - 1)=x:=⟨_,rfl⟩;rw[hM]at c hJ hti;simp only[aT,Tm.enc,List.map_cons,List.map_nil]at c;clear hlt h4 hM ih hd hmem;refine X0<|X5<|X0<|(Xp [⟨true,.v (li M),none⟩] ?_ ?_)
   · first|exact c _|exact trivial|simpa[*]using c _
   refine X0<|X0<|X3 ?_;refine(Xe rfl (fun h7=>?_) fun h7=>?_)
   · (try simp only[BN]at h7);rw[if_pos h7]at hJ;subst hJ;refine X4 ?_;exact Xh
   (try simp only[BN]at h7);rw[if_neg (by omega)]at hJ;have hw3:IntKind.i64.wrap (M - (sbs.length:Int))=M - (sbs.length:Int):=Xc (by omega) (by omega);have c1:=iha (M - sbs.length) (by omega) (by omega);have s1:=X3r sa (M - sbs.length);have hl1:-1≤lo1 (M - sbs.length):=by unfold lo1;split<;>omega
   obtain⟨M1,hM1⟩:∃x,sL sa (M - sbs.length)=x:=⟨_,rfl⟩;rw[hM1]at c1 s1 hJ;have c2:=ihb M1 (by omega) (by omega);have s2:=X3r sb M1;have hl2:-1≤lo1 M1:=by unfold lo1;split<;>omega
   obtain⟨M2,hM2⟩:∃x,sL sb M1=x:=⟨_,rfl⟩;rw[hM2]at c2 s2 hJ;clear iha ihb hM1 hM2 h7 c;refine(Qk [⟨true,.v (li M1),none⟩,⟨true,.v (li M2),none⟩] (by kernel_rfl) (by kernel_rfl) (by rfl) (by simp[*];first|exact⟨rfl,Iff.rfl⟩|exact⟨rfl,trivial⟩|rfl) ?_ ?_)
   · first|exact⟨c1 _,c2 _⟩|exact trivial|(repeat' first|exact trivial|exact c1 _|exact c2 _|apply And.intro)
   refine X3 ?_;exact⟨(k+1,M2),⟨hk1,hJ,by simp only;omega,by simp only;omega⟩,by simp only;omega,X6 (fun n=>n) []⟩
 try simp only[BN]at h4
 have hz:sL (l.drop k) m=m:=by
  by_cases hm0:m<0
  · exact sL_neg _ _ hm0
  have hkl:k=l.length:=by omega
  rw[hkl,List.drop_length];simp[sL]
 rw[hz]at hJ;subst hJ;refine(Xg ?_);refine X4 ?_;exact Xh
theorem Xb8 (f:Fl) (vars nodes:Int) (hv:0≤vars∧vars≤1000) (hn:0≤nodes∧nodes≤1000) (d:Nat):Con Tryz.prog 41 true [aF f,li vars,li nodes] (.v (lb (X1p f vars nodes))) none d:=by
 obtain⟨vs,hats,body⟩:=f;obtain⟨res,hres⟩:∃r,X1p ⟨vs,hats,body⟩ vars nodes=r:=⟨_,rfl⟩;rw[hres];unfold X1p at hres;simp only at hres;have cs:=Xcb body nodes (by omega) (by omega);have hsi:=X3r body nodes;have hlo:-2≤lo1 nodes:=by unfold lo1;split<;>omega
 obtain⟨S,hS⟩:∃x,sL body nodes=x:=⟨_,rfl⟩;rw[hS]at hres cs hsi;clear hS;refine X7 Tryz.func41 ?_;simp only[Tryz.f41];simp only[aF,Fl.enc,List.map_cons,List.map_nil];refine X4 ?_;refine X0<|X0<|X3 ?_;refine(Xe rfl (fun h2=>?_) fun h2=>?_)
 · (try simp only[BN]at h2);rw[if_pos (by omega)]at hres;subst hres;refine X4 ?_;exact Xh
 (try simp only[BN]at h2);rw[if_neg (by omega)]at hres;obtain⟨E,hE⟩:∃x,hL hats S=x:=⟨_,rfl⟩;rw[hE]at hres;refine Xk [⟨true,.v (li S),none⟩] ?_ ?_
 · first|exact cs _|exact trivial|simpa[*]using cs _
 refine X0<|X0<|X3 ?_;refine X5<|(Xd [27,28] (fun(x:Nat×Int)=>[(7,.v (li x.2)),(29,.v (li x.1))]) (fun x=>[]) (fun x=>x.1≤hats.length∧hL (hats.drop x.1) x.2=E∧-2 - (x.1:Int)≤x.2∧x.2≤1000) (fun x=>hats.length - x.1) (0,S) ⟨Nat.zero_le _,hE,by simp only;omega,by simp only;omega⟩ ?_ ?_)
 · exact X6 (fun n=>n) []
 rintro⟨k,m⟩ ⟨hk,hJ,hm,hm2⟩;simp only[upS,X8,Xy]
 try simp only[X8,KN,Nat.reduceBEq,if_true,if_false,ins,Nat.reduceLT]
 simp only at hk hJ hm hm2;clear hE;refine X4 ?_;refine X0<|(X9 rfl (fun h9=>Xb ?_) (fun h9=>?_))
 · (try simp only[BN]at h9);have hlt:k<hats.length:=by omega
   obtain⟨h,he,hd⟩:=Xq hlt;have hw1:IntKind.i64.wrap ((k:Int)+1)=(k:Int)+1:=Xc (by omega) (by omega);have hk1:k+1≤hats.length:=hlt;have c:=X6B h.term m (by omega) (by omega);have hti:=X5o h.term m;have hl1:-3 - (k:Int)≤lo1 (m - 1):=by unfold lo1;split<;>omega
   rw[hd]at hJ;simp only[hL]at hJ;obtain⟨nm,lo,hi,⟨o,tn,ks⟩⟩:=h;simp only at c hti hJ;obtain⟨M,hM⟩:∃x,tL (.mk o tn ks) m=x:=⟨_,rfl⟩;rw[hM]at c hJ hti;simp only[aT,Tm.enc,List.map_cons,List.map_nil]at c;clear hlt h9 hM hd;refine X0<|X5<|X0<|X3 ?_;refine(Xp [⟨true,.v (li M),none⟩] ?_ ?_)
   · first|exact c _|exact trivial|simpa[*]using c _
   refine X3 ?_;exact⟨(k+1,M),⟨hk1,hJ,by simp only;omega,by simp only;omega⟩,by simp only;omega,X6 (fun n=>n) []⟩
 (try simp only[BN]at h9);have hkl:k=hats.length:=by omega
 rw[hkl,List.drop_length]at hJ;simp only[hL]at hJ;subst hJ;subst hres;refine(Xg ?_);refine X4 ?_;exact Xh
end Go.Proofs.YtppjennamodfdaaGreat
