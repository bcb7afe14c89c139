/- Contracts of functions and plain facts about what they compute. Conditions: as each theorem states. -/
import Derived.Test.YtdajceakaakdoaaGreatB10
import Derived.Test.YtdajceakaakdoaaGreatB1
import Derived.Test.YtdajceakaakdoaaGreatB7
import Derived.Test.YtdajceakaakdoaaGreatB9
import Derived.Test.YtdajceakaakdoaaGreatB8
import Derived.Test.YtdajceakaakdoaaGreatB5
import Derived.Test.YtdajceakaakdoaaGreatH6
import Derived.Test.YtdajceakaakdoaaGreatB2
set_option linter.unusedSimpArgs false
set_option linter.unusedVariables false
set_option linter.unnecessarySimpa false
set_option maxRecDepth 100000
set_option maxHeartbeats 2000000
namespace Go.Proofs.YtdajceakaakdoaaGreat
open Go Go.Hl
open Tryz(prog)
def stC (vars:List Vr) (nh:Nat) (d c v n:Int) (t:Tm) (la lc:Nat) (bs:List Int) (last:Bool):Int:=
 if shB vars nh d v n t la lc bs last=false then 1 else if X2P d c n bs=false then 3 else X0Y vars false t
def ssC (vars:List Vr) (nh:Nat):List St->Bool->Int
 |[],_=>0
 | .mk d c v n t a b bs::l,top=>
   if stC vars nh d c v n t a.length b.length bs (top&&l.isEmpty)=0 then
    (if ssC vars nh a false=0 then(if ssC vars nh b false=0 then ssC vars nh l top else ssC vars nh b false)else ssC vars nh a false)
   else stC vars nh d c v n t a.length b.length bs (top&&l.isEmpty)
mutual
def X43:St->Bool
 | .mk _ _ _ _ _ a b bs=>decide (bs.length<=1000000000)&&(Z6 a&&Z6 b)
def Z6:List St->Bool
 |[]=>true
 |s::l=>X43 s&&Z6 l
end
theorem X5r {l:List St} (h:Z6 l=true) {s:St} (hs:s∈l):X43 s=true:=by
 induction l with
 |nil=>cases hs
 | cons x l ih=>
   simp only[Z6,N4]at h;rcases Nh.1 hs with rfl|h1
   .exact h.1
   exact ih h.2 h1
theorem X6W {vars:List Vr} {nh:Nat} {d v n:Int} {t:Tm} {la lc:Nat} {bs:List Int} {last:Bool} (h:shB vars nh d v n t la lc bs last=true):(d=6->bs≠[])/\(d≠6->bs=[])/\(n<0->d=4):=by
 have hr:ZM bs=true->1<=bs.length:=by
  intro h;unfold ZM at h;simp only[N4,N6]at h;omega
 have hb:bs≠[]↔1<=bs.length:=by cases bs<;>simp
 have hb2:bs=[]↔bs.length=0:=by cases bs<;>simp
 rw[hb,hb2];unfold shB at h;generalize ZM bs=R at*;generalize bs.length=nb at*
 (repeat' split at h)<;>(try simp only[N4,N6]at h)<;>(try have:=hr h.2)<;>(try cases h)<;>refine⟨fun h=>?_,fun h=>?_,fun h=>?_⟩<;>omega
theorem X6O {l:List St} {k:Nat} (h:k+1<=l.length):(l.drop (k+1)).isEmpty=decide ((k:Int)=(l.length:Int) - 1):=by
 rw[Dk,Dj,List.drop_eq_nil_iff,N6];omega
def fnz (vars:List Vr) (nh:Nat):List (List St)->Int
 |[]=>0
 |x::r=>if ssC vars nh x false=0 then fnz vars nh r else ssC vars nh x false
theorem Xal (f:Fl) (hv:X0l f.vars) (hl:f.vars.length<=1000000) (l:List St):Xh l<=1000000000->Z6 l=true->∀(top:Bool) (d:Nat),
  Con prog 117 true [aF f,lS l,lb top] (.v (li (ssC f.vars f.hats.length l top))) none d:=by
 revert l
 apply St.lists;intro l ih hn hbn top d;have hlen:=Qm l;obtain⟨res,hres⟩:∃r,ssC f.vars f.hats.length l top=r:=⟨_,rfl⟩;rw[hres];have csh:=fun s last hb=>X8C f s last (by omega) hb;obtain⟨vars,hats,body⟩:=f;simp only at hv hl hres ih csh;refine X6 Tryz.func117 ?_;simp only[Tryz.f117];simp only[aF,Fl.enc,Ni,Nr];refine X1 ?_;refine X0<|X0<|X2 ?_;refine X3<|(Xd [1,2,3,13,14] (fun(x:Nat)=>[(15,.v (li x))]) (fun x=>[(3,.box [.c (.sl 5 (Xm vars)),.c (.sl 6 (Xn hats)),.c (.sl 10 (X7 body))])]) (fun x=>x<=l.length/\ssC vars hats.length (l.drop x) top=res) (fun x=>l.length - x) (0:Nat) ⟨Nq _,hres⟩ ?_ ?_)
 .exact X4 (fun n=>n) []
 rintro k ⟨hk,hJ⟩;simp only[upS,X5,Xy]
 try simp only[X5,KN,Nat.reduceBEq,Nf,Nc,ins,Nat.reduceLT]
 clear hres;refine X1 ?_;refine X0<|(X8 rfl (fun h4=>Xb ?_) (fun h4=>?_))
 ·(try simp only[BN]at h4);have hlt:k<l.length:=by omega
  obtain⟨s,he,hd⟩:=Xu hlt;have hmem:s∈l:=N3 he;have hnm:=Qz hmem;have hbm:=X5r hbn hmem;have iha:=fun h h2=>(ih s hmem).1 h h2;have ihb:=fun h h2=>(ih s hmem).2 h h2;have hw1:=XE hlt (by omega);have hw2:IntKind.i64.wrap ((l.length:Int) - 1)=(l.length:Int) - 1:=X9;have hk1:k+1<=l.length:=hlt;have hla:=X6O hk1;rw[hd]at hJ;have ct:=X6C vars false hv (by omega) s.term;have csh1:=csh s (top&&decide ((k:Int)=(l.length:Int) - 1));have cnu:=numP_con s;obtain⟨sd,sc,sv,sn,⟨so,stn,sks⟩,sa,sb,sbs⟩:=s;simp only[St.then_,St.else_,St.term,St.bounds,St.do_,St.var,St.n,St.cost]at iha ihb hnm ct csh1 cnu;simp only[X43,N4,N6]at hbm;simp only[ssC,hla]at hJ;have ca:=iha (by omega) hbm.2.1;have cb:=ihb (by omega) hbm.2.2;have ct:=ct (by omega);have csh1:=csh1 hbm.1;have cnu:=cnu hbm.1;have he':=Q2 he;simp only[St.enc,Tm.enc,List.cons_append,List.nil_append]at he';simp only[aF,Fl.enc,aS,St.enc,Tm.enc,Ni,Nr,List.cons_append,List.nil_append]at csh1 ca cb cnu;have hshb:=@X6W vars hats.length sd sv sn (.mk so stn sks) sa.length sb.length sbs (top&&decide ((k:Int)=(l.length:Int) - 1));obtain⟨SH,hSH⟩:∃x,shB vars hats.length sd sv sn (.mk so stn sks) sa.length sb.length sbs (top&&decide ((k:Int)=(l.length:Int) - 1))=x:=⟨_,rfl⟩;obtain⟨NU,hNU⟩:∃x,X2P sd sc sn sbs=x:=⟨_,rfl⟩;obtain⟨TC,hTC⟩:∃x,X0Y vars false (.mk so stn sks)=x:=⟨_,rfl⟩;obtain⟨SC,hSC⟩:∃x,stC vars hats.length sd sc sv sn (.mk so stn sks) sa.length sb.length sbs (top&&decide ((k:Int)=(l.length:Int) - 1))=x:=⟨_,rfl⟩;rw[hSC]at hJ;unfold stC at hSC;rw[hSH]at csh1 hshb hSC;rw[hNU]at cnu hSC;rw[hTC]at ct hSC
  have hlc2:∀x∈[sa,sb],∀d,Con prog 117 true [.agg [.c (.sl 5 (Xm vars)),.c (.sl 6 (Xn hats)),.c (.sl 10 (X7 body))],lS x,lb false] (.v (li (ssC vars hats.length x false))) none d:=by
   intro x hx;simp only[Nh,De,or_false]at hx;rcases hx with rfl|rfl
   .exact ca false
   exact cb false
  have hfn:(if ssC vars hats.length sa false=0 then(if ssC vars hats.length sb false=0 then ssC vars hats.length (l.drop (k+1)) top else ssC vars hats.length sb false)else ssC vars hats.length sa false)=(if fnz vars hats.length [sa,sb]=0 then ssC vars hats.length (l.drop (k+1)) top else fnz vars hats.length [sa,sb]):=by
   simp only[fnz];by_cases h1:ssC vars hats.length sa false=0<;>by_cases h2:ssC vars hats.length sb false=0<;>simp[h1,h2]
  rw[hfn]at hJ;obtain⟨LL,hLL⟩:∃x,x=[sa,sb]:=⟨_,rfl⟩;rw[<-hLL]at hJ hlc2;obtain⟨FN,hFN⟩:∃x,fnz vars hats.length LL=x:=⟨_,rfl⟩;rw[hFN]at hJ;have hrows:LL.map (fun x=>[CD.sl 10 (X7 x)])=[[.sl 10 (X7 sa)],[.sl 10 (X7 sb)]]:=by rw[hLL];rfl
  have hL2:LL.length=2:=by rw[hLL];rfl
  clear hlt h4 iha ihb ih hmem hnm hd he hbm hSH hNU hTC ca cb hfn hLL csh hla;refine X0<|X3<|X0<|X2 ?_;refine X0<|X0<|(Xo [⟨true,.v (lb SH),none⟩] ?_ ?_)
  .first|exact csh1 _|exact trivial|simpa[*]using csh1 _
  refine(Xc rfl (fun h7=>?_) fun h7=>?_)
  ·(try simp only[BN]at h7);rw[Na h7]at hSC;subst hSC;rw[N7 (by decide)]at hJ;subst hJ;refine X1 ?_;exact Xf
  (try simp only[BN]at h7);rw[N7 (by simp[h7])]at hSC;have hsb:=hshb h7;have cnu2:=cnu hsb.1 hsb.2.1;clear cnu hshb csh1;refine X0<|X0<|(Xo [⟨true,.v (lb NU),none⟩] ?_ ?_)
  .first|exact cnu2 _|exact trivial|simpa[*]using cnu2 _
  refine(Xc rfl (fun h11=>?_) fun h11=>?_)
  ·(try simp only[BN]at h11);rw[Na h11]at hSC;subst hSC;rw[N7 (by decide)]at hJ;subst hJ;refine X1 ?_;exact Xf
  (try simp only[BN]at h11);rw[N7 (by simp[h11])]at hSC;subst hSC;clear cnu2 hsb;refine X0<|X0<|(Xo [⟨true,.v (li TC),none⟩] ?_ ?_)
  .first|exact ct _|exact trivial|simpa[*]using ct _
  refine X1 ?_;refine(Xc rfl (fun h16=>?_) fun h16=>?_)
  ·(try simp only[BN]at h16);rw[N7 h16]at hJ;subst hJ;refine X1 ?_;exact Xf
  (try simp only[BN]at h16);rw[Na (by simpa using h16)]at hJ;clear ct;refine X1 ?_;refine X3<|(Xd [1,2,3,13,14,15,47,48] (fun(x:Nat)=>[(49,.v (li x))]) (fun x=>[(3,.box [.c (.sl 5 (Xm vars)),.c (.sl 6 (Xn hats)),.c (.sl 10 (X7 body))]),(47,.row 24 1 (LL.map fun x=>[CD.sl 10 (X7 x)]))]) (fun x=>x<=2/\fnz vars hats.length (LL.drop x)=FN) (fun x=>2 - x) (0:Nat) ⟨Nq _,hFN⟩ ?_ ?_)
  .exact X4 (fun n=>n) []
  rintro q ⟨hq,hJ2⟩;simp only[upS,X5,Xy]
  try simp only[X5,KN,Nat.reduceBEq,Nf,Nc,ins,Nat.reduceLT]
  clear hFN hrows;refine X1 ?_;refine X0<|(X8 rfl (fun h22=>Xb ?_) (fun h22=>?_))
  ·(try simp only[BN]at h22);have hlt2:q<LL.length:=by omega
   obtain⟨y,hy,hdy⟩:=Xu hlt2;have hwq:=XE hlt2 (by omega);have hq1:q+1<=2:=by omega
   have cy:=hlc2 y (N3 hy);rw[hdy]at hJ2;simp only[fnz]at hJ2;generalize ssC vars hats.length y false=SY at*;clear hlt2 h22 hdy hlc2;refine X0<|X3<|X0<|X2 ?_;refine Xk [⟨true,.v (li SY),none⟩] ?_ ?_
   .first|exact cy _|exact trivial|simpa[*]using cy _
   refine X1 ?_;refine(Xc rfl (fun h26=>?_) fun h26=>?_)
   ·(try simp only[BN]at h26);rw[N7 h26]at hJ2;subst hJ2;rw[N7 h26]at hJ;subst hJ;refine X1 ?_;exact Xf
   (try simp only[BN]at h26);rw[Na (by simpa using h26)]at hJ2;refine X2 ?_;exact⟨q+1,⟨hq1,hJ2⟩,by omega,X4 (fun n=>n) []⟩
  (try simp only[BN]at h22);have hq2:q=LL.length:=by omega
  rw[hq2,Nt]at hJ2;simp only[fnz]at hJ2;rw[Na hJ2.symm]at hJ;refine(Xg ?_);refine X2 ?_;exact⟨k+1,⟨hk1,hJ⟩,by omega,X4 (fun n=>n) []⟩
 (try simp only[BN]at h4);have hkl:k=l.length:=by omega
 rw[hkl,Nt]at hJ;simp only[ssC]at hJ;subst hJ;refine(Xg ?_);refine X1 ?_;exact Xf
theorem Xaa (f:Fl) (hv:X0l f.vars) (hl:f.vars.length<=1000000) (l:List St):Xh l<=1000000000->Z6 l=true->∀(top:Bool) (d:Nat),
  Con prog 53 true [aF f,lS l,lb top] (.v (li (ssC f.vars f.hats.length l top))) none d:=by
 revert l
 apply St.lists;intro l ih hn hbn top d;have hlen:=Qm l;obtain⟨res,hres⟩:∃r,ssC f.vars f.hats.length l top=r:=⟨_,rfl⟩;rw[hres];have csh:=fun s last hb=>X8T f s last (by omega) hb;obtain⟨vars,hats,body⟩:=f;simp only at hv hl hres ih csh;refine X6 Tryz.func53 ?_;simp only[Tryz.f53];simp only[aF,Fl.enc,Ni,Nr];refine X1 ?_;refine X0<|X0<|X2 ?_;refine X3<|(Xd [1,2,3] (fun(x:Nat)=>[(7,.v (li x))]) (fun x=>[(3,.box [.c (.sl 5 (Xm vars)),.c (.sl 6 (Xn hats)),.c (.sl 10 (X7 body))])]) (fun x=>x<=l.length/\ssC vars hats.length (l.drop x) top=res) (fun x=>l.length - x) (0:Nat) ⟨Nq _,hres⟩ ?_ ?_)
 .exact X4 (fun n=>n) []
 rintro k ⟨hk,hJ⟩;simp only[upS,X5,Xy]
 try simp only[X5,KN,Nat.reduceBEq,Nf,Nc,ins,Nat.reduceLT]
 clear hres;refine X0<|X0<|X2 ?_;refine(X8 rfl (fun h4=>Xb ?_) (fun h4=>?_))
 ·(try simp only[BN]at h4);have hlt:k<l.length:=by omega
  obtain⟨s,he,hd⟩:=Xu hlt;have hmem:s∈l:=N3 he;have hnm:=Qz hmem;have hbm:=X5r hbn hmem;have iha:=fun h h2=>(ih s hmem).1 h h2;have ihb:=fun h h2=>(ih s hmem).2 h h2;have hw1:=XE hlt (by omega);have hw2:IntKind.i64.wrap ((l.length:Int) - 1)=(l.length:Int) - 1:=X9;have hk1:k+1<=l.length:=hlt;have hla:=X6O hk1;rw[hd]at hJ;have ct:=X6B vars false hv (by omega) s.term;have csh1:=csh s (top&&decide ((k:Int)=(l.length:Int) - 1));obtain⟨sd,sc,sv,sn,⟨so,stn,sks⟩,sa,sb,sbs⟩:=s;simp only[St.then_,St.else_,St.term,St.bounds,St.do_,St.var,St.n,St.cost]at iha ihb hnm ct csh1;simp only[X43,N4,N6]at hbm;simp only[ssC,hla]at hJ;have ca:=iha (by omega) hbm.2.1;have cb:=ihb (by omega) hbm.2.2;have ct:=ct (by omega);have csh1:=csh1 hbm.1;have hbl:=hbm.1;have he':=Q2 he;simp only[St.enc,Tm.enc,List.cons_append,List.nil_append]at he';simp only[aF,Fl.enc,aS,St.enc,Tm.enc,Ni,Nr,List.cons_append,List.nil_append]at csh1 ca cb;have hshb:=@X6W vars hats.length sd sv sn (.mk so stn sks) sa.length sb.length sbs (top&&decide ((k:Int)=(l.length:Int) - 1));obtain⟨SH,hSH⟩:∃x,shB vars hats.length sd sv sn (.mk so stn sks) sa.length sb.length sbs (top&&decide ((k:Int)=(l.length:Int) - 1))=x:=⟨_,rfl⟩;obtain⟨NU,hNU⟩:∃x,X2P sd sc sn sbs=x:=⟨_,rfl⟩;obtain⟨TC,hTC⟩:∃x,X0Y vars false (.mk so stn sks)=x:=⟨_,rfl⟩;obtain⟨SC,hSC⟩:∃x,stC vars hats.length sd sc sv sn (.mk so stn sks) sa.length sb.length sbs (top&&decide ((k:Int)=(l.length:Int) - 1))=x:=⟨_,rfl⟩;rw[hSC]at hJ;unfold stC at hSC;rw[hSH]at csh1 hshb hSC;rw[hNU]at hSC;rw[hTC]at ct hSC;have ca:=fun d=>ca false d;have cb:=fun d=>cb false d;obtain⟨SA,hSA⟩:∃x,ssC vars hats.length sa false=x:=⟨_,rfl⟩;obtain⟨SB,hSB⟩:∃x,ssC vars hats.length sb false=x:=⟨_,rfl⟩;rw[hSA]at ca hJ;rw[hSB]at cb hJ;clear hlt h4 iha ihb ih hmem hnm hd he hbm hSH hTC hSA hSB csh hla;refine X0<|X3<|X0<|X2 ?_;refine X0<|X0<|(Xo [⟨true,.v (lb SH),none⟩] ?_ ?_)
  .first|exact csh1 _|exact trivial|simpa[*]using csh1 _
  refine(Xc rfl (fun h7=>?_) fun h7=>?_)
  ·(try simp only[BN]at h7);rw[Na h7]at hSC;subst hSC;rw[N7 (by decide)]at hJ;subst hJ;refine X1 ?_;exact Xf
  (try simp only[BN]at h7);rw[N7 (by simp[h7])]at hSC;obtain⟨hs6,hs5,hs4⟩:=hshb h7;clear hshb csh1;refine X1 ?_;refine(XM [1,2,3,7,8] (fun(z:Int)=>[(9,.v (li z))]) (fun(z:Int)=>[(3,.box [.c (.sl 5 (Xm vars)),.c (.sl 6 (Xn hats)),.c (.sl 10 (X7 body))]),(8,.box [.c (iC sd),.c (iC sc),.c (iC sv),.c (iC sn),.c (iC so),.c (iC stn),.c (.sl 3 (XA sks)),.c (.sl 10 (X7 sa)),.c (.sl 10 (X7 sb)),.c (.sl 1 (Xi sbs))])]) (fun(z:Int)=>z=X3y sd) ?_ ?_)
  ·
   refine X1 ?_;refine(Xc rfl (fun h13=>?_) fun h13=>?_)
   ·(try simp only[BN]at h13);refine X2 ?_;exact⟨67108864,by simp[X3y,h13],X4 (fun n=>n) []⟩
   (try simp only[BN]at h13);exact⟨10000,by simp[X3y,h13],X4 (fun n=>n) []⟩
  rintro M hM;simp only[upS,X5,Xy]
  try simp only[X5,KN,Nat.reduceBEq,Nf,Nc,ins,Nat.reduceLT]
  refine X0<|X0<|X2 ?_;refine(Xc rfl (fun h18=>?_) fun h18=>?_)
  .try simp only[BN]at h18
   have hz:NU=false:=by
    rw[<-hNU];unfold X2P;rw[<-hM];simp only[NB,Nl,N4,Bool.not_eq_false',N6];by_cases hn0:sn<0
    .have:=hs4 hn0;omega
    omega
   rw[Na hz]at hSC;subst hSC;rw[N7 (by decide)]at hJ;subst hJ;refine X1 ?_;exact Xf
  try simp only[BN]at h18
  have hz:NU=(decide (sd≠6)||X4o sbs):=by
   rw[<-hNU];unfold X2P;rw[<-hM]
   rw[show(!(decide (sc<0)||decide (M<sc)||(decide (sd=4)&&(decide (sn<0)||decide (4096<sn)))))=true by
    simp only[NV,NB,Nw,Nj]
    omega]
   rfl
  clear h18 hNU hM hs4;rcases Xag sbs with h0|⟨b0,hb0⟩
  .subst h0;have hd6:sd≠6:=fun h=>hs6 h rfl;have hw3:IntKind.i64.wrap (-1)=-1:=by decide
   have hz2:NU=true:=by rw[hz];simp[hd6]
   rw[N7 (by simp[hz2])]at hSC;clear hs6 hs5 hz;refine X0<|X0<|X2 ?_;refine(Xc rfl (fun h22=>?_) fun h22=>?_)
   .exact absurd h22 (by simp)
   (try simp only[BN]at h22);subst hSC;refine Xk [⟨true,.v (li TC),none⟩] ?_ ?_
   .first|exact ct _|exact trivial|simpa[*]using ct _
   refine X0<|X0<|X2 ?_;refine(Xc rfl (fun h27=>?_) fun h27=>?_)
   ·(try simp only[BN]at h27);rw[N7 h27]at hJ;subst hJ;refine X1 ?_;exact Xf
   (try simp only[BN]at h27);rw[Na (by simpa using h27)]at hJ;refine Xk [⟨true,.v (li SA),none⟩] ?_ ?_
   .first|exact ca _|exact trivial|simpa[*]using ca _
   refine X0<|X0<|X2 ?_;refine(Xc rfl (fun h32=>?_) fun h32=>?_)
   ·(try simp only[BN]at h32);rw[N7 h32]at hJ;subst hJ;refine X1 ?_;exact Xf
   (try simp only[BN]at h32);rw[Na (by simpa using h32)]at hJ;refine Xk [⟨true,.v (li SB),none⟩] ?_ ?_
   .first|exact cb _|exact trivial|simpa[*]using cb _
   refine X1 ?_;refine(Xc rfl (fun h37=>?_) fun h37=>?_)
   ·(try simp only[BN]at h37);rw[N7 h37]at hJ;subst hJ;refine X1 ?_;exact Xf
   (try simp only[BN]at h37);rw[Na (by simpa using h37)]at hJ;refine X2 ?_;exact⟨k+1,⟨hk1,hJ⟩,by omega,X4 (fun n=>n) []⟩
  have hpos:1<=sbs.length:=(N5.1 hb0).1;obtain⟨x,hx⟩:=X6Z (show sbs.length - 1<sbs.length by omega);have hd6:sd=6:=Classical.byContradiction fun h=>by rw[hs5 h]at hpos;simp at hpos
  have hw3:IntKind.i64.wrap ((sbs.length:Int) - 1)=(sbs.length:Int) - 1:=X9;have hw4:0<=(sbs.length:Int) - 1:=by omega
  have hw5:((sbs.length:Int) - 1).toNat=sbs.length - 1:=by omega
  have hw6:1<=(sbs.length:Int):=by omega
  have hw7:decide (0<(sbs.length:Int))=true:=Db (by omega);have hz2:NU=decide (x<=67108864):=by rw[hz];unfold X4o;rw[hx,hd6];simp
  have hne:sbs≠[]:=by intro h;rw[h]at hpos;simp at hpos
  clear hs6 hs5 hz hb0 hpos;refine X0<|X0<|X2 ?_;refine(Xc rfl (fun h22=>?_) fun h22=>?_)
  .try simp only[BN]at h22
   have hx2:67108864<x:=by
    omega
   rw[Na (by rw[hz2];exact decide_eq_false (by omega))]at hSC;subst hSC;rw[N7 (by decide)]at hJ;subst hJ;refine X1 ?_;exact Xf
  try simp only[BN]at h22
  have hx2:x<=67108864:=by
   first
    |omega
    | (rcases h22 with h|h
       .exact absurd h (by simp[hne])
       omega)
  rw[N7 (by rw[hz2,Db hx2];decide)]at hSC;subst hSC;refine Xk [⟨true,.v (li TC),none⟩] ?_ ?_
  .first|exact ct _|exact trivial|simpa[*]using ct _
  refine X0<|X0<|X2 ?_;refine(Xc rfl (fun h27=>?_) fun h27=>?_)
  ·(try simp only[BN]at h27);rw[N7 h27]at hJ;subst hJ;refine X1 ?_;exact Xf
  (try simp only[BN]at h27);rw[Na (by simpa using h27)]at hJ;refine Xk [⟨true,.v (li SA),none⟩] ?_ ?_
  .first|exact ca _|exact trivial|simpa[*]using ca _
  refine X0<|X0<|X2 ?_;refine(Xc rfl (fun h32=>?_) fun h32=>?_)
  ·(try simp only[BN]at h32);rw[N7 h32]at hJ;subst hJ;refine X1 ?_;exact Xf
  (try simp only[BN]at h32);rw[Na (by simpa using h32)]at hJ;refine Xk [⟨true,.v (li SB),none⟩] ?_ ?_
  .first|exact cb _|exact trivial|simpa[*]using cb _
  refine X1 ?_;refine(Xc rfl (fun h37=>?_) fun h37=>?_)
  ·(try simp only[BN]at h37);rw[N7 h37]at hJ;subst hJ;refine X1 ?_;exact Xf
  (try simp only[BN]at h37);rw[Na (by simpa using h37)]at hJ;refine X2 ?_;exact⟨k+1,⟨hk1,hJ⟩,by omega,X4 (fun n=>n) []⟩
 (try simp only[BN]at h4);have hkl:k=l.length:=by omega
 rw[hkl,Nt]at hJ;simp only[ssC]at hJ;subst hJ;refine(Xg ?_);refine X1 ?_;exact Xf
theorem X8V {vars:List Vr} {nh:Nat} {d v n:Int} {t:Tm} {la lb:Nat} {bs:List Int} {last:Bool} (h:shB vars nh d v n t la lb bs last=true):d=3\/d=4\/(la=0/\lb=0):=by
 by_cases h3:d=3
 .exact .inl h3
 by_cases h4:d=4
 .exact .inr (.inl h4)
 refine .inr (.inr ?_);unfold shB at h;simp only[N7 h3,N7 h4]at h;split at h
 .simp only[N4,N6]at h;exact h.1.1.1
 split at h
 .simp only[N4,N6]at h;exact h.1.1.1
 split at h
 .simp only[N4,N6]at h;exact h.1.1.1.1
 split at h
 .simp only[N4,N6]at h;exact h.1.1.1.1.1
 split at h
 .simp only[N4,N6]at h;exact h.1.1.1.1.1
 cases h
theorem X0E {vars:List Vr} {nh:Nat}:∀(l:List St) (top:Bool),ssC vars nh l top=0->okL l=true
 |[],_,_=>by simp[okL]
 | .mk d c v n t a b bs::l,top,h=>by
   simp only[ssC]at h;split at h
   .rename_i h0;split at h
    .rename_i ha;split at h
     .rename_i hb;have ia:=X0E a false ha;have ib:=X0E b false hb;have il:=X0E l top h;unfold stC at h0;split at h0
      .cases h0
      rename_i hs;split at h0
      .cases h0
      rename_i hn;have hs:shB vars nh d v n t a.length b.length bs (top&&l.isEmpty)=true:=by simpa using hs
      have hn:X2P d c n bs=true:=by simpa using hn
      have hf:=X8V hs;unfold X2P at hn;simp only[N4,Nw,NV,NB,Nj]at hn;have hm:X3y d<=67108864:=by unfold X3y;split<;>omega
      simp only[okL,okS,N4,Nl,N6,Dj,ia,ib,il];have hla:a.length=0->a=[]:=Nv;have hlb:b.length=0->b=[]:=Nv;refine⟨⟨⟨by omega,by omega,by omega⟩,?_,by simp⟩,by simp⟩;rcases hf with hf|hf|hf
      .exact .inl hf
      .exact .inr (.inl hf)
      exact .inr (.inr ⟨hla hf.1,hlb hf.2⟩)
     rename_i hb;exact absurd h hb
    rename_i ha;exact absurd h ha
   rename_i h0;exact absurd h h0
def Qu:List Ht->Nat
 |[]=>0
 |h::l=>h.term.nodes+Qu l
def mH:List Ht->Int×Bool->Int×Bool
 |[],s=>s
 |h::l,s=>mH l (if Wi s=true then s else mTm h.term 1 s)
theorem X1l {l:List Ht} {h:Ht} (hm:h∈l):h.term.nodes<=Qu l:=by
 induction l with
 |nil=>cases hm
 | cons x l ih=>
   simp only[Qu];rcases Nh.1 hm with rfl|h1
   .omega
   have:=ih h1;omega
theorem X8b:∀(l:List Ht) (s:Int×Bool),Wi s=true->Wi (mH l s)=true
 |[],s,h=>h
 | x::l,s,h=>by
   simp only[mH,Na h];exact X8b l s h
def X0t (l:List Ht):Bool:=l.all fun h=>decide (tdT h.term<=12)
theorem mH_fit:∀(l:List Ht) (s:Int×Bool),0<=s.1->Wi s=false->
  (s.1+Qu l<=1024/\X0t l=true->Wi (mH l s)=false)/\(¬(s.1+Qu l<=1024/\X0t l=true)->Wi (mH l s)=true)
 | [],s,h0,h=>by
   have:=X45 h;simp only[mH,Qu,X0t,List.all_nil];exact⟨fun _=>h,fun hn=>absurd ⟨by omega,trivial⟩ hn⟩
 | x::l,s,h0,h=>by
   have ho:=X45 h;have ht:=X7v x.term 1 s h0 (by omega) h;have hle:=X1k x.term 1 s;simp only[mH,h,Qu,X0t,List.all_cons,N4,N6,Nz,Nc];by_cases hf:s.1+x.term.nodes<=1024/\1+(tdT x.term:Int)<=13
   .have e:=ht.1 hf;rw[e];have ih:=mH_fit l (s.1+x.term.nodes,false) (by simp only;omega) (by simp only[Wi,Bool.false_or,Nj];omega);simp only[X0t]at ih;refine⟨fun hh=>ih.1 ⟨by omega,hh.2.2⟩,fun hh=>ih.2 fun h2=>hh ⟨by omega,by omega,h2.2⟩⟩
   have e:=ht.2 hf;refine⟨fun hh=>absurd ⟨by omega,by omega⟩ hf,fun _=>X8b _ _ e⟩
def X17 (f:Fl):Bool:=((((decide (f.vars.length<=64)&&decide (f.hats.length<=8))&&decide (Xh f.body+Qu f.hats<=1024))&&decide (sdL f.body<=12))&& !WJ f.body)&&X0t f.hats
def mF (f:Fl):Int×Bool:=mH f.hats (mSs f.body 1 (0,false))
theorem Xav (f:Fl):X17 f=false↔64<f.vars.length\/8<f.hats.length\/Wi (mF f)=true:=by
 have h1:=X5f f.body 1 (0,false) (by decide) (by decide) rfl;unfold mF X17;simp only[NB,Nj,Bool.not_eq_false',Nat.not_le];by_cases hs:((0:Int),false).1+Xh f.body<=1024/\1+(sdL f.body:Int)<=13/\WJ f.body=false
 .rw[h1.1 hs];have h2:=mH_fit f.hats (0+(Xh f.body:Int),false) (by simp only;omega) (by simp only[Wi,Bool.false_or,Nj];have:=hs.1;simp only at this;omega);obtain⟨a1,a2,a3⟩:=hs;simp only at a1 h2;by_cases hh:0+(Xh f.body:Int)+Qu f.hats<=1024/\X0t f.hats=true
  .have e:=h2.1 hh;have e3:=hh.2;simp only[show((0:Int),false).1=0 from rfl];rw[e,a3,e3];simp;omega
  have e:=h2.2 hh;simp only[show((0:Int),false).1=0 from rfl];rw[e,a3];constructor
  .intro _;exact .inr (.inr rfl)
  intro _;by_cases hd:X0t f.hats=true
  .left;left;left;right;by_cases hc:0+(Xh f.body:Int)+Qu f.hats<=1024
   .exact absurd ⟨hc,hd⟩ hh
   omega
  right;simpa using hd
 have e:=X8b f.hats _ (h1.2 hs);rw[e];constructor
 .intro _;exact .inr (.inr rfl)
 intro _;simp only at hs;by_cases ht:WJ f.body=true
 .left;right;exact ht
 have ht:WJ f.body=false:=by simpa using ht
 by_cases hd:sdL f.body<=12
 .left;left;left;right;by_cases hc:0+(Xh f.body:Int)<=1024
  .exact absurd ⟨hc,by omega,ht⟩ hs
  omega
 left;left;right;omega
def X5V (l:List St):Bool:=decide (4096<(bdL CR l ⟨0,0,0⟩).s)||(decide (8<(bdL CR l ⟨0,0,0⟩).o)||decide (67108864<(bdL CR l ⟨0,0,0⟩).t))
def Qa (f:Fl):Int:=
 if X17 f=false then 4 else if X0b f.vars=0 then
  (if hcs f.vars [] f.hats=0 then(if ssC f.vars f.hats.length f.body true=0 then(if X5V f.body=true then 4 else 0)else ssC f.vars f.hats.length f.body true)else hcs f.vars [] f.hats)
 else X0b f.vars
theorem X6l {vars:List Vr} (h:X0b vars=0):X0l vars:=by
 unfold X0b at h;split at h
 .rename_i h0;exact X3f _ _ h0
 rename_i h0;exact absurd h h0
theorem one_all (b:Nat):∀s:St,oneC b s:=by
 have key:∀l:List St,∀s∈l,oneC b s:=by
  apply St.lists;intro l ih s hs;obtain⟨o,c,v,n,⟨tq,tn,tk⟩,sa,sb,bs⟩:=s;exact one_con b o c v n tq tn tk sa sb bs (X2E (ih _ hs).1) (X2E (ih _ hs).2)
 exact fun s=>key [s] s (by simp)
theorem lst_all (b:Nat) (l:List St):lstC b l:=X2E fun s _=>one_all b s
def bldF (l:List St):List (List CD):=
 let x:=Qd l [(false,0)] ([[iC 0,iC (-1),iC (-1),iC (-1)]],0)
 XD x.1.1.length x.2 x.1.1++[[iC 1,iC (-1),iC (-1),iC (-1)]]
def msG:List (Nat×List Nat):=[(511,[0,1,3,8]),(510,[1,3,8]),(509,[0,2,3,8]),(503,[0,1,4,8]),(255,[0,1,3]),(508,[2,3,8]),(502,[1,4,8]),(254,[1,3]),(505,[0,3,8]),(501,[0,2,4,8]),(253,[0,2,3]),(487,[0,1,5,8]),(247,[0,1,4]),(504,[3,8]),(500,[2,4,8]),(252,[2,3]),(486,[1,5,8]),(246,[1,4]),(497,[0,4,8]),(249,[0,3]),(485,[0,2,5,8]),(245,[0,2,4]),(455,[0,1,8]),(231,[0,1,5]),(496,[4,8]),(248,[3]),(484,[2,5,8]),(244,[2,4]),(454,[1,8]),(230,[1,5]),(481,[0,5,8]),(241,[0,4]),(453,[0,2,8]),(229,[0,2,5]),(199,[0,1]),(480,[5,8]),(240,[4]),(452,[2,8]),(228,[2,5]),(198,[1]),(449,[0,8]),(225,[0,5]),(197,[0,2]),(448,[6,8]),(224,[5]),(196,[2]),(193,[0]),(384,[7,8]),(192,[6]),(256,[8]),(128,[7])]
def nxG (b:Nat) (F:Ob) (l:List St) (nl:Nat) (x y:List (Nat×Ob)) (R:List Nat):HS:=
 {trS ⟨⟨38,some (pV b)⟩,[(1,.v (.one (.at_ 1 0))),(2,.v (.one (.at_ 2 0))),(3,.v (.one (.c (.lit (pV b)))))],[]⟩ [(0,10,.v (.one (.c (.lit (pV b))))),(1,11,.v (.one (.at_ 1 2))),(2,12,.v (lS l)),(3,13,.v (.one (.c (.lit (pV b))))),(4,14,.v (.one (.c (nxC b 0)))),(5,15,.v (.one (.own 15))),(6,16,.v (.one (.own 16))),(7,17,lit (.int .i64 nl)),(8,18,lit (.int .i64 0))] R with
  objs:=(1,F)::(2,.box [.c (.lit XY)])::if R.contains 5 then x else if R.contains 6 then(15,.row 250 1 [[nxC b 0]])::x else y}
attribute [simp] nxG
set_option maxHeartbeats 4000000 in
theorem X7b (f:Fl) (hn:1+X0j f.body<=1000000) (d:Nat):Con prog 119 false [aF f] (.v (.agg [.c (.sl 4 (bldF f.body))])) none d:=by
 obtain⟨vars,hats,body⟩:=f;simp only at hn;obtain⟨G,hG⟩:∃x,bldF body=x:=⟨_,rfl⟩;rw[hG];unfold bldF at hG;refine X6 Tryz.func119 ?_;simp only[Tryz.f119];simp only[aF,Fl.enc,Ni,Nr];refine X1 ?_;refine X0<|(Xp (by simp[*,XO,QE,Q3,cellsOf,WV,X0e,W2];rfl) ?_);refine HT_pin 9 (cs:=[.own 7,.c (iC 0)]) [(1,.v (.one (.at_ 1 0))),(2,.v (.one (.at_ 2 0))),(3,.v (.one (.at_ 1000000 0)))] [(1,.box [.c (.sl 5 (Xm vars)),.c (.sl 6 (Xn hats)),.c (.sl 10 (X7 body))]),(2,.box [.c (.lit XY)]),(7,.row 195 4 [[iC 0,iC (-1),iC (-1),iC (-1)]]),(1000000,.box [.own 7,.c (iC 0)])] rfl rfl ?_ ?_ rfl fun b=>?_
 .simp[WY,RV.okNil,TV.okNil,CV.okNil,RV.ren,TV.ren,CV.ren,lkp]
 .simp[WY,Ob.okNil,CV.okNil,Ob.ren,CV.ren,lkp]
 have k0:okB [(false,0)] [[iC 0,iC (-1),iC (-1),iC (-1)]]:=⟨by simp,by simp⟩;have cA:=lst_all b body [(false,0)] [[iC 0,iC (-1),iC (-1),iC (-1)]] 0 k0 (by simp;omega) (by omega) (by omega) (by simp);have k1:=Ws body [(false,0)] ([[iC 0,iC (-1),iC (-1),iC (-1)]],0) k0;have l1:=ZE body [(false,0)] ([[iC 0,iC (-1),iC (-1),iC (-1)]],0);obtain⟨⟨⟨rows3,d3⟩,sl3⟩,hx⟩:∃x,Qd body [(false,0)] ([[iC 0,iC (-1),iC (-1),iC (-1)]],0)=x:=⟨_,rfl⟩;simp only[hx,List.length_singleton]at hG cA k1 l1;obtain⟨a1,a2,a3,a4,a5⟩:=k1;clear hx k0;refine XB (X4p (v:=pV b) 3 rfl rfl rfl) ?_;simp only[ins,Nat.reduceLT,Nat.reduceEqDiff,Nf,Nc];refine XB (s':=nxG b (.box [.c (.sl 5 (Xm vars)),.c (.sl 6 (Xn hats)),.c (.sl 10 (X7 body))]) body sl3.length (Wt [[iC 0,iC (-1),iC (-1),iC (-1)]] 0) [] (Zd 9 511)) ?_ ?_
 .refine Xl (fun n=>if n=900001 then 7 else n) [] rfl ?_ ?_ ?_
  .simp[trS, *]
  .simp[*]
  simp
 refine X0<|X0<|(WQ (nxG b (.box [.c (.sl 5 (Xm vars)),.c (.sl 6 (Xn hats)),.c (.sl 10 (X7 body))]) body sl3.length (Wt [[iC 0,iC (-1),iC (-1),iC (-1)]] 0) ((16,.row 250 1 (QS b sl3))::(102,.row 195 4 rows3)::[(1000000,.box [.own 102,.c (iC d3)])])) 9 511 msG rfl (by kernel_rfl) (by kernel_rfl) (by kernel_rfl) (by kernel_rfl) (by simp[trS]) ?_ ?_)
 .simp only[msG,X1C]
  repeat' apply And.intro
  all_goals first
   |(refine Q4.evE rfl ?_;simp[trS,ins,WR];done)
   | (refine Q4.ev [⟨false,.v (.one (.c (nxC b 0))),none⟩] rfl (by simp[trS,ins,WR];first|exact⟨rfl,Iff.rfl⟩|exact⟨rfl,trivial⟩|rfl) ?_ ?_
      .simpa using X1Y b 0 14
      simp[trS,ins])
   | (refine Q4.callA (fun n=>if n=1 then 15 else n) (fun n=>if n=1 then 16 else if n=900001 then 102 else n) cA rfl fun _ _=>?_
      simp[trS,ins,XJ,XU,del,CV.ren,Ob.ren])
 refine X3<|(Xd [] (fun(x:Nat×List (List CD))=>[(2,.v (.one (.at_ 2 0))),(3,.v (.one (.c (.lit (pV b))))),(16,.v (.one (.own 16))),(17,lit (.int .i64 sl3.length)),(18,lit (.int .i64 x.1))]) (fun(x:Nat×List (List CD))=>(2,.box [.c (.lit XY)])::(16,.row 250 1 (QS b sl3))::Wt x.2 d3) (fun(x:Nat×List (List CD))=>x.1<=sl3.length/\XD rows3.length (sl3.drop x.1) x.2=XD rows3.length sl3 rows3/\(∀r∈x.2,r.length=4)/\x.2.length=rows3.length) (fun(x:Nat×List (List CD))=>sl3.length - x.1) (0,rows3) ⟨Nq _,rfl,a1.four,rfl⟩ ?_ ?_)
 .exact Xl (fun n=>if n=900001 then 102 else n) [] rfl (by simp[upS,X5,trS]) (by simp[upS]) (by simp[upS])
 rintro⟨i,rows2⟩ ⟨g1,g2,g3,g4⟩;simp only[upS,X5,Xy]
 try simp only[X5,KN,Nat.reduceBEq,Nf,Nc,ins,Nat.reduceLT]
 simp only at g1 g2 g3 g4;simp only[nxG,trS];refine X1 ?_;refine X0<|(X8 rfl (fun h5=>Xb ?_) (fun h5=>?_))
 ·(try simp only[BN]at h5);have hi:i<sl3.length:=by simpa using h5
  obtain⟨q,hq,hqd⟩:=Xu hi;have hqe:=X4l (b:=b) hq;rw[hqd]at g2;simp only[XD]at g2;have cq:=X5A b rows2 d3 rows2.length q g3 (by have:=a1.lt q (N3 hq);omega);have hw:=XE hi (by omega:sl3.length<=1000000000);have hin2:i+1<=sl3.length:=hi;rw[<-g4]at g2;clear hi hq h5 hqd;refine X0<|X3<|X0<|X2 ?_;refine XB (X4F (v:=pV b) 3 rfl rfl rfl) ?_;simp only[ins,Nat.reduceLT,Nat.reduceEqDiff,Nf,Nc];refine(Xw ?_);refine RunsN.cutE 6 [] (by simp;rfl) trivial (le_refl _) ?_;refine RunsN.callA (fun n=>n) (fun n=>if n=900001 then 101 else n) cq fun _ _=>?_;refine RunsN.doneE [] (by simp[XJ,CV.ren,Ob.ren];rfl) trivial ?_;refine XB (X4p (v:=pV b) 3 rfl rfl rfl) ?_;simp only[ins,Nat.reduceLT,Nat.reduceEqDiff,Nf,Nc];refine X2 ?_;exact⟨(i+1,X0y rows2 q rows2.length),⟨hin2,by rw[<-g4];exact g2,X03 g3,(X1x ..).trans g4⟩,by simp only;omega,X4 (fun n=>if n=900001 then 101 else n) []⟩
 try simp only[BN]at h5
 have hi:i=sl3.length:=by
  have:¬i<sl3.length:=by simpa using h5
  omega
 subst hi;rw[Nt]at g2;simp only[XD]at g2;rw[<-g2]at hG;have hroom:W4 (rows3.length+1) 32:=XX (by omega) (by decide);clear h5 g2;refine XB (X4F (v:=pV b) 3 rfl rfl rfl) ?_;simp only[ins,Nat.reduceLT,Nat.reduceEqDiff,Nf,Nc];refine(Xg ?_);refine X0<|(Xp (by simp[*,XO,QE,Q3,cellsOf,WV,X0e,W2,WU,Wq,Zj];rfl) ?_);refine XB (Qs 36 rfl) ?_;exact Qe ⟨⟨⟨38,some (pV b)⟩,[(2,.v (.one (.at_ 2 0)))],[(2,.box [.c (.sl 4 G)])]⟩,Xl (fun n=>n) [] rfl (by simp) (by simp[*]) (by simp),by rfl,.inr rfl,_,le_refl _,⟨_,by simp;rfl,by simp[XL]⟩,by simp,fun h=>by cases h⟩
theorem X1m (f:Fl) (hv:f.vars.length<=1000000) (hh:f.hats.length<=1000000) (hn:Xh f.body+Qu f.hats<=900000000) (hb:Z6 f.body=true) (d:Nat):
  Con prog 62 true [aF f] (.v (li (Qa f))) none d:=by
 obtain⟨res,hres⟩:∃r,Qa f=r:=⟨_,rfl⟩;rw[hres];have hso:=Xav f;have cvars:=Xcb f.vars hv;have chat:=fun hg=>Xcr f hg hv hh (fun h hm=>by have:=X1l hm;omega);have cst:=fun hg=>Xal f hg hv f.body (by omega) hb;have cup:=fun ho=>X6N f.body (by omega) ho;have cms:=Xah f.body 1 0 false (by decide) (by decide) (by omega);have hms:=X0f f.body 1 (0,false);have hgood:X0b f.vars=0->X0l f.vars:=X6l;have hok:ssC f.vars f.hats.length f.body true=0->okL f.body=true:=X0E _ _;have hcmp:=fun h=>@bd_cmp f.body h;unfold Qa X5V at hres;unfold mF at hso;obtain⟨vars,hats,body⟩:=f;simp only at hv hh hn hb hres hso cvars chat cst cup cms hms hgood hok hcmp;obtain⟨m0,hm0⟩:∃m,mSs body 1 (0,false)=m:=⟨_,rfl⟩;rw[hm0]at cms hms hso;obtain⟨c0,b0⟩:=m0;simp only at cms hms;obtain⟨mE,hmE⟩:∃m,mH hats (c0,b0)=m:=⟨_,rfl⟩;rw[hmE]at hso;obtain⟨VC,hVC⟩:∃x,X0b vars=x:=⟨_,rfl⟩;obtain⟨HC,hHC⟩:∃x,hcs vars [] hats=x:=⟨_,rfl⟩;obtain⟨SC,hSC⟩:∃x,ssC vars hats.length body true=x:=⟨_,rfl⟩;rw[hVC]at cvars hres hgood;rw[hHC]at chat hres;rw[hSC]at hres hok;have cst:=fun hg=>cst hg true;rw[hSC]at cst;clear hVC hHC hSC hm0;refine X6 Tryz.func62 ?_;simp only[Tryz.f62];simp only[aF,Fl.enc,Ni,Nr]at chat cst⊢;refine X1 ?_;refine X1 ?_;refine X0<|(X0R 2 (.tup []) ([iC c0,bC b0]) rfl (by simp[*];rfl) (by simp[ioOf, *];first|exact⟨rfl,rfl,rfl,rfl,rfl⟩|exact⟨rfl,rfl,rfl,rfl⟩|exact⟨rfl,rfl,rfl⟩|exact⟨rfl,rfl⟩|rfl) (cms) (by simp) (by simp[*];rfl) ?_);refine X0<|X0<|X2 ?_;refine X3<|(Xd [1,3,14,15] (fun(x:Nat×Int×Bool)=>[(16,.v (li x.1))]) (fun x=>[(1,.box [.c (.sl 5 (Xm vars)),.c (.sl 6 (Xn hats)),.c (.sl 10 (X7 body))]),(3,.box [.c (iC x.2.1),.c (bC x.2.2)])]) (fun x=>x.1<=hats.length/\mH (hats.drop x.1) x.2=mE/\0<=x.2.1/\x.2.1+Qu (hats.drop x.1)<=1000000000) (fun x=>hats.length - x.1) (0,c0,b0) ⟨Nq _,by simpa using hmE,by simp only;omega,by simp only[List.drop_zero];omega⟩ ?_ ?_)
 .exact X4 (fun n=>n) []
 rintro⟨k,m,q⟩ ⟨hk,hJ,hm,hbb⟩;simp only[upS,X5,Xy]
 try simp only[X5,KN,Nat.reduceBEq,Nf,Nc,ins,Nat.reduceLT]
 simp only at hk hJ hm hbb;clear hmE hms cms;refine X1 ?_;refine X0<|(X8 rfl (fun h6=>Xb ?_) (fun h6=>?_))
 ·(try simp only[BN]at h6);have hlt:k<hats.length:=by omega
  obtain⟨h,he,hd⟩:=Xu hlt;have hw1:=XE hlt (by omega);have hk1:k+1<=hats.length:=hlt;rw[hd]at hJ hbb;simp only[mH,Qu]at hJ hbb;have hle:=X1k h.term 1 (m,q);have cmt:=X6K h.term 1 m q (by decide) hm (by omega);obtain⟨nm,lo,hi,⟨o,tn,ks⟩⟩:=h;simp only at hle cmt hJ hbb;obtain⟨m1,hm1⟩:∃x,mTm (.mk o tn ks) 1 (m,q)=x:=⟨_,rfl⟩;rw[hm1]at cmt hle hJ;obtain⟨c1,b1⟩:=m1;simp only[aT,Tm.enc,Ni,Nr]at cmt hle;clear hlt h6 hd hm1 hso hres chat cst cup hok hcmp;refine X0<|X3<|X0<|X2 ?_;refine Xk [⟨true,.v (lb (q||decide (1024<m))),none⟩] ?_ ?_
  .first|exact Zc _ _ _|exact trivial|simpa[*]using Zc _ _ _
  refine(Xc rfl (fun h9=>?_) fun h9=>?_)
  .try simp only[BN]at h9
   have hov:Wi (m,q)=false:=by
    simp only[Wi,NV,Nj]
    first|exact h9|simpa using h9
   rw[N7 (by rw[hov];decide)]at hJ;clear hov;refine(X0R 2 (.tup []) ([iC c1,bC b1]) rfl (by simp[*];rfl) (by simp[ioOf, *];first|exact⟨rfl,rfl,rfl,rfl,rfl⟩|exact⟨rfl,rfl,rfl,rfl⟩|exact⟨rfl,rfl,rfl⟩|exact⟨rfl,rfl⟩|rfl) (cmt) (by simp) (by simp[*];rfl) ?_);refine X2 ?_;exact⟨(k+1,c1,b1),⟨hk1,hJ,by simp only;omega,by simp only;omega⟩,by simp only;omega,X4 (fun n=>n) []⟩
  try simp only[BN]at h9
  have hov:Wi (m,q)=true:=by
   simp only[Wi,Nl,N6]
   first|exact h9|simpa using h9
  rw[Na hov]at hJ;clear hov;refine X2 ?_;exact⟨(k+1,m,q),⟨hk1,hJ,hm,by simp only;omega⟩,by simp only;omega,X4 (fun n=>n) []⟩
 (try simp only[BN]at h6);have hkl:k=hats.length:=by omega
 subst hkl;rw[Nt]at hJ;simp only[mH]at hJ;subst hJ;simp only[Wi,Nl,N6]at hso;refine(Xg ?_);refine X0<|X0<|(Xo [⟨true,.v (lb (q||decide (1024<m))),none⟩] ?_ ?_)
 .first|exact Zc _ _ _|exact trivial|simpa[*]using Zc _ _ _
 refine(Xc rfl (fun h16=>?_) fun h16=>?_)
 .try simp only[BN]at h16
  rw [Na (hso.2 (by
      simp only[or_assoc]at h16;rcases h16 with h|h|h|h
      .exact .inl (by omega)
      .exact .inr (.inl (by omega))
      .exact .inr (.inr (.inl h))
      exact .inr (.inr (.inr h))))]at hres
  subst hres;refine X1 ?_;exact Xf
 try simp only[BN]at h16
 rw [N7 (by
     rw[hso];rintro(h|h|h|h)
     .omega
     .omega
     .exact absurd h (by simp[h16])
     omega)]at hres
 refine X0<|X0<|(Xo [⟨true,.v (li VC),none⟩] ?_ ?_)
 .first|exact cvars _|exact trivial|simpa[*]using cvars _
 refine X1 ?_;refine(Xc rfl (fun h21=>?_) fun h21=>?_)
 ·(try simp only[BN]at h21);rw[N7 h21]at hres;subst hres;refine X1 ?_;exact Xf
 (try simp only[BN]at h21);have hv0:VC=0:=by simpa using h21
 have hg:=hgood hv0;have chat:=chat hg;have cst:=cst hg;rw[Na hv0]at hres;clear cvars hgood h21;refine X0<|X0<|(Xo [⟨true,.v (li HC),none⟩] ?_ ?_)
 .first|exact chat _|exact trivial|simpa[*]using chat _
 refine X1 ?_;refine(Xc rfl (fun h26=>?_) fun h26=>?_)
 ·(try simp only[BN]at h26);rw[N7 h26]at hres;subst hres;refine X1 ?_;exact Xf
 (try simp only[BN]at h26);have hh0:HC=0:=by simpa using h26
 rw[Na hh0]at hres;clear chat h26;refine X0<|X0<|(Xo [⟨true,.v (li SC),none⟩] ?_ ?_)
 .first|exact cst _|exact trivial|simpa[*]using cst _
 refine X1 ?_;refine(Xc rfl (fun h31=>?_) fun h31=>?_)
 ·(try simp only[BN]at h31);rw[N7 h31]at hres;subst hres;refine X1 ?_;exact Xf
 (try simp only[BN]at h31);have hs0:SC=0:=by simpa using h31
 rw[Na hs0]at hres;have hok:=hok hs0;have cup:=cup hok;have hcmp:=hcmp hok;obtain⟨X,hX⟩:∃x,bdL CP body ⟨0,0,0⟩=x:=⟨_,rfl⟩;obtain⟨Y,hY⟩:∃x,bdL CR body ⟨0,0,0⟩=x:=⟨_,rfl⟩;rw[hX]at cup hcmp;rw[hY]at hcmp hres;obtain⟨x1,x2,x3⟩:=X;obtain⟨y1,y2,y3⟩:=Y;simp only[Nl,N6]at hcmp hres;clear hX hY cst h31 hok;refine X0<|X0<|(Xo [⟨true,.v (aB ⟨x1,x2,x3⟩),none⟩] ?_ ?_)
 .first|exact cup _|exact trivial|simpa[*]using cup _
 refine X1 ?_;refine(Xc rfl (fun h36=>?_) fun h36=>?_)
 ·(try simp only[BN]at h36);rw[Na (by omega)]at hres;subst hres;refine X1 ?_;exact Xf
 (try simp only[BN]at h36);rw[N7 (by omega)]at hres;subst hres;refine X1 ?_;exact Xf
mutual
def szS:St->Nat
 | .mk _ _ _ _ _ a b _=>1+szL a+szL b
def szL:List St->Nat
 |[]=>0
 |s::l=>szS s+szL l
end
mutual
theorem szS_le:∀s:St,szS s<=s.nodes
 | .mk _ _ _ _ t a b _=>by have:=X09 a;have:=X09 b;simp only[szS,St.nodes];omega
theorem X09:∀l:List St,szL l<=Xh l
 |[]=>by simp[szL]
 |s::l=>by have:=szS_le s;have:=X09 l;simp only[szL,Xh];omega
end
theorem X7N (s:St):1<=szS s:=by cases s;simp only[szS];omega
theorem X2Y:∀l:List St,l.length<=szL l
 |[]=>by simp
 |s::l=>by have:=X2Y l;have:=X7N s;simp only[szL,List.length_cons];omega
structure Nd where
 k:Int
 a:Int
 n:Int
 o:Int
 deriving DecidableEq
def Nd.enc (x:Nd):List CD:=[iC x.k,iC x.a,iC x.n,iC x.o]
attribute [simp] Nd.enc
def Qx (l:List Nd):List (List CD):=l.map Nd.enc
@[simp] theorem X5O (l:List Nd):(Qx l).length=l.length:=by simp[Qx]
theorem X3D {l:List Nd} {i:Nat} {x:Nd} (h:l[i]? =some x):(Qx l)[i]? =some x.enc:=by simp[Qx,h]
mutual
def wdS:St->Nat
 | .mk o _ _ _ _ a b _=>(if o=4 then 2 else 1)+wdL a+wdL b
def wdL:List St->Nat
 |[]=>0
 |s::l=>wdS s+wdL l
end
mutual
def X1u:St->Int->Nat->Nat->List Nd
 | .mk o _ _ _ _ a b _,at_,k,after=>
   if o=3 then⟨3,at_,if a=[] then after else k+1,if b=[] then after else k+1+wdL a⟩::(X0d a (at_+1) (k+1) after++X0d b (at_+1+szL a) (k+1+wdL a) after)
   else if o=4 then⟨4,at_,k+1,-1⟩::⟨5,at_,if a=[] then k+1 else k+2,after⟩::X0d a (at_+1) (k+2) (k+1)
   else [⟨2,at_,after,-1⟩]
def X0d:List St->Int->Nat->Nat->List Nd
 |[],_,_,_=>[]
 |s::l,at_,k,after=>X1u s at_ k (if l=[] then after else k+wdS s)++X0d l (at_+szS s) (k+wdS s) after
end
def grN (l:List St):List Nd:=⟨0,-1,if l=[] then 1+wdL l else 1,-1⟩::(X0d l 0 1 (1+wdL l)++[⟨1,-1,-1,-1⟩])
theorem X5q {A B:List (List CD)} {s:Wv} {k:Nat} (h:s.2<A.length):X0y (A++B) s k=X0y A s k++B:=by
 unfold X0y setRow;rw[Ns h];split
 .rw[List.set_append,Na h]
 rfl
theorem X6c {k:Nat}:∀(sl:List Wv) {A B:List (List CD)},(∀s∈sl,s.2<A.length)->XD k sl (A++B)=XD k sl A++B
 |[],_,_,_=>rfl
 | s::sl,A,B,h=>by
   simp only[XD];rw[X5q (h s (by simp)),X6c sl fun x hx=>by rw[X1x];exact h x (by simp[hx])]
theorem X69 {k:Nat}:∀(x y:List Wv) (rows:List (List CD)),XD k (x++y) rows=XD k y (XD k x rows)
 |[],_,_=>rfl
 |s::x,y,rows=>by simp only[List.cons_append,XD];exact X69 x y _
theorem X9M {rows:List (List CD)} {i j f g:Nat} {u v:CD} (h4:∀r∈rows,r.length=4) (hf:f<4) (hg:g<4) (h:(i,f)≠(j,g)\/u=v):setRow (setRow rows i f [u]) j g [v]=setRow (setRow rows j g [v]) i f [u]:=by
 by_cases hij:i=j
 .subst hij;cases hr:rows[i]? with
  |none=>simp[setRow,hr]
  | some r=>
    have hi:i<rows.length:=(N5.1 hr).1;have hl:=h4 r (N3 hr);simp only[setRow,hr,NX hi,List.set_set];congr 1
    match r,hl with
    | [a,b,c,d],_=>
      match f,g,hf,hg with
      |0,0,_,_|1,1,_,_|2,2,_,_|3,3,_,_=>rcases h with h|h<;>simp_all
      |0,1,_,_|0,2,_,_|0,3,_,_|1,0,_,_|1,2,_,_|1,3,_,_|2,0,_,_|2,1,_,_|2,3,_,_|3,0,_,_|3,1,_,_|3,2,_,_=>rfl
 cases hi:rows[i]? with
 |none=>simp only[setRow,hi];cases hj:rows[j]? <;>simp[hi,hij,NY,Ne.symm hij]
 | some r=>
   cases hj:rows[j]? with
   |none=>simp[setRow,hi,hj,NY,hij]
   | some q=>
     simp only[setRow,hi,hj,Du hij,Du (Ne.symm hij)];exact List.set_comm _ _ hij
theorem Xcj {rows:List (List CD)} {s t:Wv} {j k:Nat} (h4:∀r∈rows,r.length=4) (h:s≠t\/j=k):X0y (X0y rows s j) t k=X0y (X0y rows t k) s j:=by
 unfold X0y;refine X9M h4 (by split<;>omega) (by split<;>omega) ?_;obtain⟨s1,s2⟩:=s;obtain⟨t1,t2⟩:=t;rcases h with h|h
 .refine .inl fun e=>h ?_;simp only[Prod.mk.injEq]at e⊢;refine⟨?_,e.1⟩;cases s1<;>cases t1<;>simp_all
 exact .inr (by rw[h])
theorem X2z {j k:Nat} {t:Wv}:∀(sl:List Wv) (rows:List (List CD)),(∀r∈rows,r.length=4)->((∀s∈sl,s≠t)\/j=k)->XD j sl (X0y rows t k)=X0y (XD j sl rows) t k
 |[],_,_,_=>rfl
 | s::sl,rows,h4,h=>by
   simp only[XD];rw[Xcj h4 (h.imp (fun h=>Ne.symm (h s (by simp))) Eq.symm),X2z sl _ (X03 h4) (h.imp (fun h x hx=>h x (by simp[hx])) id)]
theorem X4T {k:Nat}:∀(x y:List Wv) (rows:List (List CD)),(∀r∈rows,r.length=4)->XD k x (XD k y rows)=XD k y (XD k x rows)
 |x,[],rows,_=>rfl
 | x,t::y,rows,h4=>by
   simp only[XD];rw[X4T x y _ (X03 h4),X2z x rows h4 (.inr rfl)]
theorem X94:∀(l:List St) (sl:List Wv) (st:Bst),okB sl st.1->∀s∈(Qd l sl st).2,(l=[]/\s∈sl)\/st.1.length<=s.2:=by
 have one:∀(s:St),(∀l,l=s.then_\/l=s.else_->∀(sl:List Wv) (st:Bst),okB sl st.1->∀s∈(Qd l sl st).2,(l=[]/\s∈sl)\/st.1.length<=s.2)->
   ∀(k:Nat) (st:Bst),(∀r∈st.1,r.length=4)->k=st.1.length->∀q∈(Z8 s k st).2,k<=q.2:=by
  intro s ih k st h4 hk q hq;obtain⟨o,c,v,n,t,a,b,bs⟩:=s;simp only[St.then_,St.else_]at ih;unfold Z8 at hq;split at hq
  .have k1:okB [(false,k)] (st.1++[XT 3 st.2]):=⟨Ww h4,by simp[hk]⟩;have ok:=Ws a [(false,k)] (st.1++[XT 3 st.2],st.2+1) k1;have ia:=ih a (.inl rfl) [(false,k)] (st.1++[XT 3 st.2],st.2+1) k1;obtain⟨x,hx⟩:∃x,Qd a [(false,k)] (st.1++[XT 3 st.2],st.2+1)=x:=⟨_,rfl⟩;simp only[hx,N9,List.length_singleton]at hq ok ia;have ib:=ih b (.inr rfl) [(true,k)] x.1 ⟨ok.1.four,by simp;omega⟩;rcases Ng.1 hq with hq|hq
   .rcases ia q hq with⟨_,h⟩|h
    .rw[Nk.1 h];exact NK _
    omega
   rcases ib q hq with⟨_,h⟩|h
   .rw[Nk.1 h];exact NK _
   omega
  split at hq
  .rw[Nk.1 hq];exact Nat.le_succ _
  rw[Nk.1 hq];exact NK _
 apply St.lists;intro l ih sl st hok q hq
 have key:∀(l:List St),(∀s∈l,∀l',l'=s.then_\/l'=s.else_->∀(sl:List Wv) (st:Bst),okB sl st.1->∀s∈(Qd l' sl st).2,(l'=[]/\s∈sl)\/st.1.length<=s.2)->∀(sl:List Wv) (st:Bst),okB sl st.1->∀q∈(Qd l sl st).2,(l=[]/\q∈sl)\/st.1.length<=q.2:=by
  intro l
  induction l with
  |nil=>intro _ sl st _ q hq;exact .inl ⟨rfl,hq⟩
  | cons s l il=>
    intro ih sl st hok q hq;unfold Qd at hq;have h4:∀r∈XD st.1.length sl st.1,r.length=4:=ZS _ _ _ hok.four;have o1:=X5d s st.1.length (XD st.1.length sl st.1,st.2) h4 (Qb ..).symm;have o2:=one s (ih s (by simp)) st.1.length (XD st.1.length sl st.1,st.2) h4 (Qb ..).symm;obtain⟨x,hx⟩:∃x,Z8 s st.1.length (XD st.1.length sl st.1,st.2)=x:=⟨_,rfl⟩;simp only[hx,Qb]at hq o1 o2;rcases il (fun s hs=>ih s (by simp[hs])) x.2 x.1 o1.1 q hq with⟨_,h⟩|h
    .exact .inr (o2 q h)
    exact .inr (Dx o1.2.1 h)
 exact key l (fun s hs l' h=>by
  rcases h with rfl|rfl
  .exact(ih s hs).1
  exact(ih s hs).2) sl st hok q hq
mutual
def gS:St->Bool
 | .mk o _ _ _ _ a b _=>(decide (o=3)||(decide (o=4)&&b.isEmpty)||(a.isEmpty&&b.isEmpty))&&(gL a&&gL b)
def gL:List St->Bool
 |[]=>true
 |s::l=>gS s&&gL l
end
theorem X8l {vars:List Vr} {nh:Nat}:∀(l:List St) (top:Bool),ssC vars nh l top=0->gL l=true
 |[],_,_=>rfl
 | .mk d c v n t a b bs::l,top,h=>by
   have hs:shB vars nh d v n t a.length b.length bs (top&&l.isEmpty)=true:=by
    simp only[ssC]at h;split at h
    .rename_i h0;unfold stC at h0;split at h0
     .cases h0
     rename_i hs;simpa using hs
    rename_i h0;exact absurd h h0
   have hr:ssC vars nh a false=0/\ssC vars nh b false=0/\ssC vars nh l top=0:=by
    simp only[ssC]at h;split at h
    .split at h
     .split at h
      .rename_i ha hb;exact⟨ha,hb,h⟩
      rename_i hb;exact absurd h hb
     rename_i ha;exact absurd h ha
    rename_i h0;exact absurd h h0
   simp only[gL,gS,N4,Nl,N6,Dj];refine⟨⟨?_,X8l a false hr.1,X8l b false hr.2.1⟩,X8l l top hr.2.2⟩;rcases X8V hs with h1|h1|⟨h1,h2⟩
   .exact .inl (.inl h1)
   .refine .inl (.inr ⟨h1,?_⟩);subst h1;unfold shB at hs;simp at hs;exact hs.1.2
   exact .inr ⟨Nv h1,Nv h2⟩
mutual
theorem X6f:∀(s:St) (d:Int) (k after:Nat),gS s=true->(X1u s d k after).length=wdS s
 | .mk o c v n t a b bs,d,k,after,h=>by
   simp only[gS,N4,Nl,N6,Dj]at h;obtain⟨h,ha,hb⟩:=h;unfold X1u wdS;by_cases h3:o=3
   .have h4:¬o=4:=by omega
    rw[Na h3,N7 h4];simp only[List.length_cons,N9,We a _ _ _ ha,We b _ _ _ hb];omega
   rw[N7 h3];by_cases h4:o=4
   .rw[Na h4,Na h4]
    have hb0:b=[]:=by
     rcases h with(h|h)|h
     .exact absurd h h3
     .exact h.2
     exact h.2
    subst hb0;simp only[List.length_cons,We a _ _ _ ha,wdL];omega
   rw[N7 h4,N7 h4]
   have h0:a=[]/\b=[]:=by
    rcases h with(h|h)|h
    .exact absurd h h3
    .exact absurd h.1 h4
    exact h
   rw[h0.1,h0.2];rfl
theorem We:∀(l:List St) (d:Int) (k after:Nat),gL l=true->(X0d l d k after).length=wdL l
 |[],_,_,_,_=>rfl
 | s::l,d,k,after,h=>by
   simp only[gL,N4]at h;unfold X0d wdL;rw[N9,X6f s _ _ _ h.1,We l _ _ _ h.2]
end
def layOK (l:List St):Prop:=gL l=true->∀(sl:List Wv) (st:Bst) (d:Int),okB sl st.1->st.2=d->
 (∀after:Nat,XD after (Qd l sl st).2 (Qd l sl st).1.1=XD (if l=[] then after else st.1.length) sl st.1++Qx (X0d l d st.1.length after))/\(Qd l sl st).1.2=d+szL l
def layOne (s:St):Prop:=gS s=true->∀(k:Nat) (st:Bst) (d:Int),(∀r∈st.1,r.length=4)->k=st.1.length->st.2=d->
 (∀after:Nat,XD after (Z8 s k st).2 (Z8 s k st).1.1=st.1++Qx (X1u s d k after))/\(Z8 s k st).1.2=d+szS s
theorem Xd6 (a b:List Nd):Qx (a++b)=Qx a++Qx b:=by simp[Qx]
theorem X12 {A:List (List CD)} {x:List CD} {o:Bool} {k v:Nat} (hk:k=A.length):X0y (A++[x]) (o,k) v=A++[if o=true then x.take 3++[iC v]++x.drop 4 else x.take 2++[iC v]++x.drop 3]:=by
 subst hk;unfold X0y setRow;simp;cases o<;>simp
theorem Xcs (s:St) (ha:layOK s.then_) (hb:layOK s.else_):layOne s:=by
 obtain⟨o,c,v,n,t,a,b,bs⟩:=s;simp only[St.then_,St.else_]at ha hb;intro hg k st d h4 hk hd;simp only[gS,N4,Nl,N6,Dj]at hg;obtain⟨hg,hga,hgb⟩:=hg;have ha:=ha hga;have hb:=hb hgb;subst hd;unfold Z8 X1u szS;by_cases h3:o=3
 .simp only[Na h3];have k1:okB [(false,k)] (st.1++[XT 3 st.2]):=⟨Ww h4,by simp[hk]⟩;have ok:=Ws a [(false,k)] (st.1++[XT 3 st.2],st.2+1) k1;have sa:=X94 a [(false,k)] (st.1++[XT 3 st.2],st.2+1) k1;obtain⟨ia,ida⟩:=ha [(false,k)] (st.1++[XT 3 st.2],st.2+1) _ k1 rfl;obtain⟨x,hx⟩:∃x,Qd a [(false,k)] (st.1++[XT 3 st.2],st.2+1)=x:=⟨_,rfl⟩;simp only[hx,N9,List.length_singleton]at ok sa ia ida⊢;have k2:okB [(true,k)] x.1.1:=⟨ok.1.four,by simp;omega⟩;have ok2:=Ws b [(true,k)] x.1 k2;obtain⟨ib,idb⟩:=hb [(true,k)] x.1 _ k2 rfl;obtain⟨y,hy⟩:∃y,Qd b [(true,k)] x.1=y:=⟨_,rfl⟩;simp only[hy]at ok2 ib idb⊢
  have hlen:x.1.1.length=k+1+wdL a:=by
   have:=congrArg List.length (ia 0);rw[Qb,N9,Qb,N9,List.length_singleton,X5O,We a _ _ _ hga]at this;omega
  refine⟨fun after=>?_,by omega⟩;rw[X69,X4T _ _ _ ok2.1.four,ib after,X6c x.2 (fun s hs=>by rw[Qb];exact ok.1.lt s hs)];simp only[XD]
  rw[X2z x.2 _ ok.1.four (.inl fun s hs=>by
   rcases sa s hs with⟨_,h⟩|h
   .rw[Nk.1 h];simp
   intro e;rw[e]at h;simp at h;omega),ia after]
  simp only[XD];rw[X12 hk,X5q (by simp[hk]),X12 hk,hlen,ida,hk];simp only[XT,Nz,Nc,Nf,List.take,List.drop,List.nil_append,List.cons_append,Dq,Qx,Ni,Dr,Nd.enc,Df];refine congrArg (st.1++ ·) ?_;congr 2;by_cases h1:a=[]<;>by_cases h2:b=[]<;>simp[h1,h2]
 by_cases h4':o=4
 .simp only[N7 h3,Na h4']
  have hb0:b=[]:=by
   rcases hg with(h|h)|h
   .exact absurd h h3
   .exact h.2
   exact h.2
  subst hb0
  have hR:setRow (st.1++[XT 4 st.2]++[XT 5 st.2]) k 2 [iC ((k:Int)+1)]=st.1++[[iC 4,iC st.2,iC ((k:Int)+1),iC (-1)]]++[XT 5 st.2]:=by
   subst hk;simp[setRow]
  have k1:okB [(false,k+1)] (st.1++[[iC 4,iC st.2,iC ((k:Int)+1),iC (-1)]]++[XT 5 st.2]):=by
   rw[<-hR];exact⟨X0u (Ww (Ww h4)) (by omega),by simp[WH,hk]⟩
  rw[hR];have ok:=Ws a [(false,k+1)] (st.1++[[iC 4,iC st.2,iC ((k:Int)+1),iC (-1)]]++[XT 5 st.2],st.2+1) k1;obtain⟨ia,ida⟩:=ha [(false,k+1)] (st.1++[[iC 4,iC st.2,iC ((k:Int)+1),iC (-1)]]++[XT 5 st.2],st.2+1) _ k1 rfl;obtain⟨x,hx⟩:∃x,Qd a [(false,k+1)] (st.1++[[iC 4,iC st.2,iC ((k:Int)+1),iC (-1)]]++[XT 5 st.2],st.2+1)=x:=⟨_,rfl⟩;simp only[hx]at ok ia ida⊢;refine⟨fun after=>?_,by simp only[szL];omega⟩;simp only[XD];rw[ia (k+1)];simp only[XD];rw[X12 (by simp[hk]),X5q (by simp[hk]),X12 (by simp[hk])];simp only[XT,Nz,Nc,Nf,List.take,List.drop,List.nil_append,List.cons_append,Dq,Qx,Ni,Dr,Nd.enc,Df,N9,List.length_singleton,hk];refine congrArg (st.1++ ·) ?_;congr 2;by_cases h1:a=[]<;>simp[h1]
 simp only[N7 h3,N7 h4']
 have h0:a=[]/\b=[]:=by
  rcases hg with(h|h)|h
  .exact absurd h h3
  .exact absurd h.1 h4'
  exact h
 rw[h0.1,h0.2];refine⟨fun after=>?_,by simp only[szL];omega⟩;simp only[XD];rw[X12 hk];rfl
theorem Xct:∀l:List St,layOK l:=by
 apply St.lists;intro l ih
 have key:∀l:List St,(∀s∈l,layOne s)->layOK l:=by
  intro l
  induction l with
  | nil=>
    intro _ _ sl st d hok hd;exact⟨fun after=>by simp[Qd,X0d,Qx],by simp[Qd,szL,hd]⟩
  | cons s l il=>
    intro h hg sl st d hok hd;simp only[gL,N4]at hg;have h4:∀r∈XD st.1.length sl st.1,r.length=4:=ZS _ _ _ hok.four;have o1:=X5d s st.1.length (XD st.1.length sl st.1,st.2) h4 (Qb ..).symm;obtain⟨i1,id1⟩:=h s (by simp) hg.1 st.1.length (XD st.1.length sl st.1,st.2) d h4 (Qb ..).symm hd;unfold Qd X0d szL;obtain⟨x,hx⟩:∃x,Z8 s st.1.length (XD st.1.length sl st.1,st.2)=x:=⟨_,rfl⟩;simp only[hx]at o1 i1 id1⊢
    have hlen:x.1.1.length=st.1.length+wdS s:=by
     have:=congrArg List.length (i1 0);rw[Qb,N9,Qb,X5O,X6f s _ _ _ hg.1]at this;exact this
    obtain⟨i2,id2⟩:=il (fun s hs=>h s (by simp[hs])) hg.2 x.2 x.1 _ o1.1 id1;refine⟨fun after=>?_,by omega⟩;rw[i2 after,hlen,i1,Xd6,N7 (List.cons_ne_nil s l),Df]
 exact key l fun s hs=>Xcs s (ih s hs).1 (ih s hs).2
theorem Xbg (l:List St) (hg:gL l=true):bldF l=Qx (grN l):=by
 have k0:okB [(false,0)] [[iC 0,iC (-1),iC (-1),iC (-1)]]:=⟨by simp,by simp⟩;obtain⟨i1,_⟩:=Xct l hg [(false,0)] ([[iC 0,iC (-1),iC (-1),iC (-1)]],0) 0 k0 rfl;unfold bldF;obtain⟨x,hx⟩:∃x,Qd l [(false,0)] ([[iC 0,iC (-1),iC (-1),iC (-1)]],0)=x:=⟨_,rfl⟩;simp only[hx]at i1⊢
 have hlen:x.1.1.length=1+wdL l:=by
  have:=congrArg List.length (i1 0);rw[Qb,N9,Qb,X5O,We l _ _ _ hg]at this;exact this
 rw[i1,hlen];unfold grN;simp only[XD,X0y,setRow,List.length_singleton];simp[Qx];by_cases h:l=[]<;>simp[h]
structure Sta where
 vals:List Int
 outs:List Int
 time:Int
def tick (s:Sta) (c:Int):Sta:=⟨s.vals,s.outs,wr (s.time+c)⟩
def rndF (c:Int) (t:Tm) (body:Sta->Sta):Nat->Sta->Sta
 |0,s=>s
 |k+1,s=>if vT s.vals t=0 then tick s c else rndF c t body k (body (tick s c))
def setV (vars:List Vr) (vs:List Int) (v n:Int):List Int:=
 match vars[v.toNat]? with
 |some w=>vs.set v.toNat (QB n w.low w.high)
 |none=>vs
def leafF (vars:List Vr) (hv:List Int) (d v n:Int) (t:Tm) (bs:List Int) (s:Sta):Sta:=
 if d=0 then⟨setV vars s.vals v (vT s.vals t),s.outs,s.time⟩
 else if d=1 then⟨s.vals,s.outs++[vT s.vals t],s.time⟩
 else if d=5 then⟨setV vars s.vals v ((hv[n.toNat]?).getD 0),s.outs,s.time⟩
 else if d=6 then⟨s.vals,s.outs,stlL bs s.time s.time false⟩ else s
def X2L (vars:List Vr) (hv:List Int):List St->Sta->Sta
 |[]=>fun s=>s
 | .mk d c v n t a b bs::l=>fun s=>
   X2L vars hv l (if d=4 then rndF c t (X2L vars hv a) n.toNat s
    else if d=3 then(if vT s.vals t=0 then X2L vars hv b (tick s c)else X2L vars hv a (tick s c))
    else leafF vars hv d v n t bs (tick s c))
mutual
def wfS (vars:List Vr) (nh:Nat):St->Bool
 | .mk d _ v n t a b bs=>QT vars false t&&((decide (d≠0/\d≠5)||W5 vars v)&&((decide (d≠5)||(decide (0<=n)&&decide (n<nh)))&&((decide (d≠4)||decide (n<=4096))&&(decide (bs.length<=1000000000)&&(wfL vars nh a&&wfL vars nh b)))))
def wfL (vars:List Vr) (nh:Nat):List St->Bool
 |[]=>true
 |s::l=>wfS vars nh s&&wfL vars nh l
end
mutual
def oUS:St->Nat
 | .mk d _ _ n _ a b _=>if d=4 then n.toNat*oUL a else if d=3 then max (oUL a) (oUL b)else if d=1 then 1 else 0
def oUL:List St->Nat
 |[]=>0
 |s::l=>oUS s+oUL l
end
theorem wfL_mem {vars:List Vr} {nh:Nat} {l:List St} (h:wfL vars nh l=true) {s:St} (hs:s∈l):wfS vars nh s=true:=by
 induction l with
 |nil=>cases hs
 | cons x l ih=>
   simp only[wfL,N4]at h;rcases Nh.1 hs with rfl|h1
   .exact h.1
   exact ih h.2 h1
theorem X2a {vars:List Vr} {v:Int} (h:W5 vars v=true):0<=v/\∃w,vars[v.toNat]? =some w:=by
 unfold W5 at h;simp only[N4,N6]at h;refine⟨h.1,?_⟩;have h2:=h.2;split at h2
 .exact⟨_,by assumption⟩
 cases h2
theorem Xd4 (f:Fl) (hv:f.vars.length<=1000000) (hh:f.hats.length<=1000000) (hn:Xh f.body+Qu f.hats<=900000000) (d:Nat):
  Con prog 48 true [aF f] (.v (lb (X17 f))) none d:=by
 obtain⟨res,hres⟩:∃r,X17 f=r:=⟨_,rfl⟩;rw[hres];have cn:=Xcq f.body (by omega);have csd:=Xa0 f.body (by omega);have ctd:=Xcx f.body (by omega);unfold X17 at hres;obtain⟨vars,hats,body⟩:=f;simp only at hv hh hn hres cn csd ctd;refine X6 Tryz.func48 ?_;simp only[Tryz.f48];simp only[aF,Fl.enc,Ni,Nr];refine X1 ?_;refine X0<|X0<|X2 ?_;refine(Xc rfl (fun h2=>?_) fun h2=>?_)
 .try simp only[BN]at h2
  have hz:(decide (vars.length<=64)&&decide (hats.length<=8))=false:=by
   simp only[NB,Nj];omega
  rw[hz]at hres;simp only[Dh]at hres;subst hres;refine X1 ?_;exact Xf
 try simp only[BN]at h2
 have hz:(decide (vars.length<=64)&&decide (hats.length<=8))=true:=by
  simp only[N4,N6];omega
 rw[hz]at hres;simp only[NW]at hres;refine Xk [⟨true,.v (li (Xh body)),none⟩] ?_ ?_
 .first|exact cn _|exact trivial|simpa[*]using cn _
 refine X0<|X0<|X2 ?_;refine X3<|(Xd [1] (fun(x:Nat×Nat)=>[(3,.v (li x.2)),(4,.v (li x.1))]) (fun x=>[(1,.box [.c (.sl 5 (Xm vars)),.c (.sl 6 (Xn hats)),.c (.sl 10 (X7 body))])]) (fun x=>x.1<=hats.length/\x.2+Qu (hats.drop x.1)=Xh body+Qu hats/\X0t (hats.drop x.1)=X0t hats) (fun x=>hats.length - x.1) (0,Xh body) ⟨Nq _,by simp,by simp⟩ ?_ ?_)
 .exact X4 (fun n=>n) []
 rintro⟨k,n⟩ ⟨hk,hJ,hJ2⟩;simp only[upS,X5,Xy]
 try simp only[X5,KN,Nat.reduceBEq,Nf,Nc,ins,Nat.reduceLT]
 simp only at hk hJ hJ2;refine X0<|X0<|X2 ?_;refine(X8 rfl (fun h9=>Xb ?_) (fun h9=>?_))
 ·(try simp only[BN]at h9);have hlt:k<hats.length:=by omega
  obtain⟨h,he,hd⟩:=Xu hlt;have hw1:=XE hlt (by omega);have hk1:k+1<=hats.length:=hlt;rw[hd]at hJ hJ2;simp only[Qu]at hJ;have hJ2:(decide (tdT h.term<=12)&&X0t (hats.drop (k+1)))=X0t hats:=hJ2;have ctn:=X6h h.term (by omega);have ctd2:=X5z h.term (by omega);have hw2:IntKind.i64.wrap ((n:Int)+h.term.nodes)=((n+h.term.nodes:Nat):Int):=by rw[X9 (by omega) (by omega)];simp
  obtain⟨nm,lo,hi,⟨o,tn,ks⟩⟩:=h;simp only at hJ hJ2 ctn ctd2 hw2;simp only[aT,Tm.enc,Ni,Nr]at ctn ctd2;obtain⟨N,hN⟩:∃x,(Tm.mk o tn ks).nodes=x:=⟨_,rfl⟩;obtain⟨D,hD⟩:∃x,tdT (Tm.mk o tn ks)=x:=⟨_,rfl⟩;rw[hN]at ctn hJ hw2;rw[hD]at ctd2 hJ2;clear hlt h9 hd hN hD;refine X0<|X3<|X0<|(Xo [⟨true,.v (li N),none⟩] ?_ ?_)
  .first|exact ctn _|exact trivial|simpa[*]using ctn _
  refine Xk [⟨true,.v (li D),none⟩] ?_ ?_
  .first|exact ctd2 _|exact trivial|simpa[*]using ctd2 _
  refine(Xc rfl (fun h12=>?_) fun h12=>?_)
  ·(try simp only[BN]at h12);have hz2:X0t hats=false:=by rw[<-hJ2];simp only[NB,Nj];omega
   rw[hz2,Bool.and_false]at hres;subst hres;refine X1 ?_;exact Xf
  (try simp only[BN]at h12);rw[Db (by omega),NW]at hJ2;refine X2 ?_;exact⟨(k+1,n+N),⟨hk1,by simp only;omega,hJ2⟩,by simp only;omega,X4 (fun n=>n) []⟩
 (try simp only[BN]at h9);have hkl:k=hats.length:=by omega
 subst hkl;rw[Nt]at hJ hJ2;simp only[Qu,Nat.add_zero]at hJ;have hJ2:X0t hats=true:=hJ2.symm;rw[hJ2,Bool.and_true,<-hJ]at hres;obtain⟨S,hS⟩:∃x,sdL body=x:=⟨_,rfl⟩;obtain⟨T,hT⟩:∃x,WJ body=x:=⟨_,rfl⟩;rw[hS]at csd hres;rw[hT]at ctd hres;have e1:decide (n<=1024)=decide ((n:Int)<=1024):=by rw[Dk,N6,N6];omega
 have e2:decide (S<=12)=decide ((S:Int)<=12):=by rw[Dk,N6,N6];omega
 rw[e1,e2]at hres;clear e1 e2 hS hT hJ2 h9 hJ;refine(Xg ?_);refine Xk [⟨true,.v (li S),none⟩,⟨true,.v (lb T),none⟩] ?_ ?_
 .first|exact⟨csd _,ctd _⟩|exact trivial|(repeat' first|exact trivial|exact csd _|exact ctd _|apply And.intro)
 exact(Xf (he:=by subst hres;simp[XL]))
theorem XaD (f:Fl) (hv:f.vars.length<=1000000) (hh:f.hats.length<=1000000) (hn:Xh f.body+Qu f.hats<=900000000) (hb:Z6 f.body=true) (d:Nat):
  Con prog 15 true [aF f] (.v (li (Qa f))) none d:=by
 obtain⟨res,hres⟩:∃r,Qa f=r:=⟨_,rfl⟩;rw[hres];have csz:=Xd4 f hv hh hn;have cvars:=XcL f.vars hv;have ct:=fun(hg:X0l f.vars) (h:Ht) (hm:h∈f.hats)=>X6B f.vars true hg (by omega) h.term (by have:=X1l hm;omega);have cst:=fun hg=>Xaa f hg hv f.body (by omega) hb;have cup:=fun ho=>X4V f.body (by omega) ho;have hgood:X0b f.vars=0->X0l f.vars:=X6l;have hok:ssC f.vars f.hats.length f.body true=0->okL f.body=true:=X0E _ _;unfold Qa X5V at hres;obtain⟨SZ,hSZ⟩:∃x,X17 f=x:=⟨_,rfl⟩;rw[hSZ]at csz hres;obtain⟨vars,hats,body⟩:=f;simp only at hv hh hn hb hres csz cvars ct cst cup hgood hok;obtain⟨VC,hVC⟩:∃x,X0b vars=x:=⟨_,rfl⟩;obtain⟨HC,hHC⟩:∃x,hcs vars [] hats=x:=⟨_,rfl⟩;obtain⟨SC,hSC⟩:∃x,ssC vars hats.length body true=x:=⟨_,rfl⟩;rw[hVC]at cvars hres hgood;rw[hHC]at hres;rw[hSC]at hres hok;have cst:=fun hg=>cst hg true;rw[hSC]at cst;clear hVC hSC hSZ;refine X6 Tryz.func15 ?_;simp only[Tryz.f15];simp only[aF,Fl.enc,Ni,Nr]at csz cst⊢;refine X1 ?_;refine X0<|X0<|(Xo [⟨true,.v (lb SZ),none⟩] ?_ ?_)
 .first|exact csz _|exact trivial|simpa[*]using csz _
 refine(Xc rfl (fun h2=>?_) fun h2=>?_)
 ·(try simp only[BN]at h2);have hz:SZ=false:=by simpa using h2
  rw[Na hz]at hres;subst hres;refine X1 ?_;exact Xf
 (try simp only[BN]at h2);have hz:SZ=true:=by simpa using h2
 rw[N7 (by rw[hz];decide)]at hres;clear csz h2;subst hz;refine Xk [⟨true,.v (li VC),none⟩] ?_ ?_
 .first|exact cvars _|exact trivial|simpa[*]using cvars _
 refine X0<|X0<|X2 ?_;refine(Xc rfl (fun h7=>?_) fun h7=>?_)
 ·(try simp only[BN]at h7);rw[N7 h7]at hres;subst hres;refine X1 ?_;exact Xf
 (try simp only[BN]at h7);have hv0:VC=0:=by simpa using h7
 have hg:=hgood hv0;have ct:=ct hg;have cst:=cst hg;rw[Na hv0]at hres;clear cvars hgood h7;subst hv0;refine X0<|X0<|X2 ?_;refine X3<|(Xd [1] (fun(x:Nat)=>[(4,.v (li x))]) (fun x=>[(1,.box [.c (.sl 5 (Xm vars)),.c (.sl 6 (Xn hats)),.c (.sl 10 (X7 body))])]) (fun x=>x<=hats.length/\hcs vars (hats.take x) (hats.drop x)=HC) (fun x=>hats.length - x) (0:Nat) ⟨Nq _,hHC⟩ ?_ ?_)
 .exact X4 (fun n=>n) []
 rintro k ⟨hk,hJ⟩;simp only[upS,X5,Xy]
 try simp only[X5,KN,Nat.reduceBEq,Nf,Nc,ins,Nat.reduceLT]
 clear hHC;refine X0<|X0<|X2 ?_;refine(X8 rfl (fun h13=>Xb ?_) (fun h13=>?_))
 ·(try simp only[BN]at h13);have hlt:k<hats.length:=by omega
  obtain⟨h,he,hd⟩:=Xu hlt;have hw1:=XE hlt (by omega);have hk1:k+1<=hats.length:=hlt;have hkl:(hats.take k).length=k:=by rw[NG];omega
  rw[hd]at hJ;simp only[hcs]at hJ;rw[<-WA he]at hJ;have ct:=ct h (N3 he);obtain⟨nm,lo,hi,⟨o,tn,ks⟩⟩:=h;obtain⟨C,hC⟩:∃x,X5n vars (hats.take k) ⟨nm,lo,hi,.mk o tn ks⟩=x:=⟨_,rfl⟩;rw[hC]at hJ;simp only[X5n]at hC;simp only[aT,Tm.enc,Ni,Nr]at ct;obtain⟨TC,hTC⟩:∃x,X0Y vars true (.mk o tn ks)=x:=⟨_,rfl⟩;rw[hTC]at ct hC;clear hlt h13 hd cup hok cst hTC;refine X0<|X3<|X0<|X2 ?_;refine X0<|X0<|(Xo [⟨true,.v (lb (ZT nm)),none⟩] ?_ ?_)
  .first|exact X27 _ _|exact trivial|simpa[*]using X27 _ _
  refine(Xc rfl (fun h16=>?_) fun h16=>?_)
  ·(try simp only[BN]at h16);rw[Na h16]at hC;subst hC;rw[N7 (by decide)]at hJ;subst hJ;rw[N7 (by decide)]at hres;subst hres;refine X1 ?_;exact Xf
  (try simp only[BN]at h16);rw[N7 (by simp[h16])]at hC;clear h16;refine X0<|X0<|X2 ?_;refine X3<|(Xd [1,4,5] (fun(x:Nat)=>[(6,.v (li x))]) (fun x=>[(1,.box [.c (.sl 5 (Xm vars)),.c (.sl 6 (Xn hats)),.c (.sl 10 (X7 body))]),(5,.box [.c (sC nm),.c (iC lo),.c (iC hi),.c (iC o),.c (iC tn),.c (.sl 3 (XA ks))])]) (fun x=>x<=k/\∀j:Nat,j<x->∀w,hats[j]? =some w->w.name≠nm) (fun x=>k - x) (0:Nat) ⟨Nq _,fun j hj=>absurd hj (Dy j)⟩ ?_ ?_)
  .exact X4 (fun n=>n) []
  rintro j ⟨hj,hno⟩;simp only[upS,X5,Xy]
  try simp only[X5,KN,Nat.reduceBEq,Nf,Nc,ins,Nat.reduceLT]
  refine X0<|X0<|X2 ?_;refine(X8 rfl (fun h22=>Xb ?_) (fun h22=>?_))
  ·(try simp only[BN]at h22);have hjk:j<k:=by omega
   obtain⟨w,hw⟩:∃w,hats[j]? =some w:=⟨hats[j],by simp[show j<hats.length by omega]⟩;have hwj:=XE hjk (by omega);have hj1:j+1<=k:=hjk
   have hmemw:w∈hats.take k:=by
    have:(hats.take k)[j]? =some w:=by rw[List.getElem?_take_of_lt hjk];exact hw
    exact N3 this
   obtain⟨n2,l2,i2,⟨o2,t2,k2⟩⟩:=w;clear hjk h22;refine X0<|X3<|X0<|(N0 ?_);refine(Xc rfl (fun h24=>?_) fun h24=>?_)
   .try simp only[BN]at h24
    have hany:((hats.take k).any fun w=>decide (w.name=nm))=true:=by
     rw[List.any_eq_true];exact⟨_,hmemw,by simpa using h24⟩
    rw[Na hany]at hC;subst hC;rw[N7 (by decide)]at hJ;subst hJ;rw[N7 (by decide)]at hres;subst hres;refine X1 ?_;exact Xf
   (try simp only[BN]at h24);refine X2 ?_
   exact⟨j+1,⟨hj1,fun i hi u hu=>by
    rcases Nat.lt_or_eq_of_le (Nat.le_of_lt_succ hi)with h|h
    .exact hno i h u hu
    subst h;rw[hw]at hu;cases hu
    simpa using h24⟩,by omega,X4 (fun n=>n) []⟩
  (try simp only[BN]at h22);have hjk:j=k:=by omega
  subst hjk
  have hany:((hats.take j).any fun w=>decide (w.name=nm))=false:=by
   rw[Dd];intro w hw;obtain⟨i,hi⟩:=NL.1 hw;have hij:i<j:=by have:=(N5.1 hi).1;omega
   rw[List.getElem?_take_of_lt hij]at hi;simpa using hno i hij w hi
  rw[N7 (by simp[hany])]at hC;clear hno hkl hany;refine(Xg ?_);refine X0<|X0<|(Xo [⟨true,.v (lb (QX lo hi)),none⟩] ?_ ?_)
  .first|exact ZY _ _ _|exact trivial|simpa[*]using ZY _ _ _
  refine(Xc rfl (fun h30=>?_) fun h30=>?_)
  ·(try simp only[BN]at h30);rw[Na h30]at hC;subst hC;rw[N7 (by decide)]at hJ;subst hJ;rw[N7 (by decide)]at hres;subst hres;refine X1 ?_;exact Xf
  (try simp only[BN]at h30);rw[N7 (by simp[h30])]at hC;subst hC;clear h30;refine Xk [⟨true,.v (li TC),none⟩] ?_ ?_
  .first|exact ct _|exact trivial|simpa[*]using ct _
  refine X1 ?_;refine(Xc rfl (fun h35=>?_) fun h35=>?_)
  ·(try simp only[BN]at h35);rw[N7 h35]at hJ;subst hJ;rw[N7 h35]at hres;subst hres;refine X1 ?_;exact Xf
  (try simp only[BN]at h35);rw[Na (by simpa using h35)]at hJ;refine X2 ?_;exact⟨j+1,⟨hk1,hJ⟩,by omega,X4 (fun n=>n) []⟩
 (try simp only[BN]at h13);have hkl:k=hats.length:=by omega
 rw[hkl,Nt]at hJ;simp only[hcs]at hJ;rw[Na hJ.symm]at hres;clear hJ hkl hk h13 ct;refine(Xg ?_);refine Xk [⟨true,.v (li SC),none⟩] ?_ ?_
 .first|exact cst _|exact trivial|simpa[*]using cst _
 refine X0<|X0<|X2 ?_;refine(Xc rfl (fun h42=>?_) fun h42=>?_)
 ·(try simp only[BN]at h42);rw[N7 h42]at hres;subst hres;refine X1 ?_;exact Xf
 (try simp only[BN]at h42);have hs0:SC=0:=by simpa using h42
 rw[Na hs0]at hres;have hok:=hok hs0;have cup:=cup hok;obtain⟨Y,hY⟩:∃x,bdL CR body ⟨0,0,0⟩=x:=⟨_,rfl⟩;rw[hY]at hres cup;obtain⟨y1,y2,y3⟩:=Y;simp only[Nl,N6]at hres;simp only at cup;clear hY cst h42 hok;refine Xk [⟨true,.tup [li y1,li y2,li y3],none⟩] ?_ ?_
 .first|exact cup _|exact trivial|simpa[*]using cup _
 refine X0<|X0<|X2 ?_;refine(Xc rfl (fun h47=>?_) fun h47=>?_)
 ·(try simp only[BN]at h47);rw[Na (by omega)]at hres;subst hres;refine X1 ?_;exact Xf
 (try simp only[BN]at h47);rw[N7 (by omega)]at hres;subst hres;refine X1 ?_;exact Xf
def st0:Sta:=⟨[],[],0⟩
structure Obs where
 outs:List Int
 time:Int
theorem X2X {vars:List Vr} {inp:Bool} {t:Tm} (h:X0Y vars inp t=0):QT vars inp t=true:=by
 unfold X0Y at h;split at h
 .assumption
 cases h
theorem X3c {vars:List Vr}:∀(l seen:List Ht),hcs vars seen l=0->∀h∈l,QT vars true h.term=true
 |[],_,_,h,hm=>by cases hm
 | x ::l,seen,h0,h,hm=>by
   simp only[hcs]at h0;split at h0
   .rename_i hx;rcases Nh.1 hm with rfl|h1
    .unfold X5n at hx;split at hx
     .cases hx
     split at hx
     .cases hx
     split at hx
     .cases hx
     exact X2X hx
    exact X3c l _ h0 h h1
   rename_i hx;exact absurd h0 hx
theorem XcZ {vars:List Vr} {nh:Nat} {d c v n:Int} {t:Tm} {a b:List St} {bs:List Int} {l:List St} {top:Bool} (h:ssC vars nh (.mk d c v n t a b bs::l) top=0):
  shB vars nh d v n t a.length b.length bs (top&&l.isEmpty)=true/\X2P d c n bs=true/\X0Y vars false t=0/\ssC vars nh a false=0/\ssC vars nh b false=0/\ssC vars nh l top=0:=by
 simp only[ssC]at h;split at h
 .rename_i h0;split at h
  .rename_i ha;split at h
   .rename_i hb;unfold stC at h0;split at h0
    .cases h0
    rename_i hs;split at h0
    .cases h0
    rename_i hn;exact⟨by simpa using hs,by simpa using hn,h0,ha,hb,h⟩
   rename_i hb;exact absurd h hb
  rename_i ha;exact absurd h ha
 rename_i h0;exact absurd h h0
theorem X70 {vars:List Vr} {nh:Nat} {d v n:Int} {t:Tm} {la lb_:Nat} {bs:List Int} {last:Bool} (h:shB vars nh d v n t la lb_ bs last=true) (hd:d=0\/d=5):W5 vars v=true/\(d=5->0<=n/\n<nh):=by
 unfold shB at h;rcases hd with rfl|rfl
 .simp only[Nf,N4]at h;exact⟨h.1.1.2,fun h=>by cases h⟩
 simp only[show ¬(5:Int)=0 by decide,show ¬(5:Int)=1 by decide,show ¬(5:Int)=2 by decide,show ¬(5:Int)=3 by decide,show ¬(5:Int)=4 by decide,Nf,Nc,N4,N6]at h;exact⟨h.1.1.1.1.2,fun _=>⟨h.1.1.1.2,h.1.1.2⟩⟩
theorem numB_in {d c n:Int} {bs:List Int} (h:X2P d c n bs=true):0<=c/\(d=4->0<=n/\n<=4096):=by
 unfold X2P at h;simp only[N4,Nw,NV,NB,Nj]at h;refine⟨by omega,fun h4=>?_⟩;rcases h.1.2 with h1|h1
 .exact absurd h4 h1
 omega
theorem X7O {vars:List Vr} {nh:Nat}:∀(l:List St) (top:Bool),ssC vars nh l top=0->Z6 l=true->wfL vars nh l=true
 |[],_,_,_=>by simp[wfL]
 | .mk d c v n t a b bs::l,top,h,hb=>by
   obtain⟨hs,hn,ht,ha,hb',hl⟩:=XcZ h;simp only[Z6,X43,N4,N6]at hb;have ia:=X7O a false ha hb.1.2.1;have ib:=X7O b false hb' hb.1.2.2;have il:=X7O l top hl hb.2;have hn4:=(numB_in hn).2;simp only[wfL,wfS,ia,ib,il,X2X ht,Bool.and_true,NW,N4,Nl,N6];refine⟨?_,?_,?_,hb.1.1⟩
   .by_cases hd:d=0\/d=5
    .exact .inr (X70 hs hd).1
    exact .inl ⟨fun h=>hd (.inl h),fun h=>hd (.inr h)⟩
   .by_cases hd:d=5
    .exact .inr ((X70 hs (.inr hd)).2 hd)
    exact .inl hd
   by_cases hd:d=4
   .exact .inr (hn4 hd).2
   exact .inl hd
theorem X7R:∀(l:List St) (p:B3),okL l=true->0<=p.o->mn (bdL CR l p).o 9=mn (p.o+(oUL l:Int)) 9
 |[],p,_,_=>by simp[bdL,oUL]
 | .mk d c v n t a b bs::l,p,h,hp=>by
   simp only[okL,okS,N4,Nl,N6]at h;have ha:=X7R a ⟨0,0,0⟩ h.1.2.2.1 (D9 0);have hb:=X7R b ⟨0,0,0⟩ h.1.2.2.2 (D9 0);have na:=Zy (ZB X2Q a _ h.1.2.2.1 (WS X2Q));have nb:=Zy (ZB X2Q b _ h.1.2.2.2 (WS X2Q));simp only[bdL,bdS,oUL,oUS];generalize bdL CR a ⟨0,0,0⟩=A at*;generalize bdL CR b ⟨0,0,0⟩=B at*;simp only[DM]at ha hb
   have key:0<=(bd1 d c n A B).o/\mn (bd1 d c n A B).o 9=mn (((if d=4 then n.toNat*oUL a else if d=3 then max (oUL a) (oUL b)else if d=1 then 1 else 0:Nat)):Int) 9:=by
    unfold nn3 at na nb;unfold bd1;by_cases h4:d=4
    .have hn:0<=n:=by omega
     rw[Na h4,Na h4];refine⟨DJ hn na.2.1,?_⟩;have e:=X2Z (C:=9) hn na.2.1 (Int.natCast_nonneg (oUL a)) (D9 0) (D9 0) ha;simp only[DM]at e;rw[e,Int.natCast_mul,Int.toNat_of_nonneg hn]
    rw[N7 h4,N7 h4];by_cases h3:d=3
    .rw[Na h3,Na h3];simp only[mx,mn]at ha hb⊢;have e:((max (oUL a) (oUL b):Nat):Int)=max (oUL a:Int) (oUL b:Int):=by omega
     rw[e];refine⟨by split<;>omega,?_⟩
     (repeat' split at ha)<;>(repeat' split at hb)<;>(repeat' split)<;>omega
    rw[N7 h3,N7 h3];split<;>exact⟨by simp only;omega,rfl⟩
   obtain⟨k0,k1⟩:=key;generalize(bd1 d c n A B)=X at*;generalize(if d=4 then n.toNat*oUL a else if d=3 then max (oUL a) (oUL b)else if d=1 then 1 else 0:Nat)=K at*
   have e:0<=(Qf CR p X).o/\mn (Qf CR p X).o 9=mn (p.o+K) 9:=by
    simp only[Qf,CR];simp only[mn]at k1⊢;refine⟨by split<;>omega,?_⟩
    (repeat' split at k1)<;>(repeat' split)<;>omega
   have il:=X7R l (Qf CR p X) h.2 e.1;rw[il];have e2:=e.2;generalize(Qf CR p X).o=Y at*;simp only[mn]at e2⊢;rw[Int.natCast_add]
   (repeat' split at e2)<;>(repeat' split)<;>omega
theorem W6 {f:Fl} (h:Qa f=0):X17 f=true/\X0b f.vars=0/\hcs f.vars [] f.hats=0/\ssC f.vars f.hats.length f.body true=0/\X5V f.body=false:=by
 unfold Qa at h;split at h
 .cases h
 rename_i hs;split at h
 .rename_i hv;split at h
  .rename_i hh;split at h
   .rename_i hb;split at h
    .cases h
    rename_i ho;exact⟨by simpa using hs,hv,hh,hb,by simpa using ho⟩
   rename_i hb;exact absurd h hb
  rename_i hh;exact absurd h hh
 rename_i hv;exact absurd h hv
theorem X5E {l:List St} (h:X5V l=false):(bdL CR l ⟨0,0,0⟩).s<=4096/\(bdL CR l ⟨0,0,0⟩).o<=8/\(bdL CR l ⟨0,0,0⟩).t<=67108864:=by
 unfold X5V at h;simp only[NV,Nj,Int.not_lt]at h;exact⟨h.1,h.2.1,h.2.2⟩
theorem XbJ {f:Fl} (hb:Z6 f.body=true) (h:Qa f=0):wfL f.vars f.hats.length f.body=true/\oUL f.body<=2000000/\∀h∈f.hats,QT f.vars true h.term=true:=by
 obtain⟨_,_,hh,hs,ho⟩:=W6 h;have h8:=(X5E ho).2.1;have hc:=X7R f.body ⟨0,0,0⟩ (X0E _ _ hs) (D9 0);refine⟨X7O _ _ hs hb,?_,X3c _ _ hh⟩;simp only[DM,mn]at hc
 (repeat' split at hc)<;>omega
theorem Xcz (l:List St):Xh l<=1000000000->∀d:Nat,Con prog 16 true [lS l] (.v (li (szL l))) none d:=by
 revert l
 apply St.lists;intro l ih hn d;have hlen:=Qm l;have hsl:=X09 l;obtain⟨res,hres⟩:∃r,szL l=r:=⟨_,rfl⟩;rw[hres]at hsl⊢;refine X6 Tryz.func16 ?_;simp only[Tryz.f16];refine X1 ?_;refine X1 ?_;refine X0<|X0<|X2 ?_;refine X3<|(Xd [0] (fun(x:Nat×Nat)=>[(3,.v (li ((x.2:Nat):Int))),(4,.v (li x.1))]) (fun x=>[]) (fun x=>x.1<=l.length/\x.2+szL (l.drop x.1)=res) (fun x=>l.length - x.1) (0,0) ⟨Nq _,by simp[hres]⟩ ?_ ?_)
 .exact X4 (fun n=>n) []
 rintro⟨k,m⟩ ⟨hk,hJ⟩;simp only[upS,X5,Xy]
 try simp only[X5,KN,Nat.reduceBEq,Nf,Nc,ins,Nat.reduceLT]
 simp only at hk hJ;refine X0<|X0<|X2 ?_;refine(X8 rfl (fun h5=>Xb ?_) (fun h5=>?_))
 ·(try simp only[BN]at h5);have hlt:k<l.length:=by omega
  obtain⟨s,he,hd⟩:=Xu hlt;have hmem:s∈l:=N3 he;have hnm:=Qz hmem;have iha:=fun h=>(ih s hmem).1 h;have ihb:=fun h=>(ih s hmem).2 h;have hw1:=XE hlt (by omega);have hk1:k+1<=l.length:=hlt;rw[hd]at hJ;obtain⟨sd,sc,sv,sn,⟨so,stn,sks⟩,sa,sb,sbs⟩:=s;simp only[St.then_,St.else_,St.term]at iha ihb hnm;simp only[szL,szS]at hJ;have ca:=iha (by omega);have cb:=ihb (by omega);have he':=Q2 he;simp only[St.enc,Tm.enc,List.cons_append,List.nil_append]at he';generalize szL sa=na at*;generalize szL sb=nb at*;have hw2:IntKind.i64.wrap ((m:Int)+1)=(m:Int)+1:=X9;have hw3:IntKind.i64.wrap ((m:Int)+1+(na:Int))=(m:Int)+1+(na:Int):=X9;have hw4:IntKind.i64.wrap ((m:Int)+1+(na:Int)+(nb:Int))=(m:Int)+1+(na:Int)+(nb:Int):=X9;clear hlt h5 ih hmem iha ihb;refine X0<|X3<|(QC [⟨true,.v (li (na:Int)),none⟩,⟨true,.v (li (nb:Int)),none⟩] (by kernel_rfl) (by kernel_rfl) (by rfl) (by simp[*];first|exact⟨rfl,Iff.rfl⟩|exact⟨rfl,trivial⟩|rfl) ?_ ?_)
  .first|exact⟨ca _,cb _⟩|exact trivial|(repeat' first|exact trivial|exact ca _|exact cb _|apply And.intro)
  refine X2 ?_;exact⟨(k+1,m+1+na+nb),⟨hk1,by simp only;omega⟩,by simp only;omega,X4 (fun n=>n) []⟩
 (try simp only[BN]at h5);have hkl:k=l.length:=by omega
 rw[hkl,Nt]at hJ;simp only[szL]at hJ;have hm:m=res:=by omega
 refine(Xg ?_);refine X1 ?_;exact Xf
attribute [simp] Ob.flat
def waitL (n:Int):List St:=if n=0 then [] else [.mk 2 n 0 0 (.mk 0 0 []) [] [] []]
def posI (n:Int):Int:=if 0<n then n else 0
def balS:St->St
 | .mk d c v n t a b bs=>
   if d=3 then .mk d c v n t (a++waitL (posI ((spL b (0,0)).1 - (spL a (0,0)).1))) (b++waitL (posI ((spL a (0,0)).1 - (spL b (0,0)).1))) bs
   else if d=4/\t.op≠0 then .mk d c v n (.mk 0 1 []) [.mk 3 0 0 0 t a (waitL (spL a (0,0)).1) []] b bs
   else .mk d c v n t a b bs
theorem XcJ (t:Tm):t.nodes<=1000000->∀d:Nat,Con prog 148 false [aT t] (.v (aT t)) none d:=by
 revert t
 refine Tm.ind ?_;intro o n ks ih hn d;simp only[Tm.nodes]at hn;have hlen:=Wh ks;refine X6 Tryz.func148 ?_;simp only[Tryz.f148];simp only[aT,Tm.enc,Ni,Nr];refine X1 ?_;refine X1 ?_;refine X0<|X0<|X2 ?_;refine X3<|(Xd [2,3,12,13] (fun(x:Nat)=>[(14,.v (li x))]) (fun x=>[(2,.box [.c (iC 0),.c (iC 0),.c (.lit XY)]),(3,.box [.c (iC o),.c (iC n),.own 900001]),(900001,.row 68 3 (XA (ks.take x)))]) (fun x=>x<=ks.length) (fun x=>ks.length - x) (0:Nat) (Nq _) ?_ ?_)
 .exact X4 (fun n=>n) [900001]
 rintro k hk;simp only[upS,X5,Xy]
 try simp only[X5,KN,Nat.reduceBEq,Nf,Nc,ins,Nat.reduceLT]
 refine X1 ?_;refine X0<|(X8 rfl (fun h5=>Xb ?_) (fun h5=>?_))
 ·(try simp only[BN]at h5);have hlt:k<ks.length:=by omega
  obtain⟨t,he,hd⟩:=Xu hlt;have hw1:=XE hlt (by omega);have hk1:k+1<=ks.length:=hlt;have hmem:t∈ks:=N3 he;have hnm:=X8D hmem;have ct:=ih t hmem (by omega);have htl:(ks.take k).length=k:=by rw[NG];omega
  have hroom:W4 (k+1) 40:=XX (by omega) (by omega)
  have hsn:XA (ks.take (k+1))=XA (ks.take k)++[t.enc]:=by
   rw[X0N,X0N,List.take_add_one,he,Option.toList_some,Dr];rfl
  have he':=Wx he;obtain⟨so,stn,sks⟩:=t;simp only[Tm.enc]at he' hsn;simp only[aT,Tm.enc,Ni,Nr]at ct;clear hlt h5 ih hmem hnm he hd;refine X0<|X3<|X0<|X2 ?_;refine(XbW [(18,3),(24,3)] [⟨false,.v (.agg [.c (iC so),.c (iC stn),.c (.sl 3 (XA sks))]),none⟩] (by kernel_rfl) (by kernel_rfl) (by rfl) (by simp[X4L,X4E,Qy, *];first|exact⟨rfl,Iff.rfl⟩|exact⟨rfl,trivial⟩|rfl) ?_ ?_)
  .first|exact ct _|exact trivial|simpa[*]using ct _
  refine X2 ?_;exact⟨k+1,hk1,by omega,X4 (fun n=>if n=900001 then 23 else n) []⟩
 (try simp only[BN]at h5);have hkl:k=ks.length:=by omega
 subst hkl;simp only[List.take_length];refine(Xg ?_);refine XB (Qs 900001 rfl) ?_;refine X1 ?_;exact Qe ⟨.inr rfl,_,le_refl _,⟨⟨_,by simp;rfl,by simp[XL]⟩,by simp,fun h=>by cases h⟩⟩
theorem X9C (s:St) (hn:s.nodes<=1000000) (hb:X43 s=true) (ca:∀d:Nat,Con prog 149 false [lS s.then_] (.v (lS s.then_)) none d) (cb:∀d:Nat,Con prog 149 false [lS s.else_] (.v (lS s.else_)) none d) (d:Nat):
  Con prog 87 false [aS s] (.v (aS s)) none d:=by
 have ct:=XcJ s.term;have cc:=Xa5 s.bounds;obtain⟨sd,sc,sv,sn,⟨so,stn,sks⟩,sa,sb,sbs⟩:=s;simp only[St.then_,St.else_,St.term,St.bounds]at ca cb ct cc;simp only[X43,N4,N6]at hb;have cc:=cc hb.1;simp only[St.nodes]at hn;have ct:=ct (by omega);simp only[aT,Tm.enc,Ni,Nr]at ct;clear hn hb;refine X6 Tryz.func87 ?_;simp only[Tryz.f87];simp only[aS,St.enc,Tm.enc,Ni,Nr,List.cons_append,List.nil_append];refine X1 ?_;refine X0<|(QC [⟨false,.v (.agg [.c (iC so),.c (iC stn),.c (.sl 3 (XA sks))]),none⟩,⟨false,.v (lS sa),none⟩,⟨false,.v (lS sb),none⟩,⟨false,.v (lI sbs),none⟩] (by kernel_rfl) (by kernel_rfl) (by rfl) (by simp[*,XO,QE,Q3];first|exact⟨rfl,Iff.rfl⟩|exact⟨rfl,trivial⟩|rfl) ?_ ?_)
 .first|exact⟨ct _,ca _,cb _,cc _⟩|exact trivial|(repeat' first|exact trivial|exact ct _|exact ca _|exact cb _|exact cc _|apply And.intro)
 exact Qe ⟨.inr rfl,_,le_refl _,⟨⟨_,by simp;rfl,by simp[XL]⟩,by simp,fun h=>by cases h⟩⟩
theorem X6j (l:List St):Xh l<=1000000->Z6 l=true->∀d:Nat,Con prog 149 false [lS l] (.v (lS l)) none d:=by
 revert l
 apply St.lists;intro l ih hn hbn d;have hlen:=Qm l;refine X6 Tryz.func149 ?_;simp only[Tryz.f149];refine X1 ?_;refine X1 ?_;refine X0<|X0<|X2 ?_;refine X3<|(Xd [6,7] (fun(x:Nat)=>[(3,.v (.one (.own 1003))),(8,.v (li x))]) (fun x=>[(1003,.row 70 10 (X7 (l.take x)))]) (fun x=>x<=l.length) (fun x=>l.length - x) (0:Nat) (Nq _) ?_ ?_)
 .exact X4 (fun n=>n) [1003]
 rintro k hk;simp only[upS,X5,Xy]
 try simp only[X5,KN,Nat.reduceBEq,Nf,Nc,ins,Nat.reduceLT]
 refine X1 ?_;refine X0<|(X8 rfl (fun h5=>Xb ?_) (fun h5=>?_))
 ·(try simp only[BN]at h5);have hlt:k<l.length:=by omega
  obtain⟨s,he,hd⟩:=Xu hlt;have hw1:=XE hlt (by omega);have hk1:k+1<=l.length:=hlt;have hmem:s∈l:=N3 he;have hnm:=Qz hmem;have hbm:=X5r hbn hmem
  have hsz:s.nodes<=1000000:=by
   obtain⟨sd,sc,sv,sn,t,sa,sb,sbs⟩:=s;simp only[St.then_,St.else_,St.term,St.nodes]at*;omega
  have hbab:Z6 s.then_=true/\Z6 s.else_=true:=by
   obtain⟨sd,sc,sv,sn,t,sa,sb,sbs⟩:=s;simp only[X43,N4,N6]at hbm;exact hbm.2
  have cs:=X9C s hsz hbm ((ih s hmem).1 (by omega) hbab.1) ((ih s hmem).2 (by omega) hbab.2);have htl:(l.take k).length=k:=by rw[NG];omega
  have hroom:W4 (k+1) 144:=XX (by omega) (by omega)
  have hsn:X7 (l.take (k+1))=X7 (l.take k)++[s.enc]:=by
   rw[WP,WP,List.take_add_one,he,Option.toList_some,Dr];rfl
  have he':=Q2 he;obtain⟨sd,sc,sv,sn,⟨so,stn,sks⟩,sa,sb,sbs⟩:=s;simp only[St.enc,Tm.enc,List.cons_append,List.nil_append]at he' hsn;simp only[aS,St.enc,Tm.enc,Ni,Nr,List.cons_append,List.nil_append]at cs;clear hlt h5 ih hmem hnm he hd hbm hsz hbab;refine X0<|X3<|X0<|X2 ?_;refine(Xo [⟨false,.v (aS (.mk sd sc sv sn (.mk so stn sks) sa sb sbs)),none⟩] ?_ ?_)
  .first|exact cs _|exact trivial|simpa[*]using cs _
  refine X2 ?_;exact⟨k+1,hk1,by omega,X4 (fun n=>if n=1003 then 16 else n) []⟩
 (try simp only[BN]at h5);have hkl:k=l.length:=by omega
 subst hkl;simp only[List.take_length];refine(Xg ?_);refine X1 ?_;exact Qe ⟨.inr rfl,_,Qs 1003 rfl,⟨⟨_,by simp;rfl,by simp[XL]⟩,by simp,fun h=>by cases h⟩⟩
theorem XbT (s:St) (hn:s.nodes<=1000000) (hb:X43 s=true) (d:Nat):Con prog 87 false [aS s] (.v (aS s)) none d:=by
 have hx:Xh s.then_<=1000000/\Xh s.else_<=1000000/\Z6 s.then_=true/\Z6 s.else_=true:=by
  obtain⟨sd,sc,sv,sn,t,sa,sb,sbs⟩:=s;simp only[St.then_,St.else_,St.nodes,X43,N4,N6]at*;exact⟨by omega,by omega,hb.2⟩
 exact X9C s hn hb (X6j _ hx.1 hx.2.2.1) (X6j _ hx.2.1 hx.2.2.2) d
mutual
def woS:St->Int->St
 | .mk d c v n t a b bs,i=>.mk d c v n t (woL a i) (woL b (i - szL a)) bs
def woL:List St->Int->List St
 |[],_=>[]
 |s::l,i=>(if i=0 then [] else [woS s (i - 1)])++woL l (i - szS s)
end
mutual
theorem woS_id:∀(s:St) (i:Int),i<0\/(szS s:Int) - 1<=i->woS s i=s
 | .mk d c v n t a b bs,i,h=>by
   simp only[szS]at h;simp only[woS];rw[X0C a i (by omega),X0C b _ (by omega)]
theorem X0C:∀(l:List St) (i:Int),i<0\/(szL l:Int)<=i->woL l i=l
 |[],i,h=>rfl
 | s::l,i,h=>by
   have hp:=X7N s;simp only[szL]at h;simp only[woL];rw[N7 (by omega),woS_id s _ (by omega),X0C l _ (by omega)];rfl
end
mutual
def fndS:St->Int->Option St
 | .mk d c v n t a b bs,i=>if i=0 then some (.mk d c v n t a b bs)else
   match Zr a (i - 1)with
   |some x=>some x
   |none=>Zr b (i - 1 - szL a)
def Zr:List St->Int->Option St
 |[],_=>none
 | s::l,i=>match fndS s i with
   |some x=>some x
   |none=>Zr l (i - szS s)
end
theorem X3Y (i:Int):Zr [] i=none:=by simp only[Zr]
theorem X0G (d c v n:Int) (t:Tm) (a b:List St) (bs:List Int) (l:List St) (i:Int):Zr (.mk d c v n t a b bs::l) i=
  if i=0 then some (.mk d c v n t a b bs)else
  match Zr a (i - 1)with
  |some x=>some x
  | none=>match Zr b (i - 1 - szL a)with
    |some x=>some x
    |none=>Zr l (i - 1 - szL a - szL b):=by
 have h:i - ((1+szL a+szL b:Nat):Int)=i - 1 - szL a - szL b:=by omega
 simp only[Zr,fndS,szS];rw[h];by_cases h0:i=0
 .simp only[h0,Nf]
 simp only[h0,Nc];cases Zr a (i - 1)with
 |some x=>rfl
 |none=>rfl
end Go.Proofs.YtdajceakaakdoaaGreat
