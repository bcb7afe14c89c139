/- Part 5: contracts of functions of the program and of the reference, and plain facts about what they compute; used by the proof of the claimed statement. Conditions: as each theorem states. -/
import Derived.Test.YtppjennamodfdaaGreatK4
import Derived.Test.YtppjennamodfdaaGreatK3
import Derived.Test.YtppjennamodfdaaGreatK2
set_option linter.unusedSimpArgs false
set_option linter.unusedVariables false
set_option linter.unnecessarySimpa false
set_option maxRecDepth 100000
set_option maxHeartbeats 2000000
namespace Go.Proofs.YtppjennamodfdaaGreat
open Go Go.Hl
def X3j (d:Int):Int:=if d=2 then 67108864 else 10000
def X43 (bs:List Int):Bool:=
 match bs[bs.length - 1]? with
 |some x=>decide (x≤67108864)
 |none=>true
def X1D (d c n:Int) (bs:List Int):Bool:=
 (!(decide (c<0)||decide (X3j d<c)||(decide (d=4)&&(decide (n<0)||decide (4096<n)))))&&(decide (d≠6)||X43 bs)
theorem numP_con (s:St) (hb:s.bounds.length≤1000000000) (h6:s.do_=6→s.bounds≠[]) (h5:s.do_≠6→s.bounds=[]) (e:Nat):
  Con Tryz.prog 182 true [aS s] (.v (lb (X1D s.do_ s.cost s.n s.bounds))) none e:=by
 obtain⟨d,c,v,n,⟨o,tn,ks⟩,a,b,bs⟩:=s;simp only[St.do_,St.cost,St.n,St.bounds]at hb h6 h5⊢;refine X5 Tryz.func182 ?_;simp only[Tryz.f182];simp only[aS,St.enc,Tm.enc,List.map_cons,List.map_nil,List.cons_append,List.nil_append];refine X3 ?_;refine X3 ?_;refine(XV [1] (fun(z:Int)=>[(3,.v (li z))]) (fun(z:Int)=>[(1,.box [.c (iC d),.c (iC c),.c (iC v),.c (iC n),.c (iC o),.c (iC tn),.c (.sl 3 (Xo ks)),.c (.sl 10 (X9 a)),.c (.sl 10 (X9 b)),.c (.sl 1 (Xe bs))])]) (fun(z:Int)=>z=X3j d) ?_ ?_)
 ·
  refine X3 ?_;refine(Xa rfl (fun h4=>?_) fun h4=>?_)
  · (try simp only[BN]at h4);refine X2 ?_;exact⟨67108864,by simp[X3j,h4],X6 (fun n=>n) []⟩
  (try simp only[BN]at h4);exact⟨10000,by simp[X3j,h4],X6 (fun n=>n) []⟩
 rintro M hM;simp only[upS,X8,Xw]
 try simp only[X8,KN,Nat.reduceBEq,if_true,if_false,ins,Nat.reduceLT]
 refine X1<|X1<|X2 ?_;refine(Xa rfl (fun h9=>?_) fun h9=>?_)
 · try simp only[BN]at h9
   have hz:X1D d c n bs=false:=by
    unfold X1D;rw[←hM];simp only[Bool.and_eq_false_iff,Bool.or_eq_true,Bool.and_eq_true,Bool.not_eq_false',decide_eq_true_eq];omega
   refine X3 ?_;exact Xc
 try simp only[BN]at h9
 have hz:X1D d c n bs=(decide (d≠6)||X43 bs):=by
  unfold X1D;rw[←hM]
  rw[show(!(decide (c<0)||decide (M<c)||(decide (d=4)&&(decide (n<0)||decide (4096<n)))))=true by
   simp only[Bool.or_eq_false_iff,Bool.and_eq_false_iff,Bool.not_eq_true',decide_eq_false_iff_not]
   omega]
  rfl
 clear h9;by_cases hd6:d=6
 · have hne:=h6 hd6
   have hpos:1≤bs.length:=by
    cases bs with
    |nil=>exact absurd rfl hne
    |cons x l=>simp
   obtain⟨x,hx⟩:=X4Z (show bs.length - 1<bs.length by omega);have hw1:IntKind.i64.wrap ((bs.length:Int) - 1)=(bs.length:Int) - 1:=Xd (by omega) (by omega);have hw2:0≤(bs.length:Int) - 1:=by omega
   have hw3:((bs.length:Int) - 1).toNat=bs.length - 1:=by omega
   have hw4:1≤(bs.length:Int):=by omega
   have hlo:X43 bs=decide (x≤67108864):=by unfold X43;rw[hx]
   clear h6 h5 hne hpos;refine X3 ?_;exact Xc
 have hbs:=h5 hd6;subst hbs;have hw1:IntKind.i64.wrap (-1)=-1:=by decide
 clear h6 h5;refine X3 ?_;exact Xc
theorem X9H (f:Fl) (s:St) (last:Bool) (hv:f.vars.length≤1000000000) (hb:s.bounds.length≤1000000000) (e:Nat):
  Con Tryz.prog 181 true [aF f,aS s,lb last] (.v (lb (shB f.vars f.hats.length s.do_ s.var s.n s.term s.then_.length s.else_.length s.bounds last))) none e:=by
 obtain⟨vars,hats,body⟩:=f;obtain⟨d,c,v,n,t,a,b,bs⟩:=s;simp only[St.do_,St.var,St.n,St.term,St.then_,St.else_,St.bounds]at hb⊢;simp only at hv;have c1:=Xbe t;have c2:=X9g bs hb;have c3:=uV_con d;have c4:=uN_con d;have c5:=uT_con d;have hgood:=@sh_good vars hats.length d v n t a.length b.length bs last;have hbad:=@sh_bad vars hats.length d v n t a.length b.length bs last;have hrise:ZH bs=((decide (1≤bs.length)&&(decide (bs.length≤32)&&X4W bs))&&X4z bs):=rfl;rw[hrise]at hgood;clear hrise;generalize shB vars hats.length d v n t a.length b.length bs last=SH at*;generalize uVB d=UV at*;generalize uNB d=UN at*;generalize uTB d=UT at*;generalize WT t=P at*;generalize X4z bs=R at*;obtain⟨LO,hLO⟩:∃p,W5 vars v=p:=⟨_,rfl⟩;rw[hLO]at hgood hbad;obtain⟨o,tn,ks⟩:=t;obtain⟨la,hla⟩:∃k,a.length=k:=⟨_,rfl⟩;obtain⟨lc,hlc⟩:∃k,b.length=k:=⟨_,rfl⟩;obtain⟨nb,hnb⟩:∃k,bs.length=k:=⟨_,rfl⟩;obtain⟨nv,hnv⟩:∃k,vars.length=k:=⟨_,rfl⟩;obtain⟨nh,hnh⟩:∃k,hats.length=k:=⟨_,rfl⟩;rw[hla,hlc,hnb,hnh]at hgood hbad;simp only[aT,Tm.enc,List.map_cons,List.map_nil]at c1;refine X5 Tryz.func181 ?_;simp only[Tryz.f181];simp only[aF,aS,Fl.enc,St.enc,Tm.enc,List.map_cons,List.map_nil,List.cons_append,List.nil_append];refine X3 ?_;refine X3 ?_;refine(XV [2,4,7] (fun(z:Unit)=>[]) (fun(z:Unit)=>[(4,.box [.c (iC d),.c (iC c),.c (iC v),.c (iC n),.c (iC o),.c (iC tn),.c (.sl 3 (Xo ks)),.c (.sl 10 (X9 a)),.c (.sl 10 (X9 b)),.c (.sl 1 (Xe bs))])]) (fun(z:Unit)=>SH=(decide (d≠6)||(last&&((decide (0<nb)&&(decide (nb≤32)&&X4W bs))&&R)))) ?_ ?_)
 ·
  refine X4<|(XV [2,4,7] (fun(z:Bool)=>[(10,.v (lb z))]) (fun(z:Bool)=>[(4,.box [.c (iC d),.c (iC c),.c (iC v),.c (iC n),.c (iC o),.c (iC tn),.c (.sl 3 (Xo ks)),.c (.sl 10 (X9 a)),.c (.sl 10 (X9 b)),.c (.sl 1 (Xe bs))])]) (fun(z:Bool)=>z=decide (badP UV UN UT P LO d v n la lc nb nh)) ?_ ?_)
  ·
   refine X3 ?_;refine(X7 rfl (fun h5=>Xb ?_) (fun h5=>?_))
   · (try simp only[BN]at h5);exact⟨true,(decide_eq_true (h5.elim .inl (fun h=>.inr (.inl h)))).symm,X6 (fun n=>n) []⟩
   (try simp only[BN]at h5);refine Xj [⟨true,.v (lb UV),none⟩] ?_ ?_
   · first|exact c3 _|exact trivial|simpa[*]using c3 _
   refine(X7 rfl (fun h8=>Xb ?_) (fun h8=>?_))
   · (try simp only[BN]at h8);exact⟨true,(decide_eq_true (.inr (.inr (.inl h8)))).symm,X6 (fun n=>n) []⟩
   (try simp only[BN]at h8);refine Xj [⟨true,.v (lb UN),none⟩] ?_ ?_
   · first|exact c4 _|exact trivial|simpa[*]using c4 _
   refine(X7 rfl (fun h11=>Xb ?_) (fun h11=>?_))
   · (try simp only[BN]at h11);exact⟨true,(decide_eq_true (.inr (.inr (.inr (.inl h11))))).symm,X6 (fun n=>n) []⟩
   (try simp only[BN]at h11);refine XV [2,3,4,7] (fun(z:Bool)=>[(10,.v (lb z))]) (fun(z:Bool)=>[(3,.box [.c (.sl 5 (Xv vars)),.c (.sl 6 (Xu hats)),.c (.sl 10 (X9 body))]),(4,.box [.c (iC d),.c (iC c),.c (iC v),.c (iC n),.c (iC o),.c (iC tn),.c (.sl 3 (Xo ks)),.c (.sl 10 (X9 a)),.c (.sl 10 (X9 b)),.c (.sl 1 (Xe bs))])]) (fun(z:Bool)=>z=(!UT&& !P)) ?_ ?_
   · rcases(show UT=false∨UT=true by cases UT<;>simp)with hUT|hUT
     · refine QU [⟨true,.v (lb false),none⟩,⟨true,.v (lb P),none⟩] (by simp[*];first|exact⟨rfl,Iff.rfl⟩|exact⟨rfl,trivial⟩|rfl) ?_ ?_
       · (repeat' first|exact trivial|(simpa[hUT]using c5 _)|exact c1 _|apply And.intro)
       exact⟨!P,by simp[hUT],X6 (fun n=>n) []⟩
     refine WP [some ⟨true,.v (lb true),none⟩,none] (by simp[*];first|exact⟨rfl,Iff.rfl⟩|exact⟨rfl,trivial⟩|rfl) ?_ ?_
     · first|exact trivial|(simpa[hUT]using c5 _)
     exact⟨false,by simp[hUT],X6 (fun n=>n) []⟩
   rintro LUT hLUT;simp only[upS,X8,Xw]
   try simp only[X8,KN,Nat.reduceBEq,if_true,if_false,ins,Nat.reduceLT]
   refine(X7 rfl (fun h14=>Xb ?_) (fun h14=>?_))
   · (try simp only[BN]at h14);rw[hLUT,Bool.and_eq_true,Bool.not_eq_true',Bool.not_eq_true']at h14;exact⟨true,(decide_eq_true (.inr (.inr (.inr (.inr (.inl h14)))))).symm,X6 (fun n=>n) []⟩
   (try simp only[BN]at h14);refine X3 ?_;refine(X7 rfl (fun h17=>Xb ?_) (fun h17=>?_))
   · (try simp only[BN]at h17);exact⟨true,(decide_eq_true (.inr (.inr (.inr (.inr (.inr (.inl ⟨h17.1,by omega⟩))))))).symm,X6 (fun n=>n) []⟩
   (try simp only[BN]at h17);refine X3 ?_;refine(X7 rfl (fun h20=>Xb ?_) (fun h20=>?_))
   · (try simp only[BN]at h20);exact⟨true,(decide_eq_true (.inr (.inr (.inr (.inr (.inr (.inr (.inl ⟨h20.1,by omega⟩)))))))).symm,X6 (fun n=>n) []⟩
   (try simp only[BN]at h20);refine X3 ?_;refine(X7 rfl (fun h23=>Xb ?_) (fun h23=>?_))
   · (try simp only[BN]at h23);exact⟨true,(decide_eq_true (.inr (.inr (.inr (.inr (.inr (.inr (.inr (.inl ⟨h23.1,by omega⟩))))))))).symm,X6 (fun n=>n) []⟩
   (try simp only[BN]at h23);refine XV [2,3,4,7] (fun(z:Bool)=>[(10,.v (lb z))]) (fun(z:Bool)=>[(3,.box [.c (.sl 5 (Xv vars)),.c (.sl 6 (Xu hats)),.c (.sl 10 (X9 body))]),(4,.box [.c (iC d),.c (iC c),.c (iC v),.c (iC n),.c (iC o),.c (iC tn),.c (.sl 3 (Xo ks)),.c (.sl 10 (X9 a)),.c (.sl 10 (X9 b)),.c (.sl 1 (Xe bs))])]) (fun(z:Bool)=>z=(UV&& !LO)) ?_ ?_
   · by_cases h0:0≤v
     · have h3:¬v<0:=by omega
       by_cases h1:v<vars.length
       · obtain⟨w,hw⟩:=X3e ⟨h0,h1⟩;have h2:¬(nv:Int)≤v:=by omega
         have hz:LO=decide (w.kind=0):=by rw[←hLO];unfold W5;rw[hw];simp[h0]
         subst hz;clear h1;refine QU [⟨true,.v (lb UV),none⟩] (by simp[*];first|exact⟨rfl,Iff.rfl⟩|exact⟨rfl,trivial⟩|rfl) ?_ ?_
         · first|exact c3 _|exact trivial
         exact⟨UV&& !decide (w.kind=0),rfl,X6 (fun n=>n) []⟩
       have hw:=X0T h0 h1;have h2:(nv:Int)≤v:=by omega
       have hz:LO=false:=by rw[←hLO];unfold W5;rw[hw];simp
       subst hz;clear h1;refine QU [⟨true,.v (lb UV),none⟩] (by simp[*];first|exact⟨rfl,Iff.rfl⟩|exact⟨rfl,trivial⟩|rfl) ?_ ?_
       · first|exact c3 _|exact trivial
       exact⟨UV&& !false,rfl,X6 (fun n=>n) []⟩
     have h3:v<0:=by omega
     have hz:LO=false:=by rw[←hLO];unfold W5;simp[h0]
     subst hz;refine QU [⟨true,.v (lb UV),none⟩] (by simp[*];first|exact⟨rfl,Iff.rfl⟩|exact⟨rfl,trivial⟩|rfl) ?_ ?_
     · first|exact c3 _|exact trivial
     exact⟨UV&& !false,rfl,X6 (fun n=>n) []⟩
   rintro LOU hLOU;simp only[upS,X8,Xw]
   try simp only[X8,KN,Nat.reduceBEq,if_true,if_false,ins,Nat.reduceLT]
   refine(X7 rfl (fun h26=>Xb ?_) (fun h26=>?_))
   · (try simp only[BN]at h26);rw[hLOU,Bool.and_eq_true,Bool.not_eq_true']at h26;exact⟨true,(decide_eq_true (.inr (.inr (.inr (.inr (.inr (.inr (.inr (.inr (.inl h26)))))))))).symm,X6 (fun n=>n) []⟩
   try simp only[BN]at h26
   have hz:decide (badP UV UN UT P LO d v n la lc nb nh)=(decide (d=5)&&(decide (n<0)||decide ((nh:Int)≤n))):=by
    rw[hLOU]at h26;rw[Bool.eq_iff_iff,decide_eq_true_eq];unfold badP;simp only[Bool.and_eq_true,Bool.or_eq_true,decide_eq_true_eq];constructor
    · rintro(h|h|h|h|h|h|h|h|h|h)
      · omega
      · omega
      · exact absurd h8 (by simp[h.1,h.2])
      · exact absurd h11 (by simp[h.1,h.2])
      · rw[hLUT,h.1,h.2]at h14;cases h14
      · omega
      · omega
      · omega
      · exact absurd h26 (by simp[h.1,h.2])
      exact h
    exact fun h=>.inr (.inr (.inr (.inr (.inr (.inr (.inr (.inr (.inr h))))))))
   refine X2 ?_;exact⟨(decide (d=5)&&(decide (n<0)||decide ((nh:Int)≤n))),hz.symm,X6 (fun n=>n) []⟩
  rintro _ rfl;simp only[upS,X8,Xw]
  try simp only[X8,KN,Nat.reduceBEq,if_true,if_false,ins,Nat.reduceLT]
  refine(Xa rfl (fun h30=>?_) fun h30=>?_)
  · (try simp only[BN]at h30);have hz:=hbad h30;clear hgood hbad;refine X3 ?_;exact Xc
  (try simp only[BN]at h30);have hz:=hgood h30;clear hgood hbad;exact⟨(),hz,X6 (fun n=>n) []⟩
 rintro _ hz;simp only[upS,X8,Xw]
 try simp only[X8,KN,Nat.reduceBEq,if_true,if_false,ins,Nat.reduceLT]
 clear hgood hbad;rcases Xb3 bs with h0|⟨b0,hb0⟩
 · subst h0;have hh:X4W []=false:=rfl;replace hnb:nb=0:=hnb.symm;subst hnb;rw[hh]at hz;refine Xj [⟨true,.v (lb R),none⟩] ?_ ?_
   · first|exact c2 _|exact trivial|simpa[*]using c2 _
   exact(Xl (fun h=>⟨.inr rfl,h⟩) _ (by simp[*];rfl) (by first|(simp[*,XD,Bool.and_assoc];done)|rfl) (by simp))
 have hh:X4W bs=decide (0≤b0):=by unfold X4W;rw[hb0]
 rw[hh]at hz;have e32:decide ((nb:Int)≤32)=decide (nb≤32):=by rw[decide_eq_decide];omega
 refine Xj [⟨true,.v (lb R),none⟩] ?_ ?_
 · first|exact c2 _|exact trivial|simpa[*]using c2 _
 exact(Xl (fun h=>⟨.inr rfl,h⟩) _ (by simp[*];rfl) (by rw[hz];simp[XD,e32,Bool.and_assoc]) (by simp))
end Go.Proofs.YtppjennamodfdaaGreat

namespace Go.Proofs.YtppjennamodfdaaGreat
open Go Go.Hl
def stC (vars:List Vr) (nh:Nat) (d c v n:Int) (t:Tm) (la lc:Nat) (bs:List Int) (last:Bool):Int:=
 if shB vars nh d v n t la lc bs last=false then 1 else if X1D d c n bs=false then 3 else X0v vars false t
def ssC (vars:List Vr) (nh:Nat):List St→Bool→Int
 |[],_=>0
 | .mk d c v n t a b bs::l,top=>
   if stC vars nh d c v n t a.length b.length bs (top&&l.isEmpty)=0 then
    (if ssC vars nh a false=0 then(if ssC vars nh b false=0 then ssC vars nh l top else ssC vars nh b false)else ssC vars nh a false)
   else stC vars nh d c v n t a.length b.length bs (top&&l.isEmpty)
mutual
def X0o:St→Bool
 | .mk _ _ _ _ _ a b bs=>decide (bs.length≤1000000000)&&(QX a&&QX b)
def QX:List St→Bool
 |[]=>true
 |s::l=>X0o s&&QX l
end
theorem X1C {l:List St} (h:QX l=true) {s:St} (hs:s∈l):X0o s=true:=by
 induction l with
 |nil=>cases hs
 | cons x l ih=>
   simp only[QX,Bool.and_eq_true]at h;rcases List.mem_cons.1 hs with rfl|h1
   · exact h.1
   exact ih h.2 h1
theorem X7s {vars:List Vr} {nh:Nat} {d v n:Int} {t:Tm} {la lc:Nat} {bs:List Int} {last:Bool} (h:shB vars nh d v n t la lc bs last=true):(d=6→bs≠[])∧(d≠6→bs=[])∧(n<0→d=4):=by
 have hr:ZH bs=true→1≤bs.length:=by
  intro h;unfold ZH at h;simp only[Bool.and_eq_true,decide_eq_true_eq]at h;omega
 have hb:bs≠[]↔1≤bs.length:=by cases bs<;>simp
 have hb2:bs=[]↔bs.length=0:=by cases bs<;>simp
 rw[hb,hb2];unfold shB at h;generalize ZH bs=R at*;generalize bs.length=nb at*
 (repeat' split at h)<;>(try simp only[Bool.and_eq_true,decide_eq_true_eq]at h)<;>(try have:=hr h.2)<;>(try cases h)<;>refine⟨fun h=>?_,fun h=>?_,fun h=>?_⟩<;>omega
theorem X7u {l:List St} {k:Nat} (h:k+1≤l.length):(l.drop (k+1)).isEmpty=decide ((k:Int)=(l.length:Int) - 1):=by
 rw[Bool.eq_iff_iff,List.isEmpty_iff,List.drop_eq_nil_iff,decide_eq_true_eq];omega
def fnz (vars:List Vr) (nh:Nat):List (List St)→Int
 |[]=>0
 |x::r=>if ssC vars nh x false=0 then fnz vars nh r else ssC vars nh x false
theorem Xbi (f:Fl) (hv:X0g f.vars) (hl:f.vars.length≤1000000) (l:List St):Xk l≤1000000000→QX l=true→∀(top:Bool) (d:Nat),
  Con Tryz.prog 166 true [aF f,lS l,lb top] (.v (li (ssC f.vars f.hats.length l top))) none d:=by
 revert l
 apply St.lists;intro l ih hn hbn top d;have hlen:=Qg l;obtain⟨res,hres⟩:∃r,ssC f.vars f.hats.length l top=r:=⟨_,rfl⟩;rw[hres];have csh:=fun s last hb=>X9H f s last (by omega) hb;obtain⟨vars,hats,body⟩:=f;simp only at hv hl hres ih csh;refine X5 Tryz.func166 ?_;simp only[Tryz.f166];simp only[aF,Fl.enc,List.map_cons,List.map_nil];refine X3 ?_;refine X1<|X1<|X2 ?_;refine X4<|(Xf [1,2,3,13,14] (fun(x:Nat)=>[(15,.v (li x))]) (fun x=>[(3,.box [.c (.sl 5 (Xv vars)),.c (.sl 6 (Xu hats)),.c (.sl 10 (X9 body))])]) (fun x=>x≤l.length∧ssC vars hats.length (l.drop x) top=res) (fun x=>l.length - x) (0:Nat) ⟨Nat.zero_le _,hres⟩ ?_ ?_)
 · exact X6 (fun n=>n) []
 rintro k ⟨hk,hJ⟩;simp only[upS,X8,Xw]
 try simp only[X8,KN,Nat.reduceBEq,if_true,if_false,ins,Nat.reduceLT]
 clear hres;refine X3 ?_;refine X1<|(X7 rfl (fun h4=>Xb ?_) (fun h4=>?_))
 · (try simp only[BN]at h4);have hlt:k<l.length:=by omega
   obtain⟨s,he,hd⟩:=Xs hlt;have hmem:s∈l:=List.mem_of_getElem? he;have hnm:=Qj hmem;have hbm:=X1C hbn hmem;have iha:=fun h h2=>(ih s hmem).1 h h2;have ihb:=fun h h2=>(ih s hmem).2 h h2;have hw1:=XA hlt (by omega);have hw2:IntKind.i64.wrap ((l.length:Int) - 1)=(l.length:Int) - 1:=Xd (by omega) (by omega);have hk1:k+1≤l.length:=hlt;have hla:=X7u hk1;rw[hd]at hJ;have ct:=X79 vars false hv (by omega) s.term;have csh1:=csh s (top&&decide ((k:Int)=(l.length:Int) - 1));have cnu:=numP_con s;obtain⟨sd,sc,sv,sn,⟨so,stn,sks⟩,sa,sb,sbs⟩:=s;simp only[St.then_,St.else_,St.term,St.bounds,St.do_,St.var,St.n,St.cost]at iha ihb hnm ct csh1 cnu;simp only[X0o,Bool.and_eq_true,decide_eq_true_eq]at hbm;simp only[ssC,hla]at hJ;have ca:=iha (by omega) hbm.2.1;have cb:=ihb (by omega) hbm.2.2;have ct:=ct (by omega);have csh1:=csh1 hbm.1;have cnu:=cnu hbm.1;have he':=Q1 he;simp only[St.enc,Tm.enc,List.cons_append,List.nil_append]at he';simp only[aF,Fl.enc,aS,St.enc,Tm.enc,List.map_cons,List.map_nil,List.cons_append,List.nil_append]at csh1 ca cb cnu;have hshb:=@X7s vars hats.length sd sv sn (.mk so stn sks) sa.length sb.length sbs (top&&decide ((k:Int)=(l.length:Int) - 1));obtain⟨SH,hSH⟩:∃x,shB vars hats.length sd sv sn (.mk so stn sks) sa.length sb.length sbs (top&&decide ((k:Int)=(l.length:Int) - 1))=x:=⟨_,rfl⟩;obtain⟨NU,hNU⟩:∃x,X1D sd sc sn sbs=x:=⟨_,rfl⟩;obtain⟨TC,hTC⟩:∃x,X0v vars false (.mk so stn sks)=x:=⟨_,rfl⟩;obtain⟨SC,hSC⟩:∃x,stC vars hats.length sd sc sv sn (.mk so stn sks) sa.length sb.length sbs (top&&decide ((k:Int)=(l.length:Int) - 1))=x:=⟨_,rfl⟩;rw[hSC]at hJ;unfold stC at hSC;rw[hSH]at csh1 hshb hSC;rw[hNU]at cnu hSC;rw[hTC]at ct hSC
   have hlc2:∀x∈[sa,sb],∀d,Con Tryz.prog 166 true [.agg [.c (.sl 5 (Xv vars)),.c (.sl 6 (Xu hats)),.c (.sl 10 (X9 body))],lS x,lb false] (.v (li (ssC vars hats.length x false))) none d:=by
    intro x hx;simp only[List.mem_cons,List.not_mem_nil,or_false]at hx;rcases hx with rfl|rfl
    · exact ca false
    exact cb false
   have hfn:(if ssC vars hats.length sa false=0 then(if ssC vars hats.length sb false=0 then ssC vars hats.length (l.drop (k+1)) top else ssC vars hats.length sb false)else ssC vars hats.length sa false)=(if fnz vars hats.length [sa,sb]=0 then ssC vars hats.length (l.drop (k+1)) top else fnz vars hats.length [sa,sb]):=by
    simp only[fnz];by_cases h1:ssC vars hats.length sa false=0<;>by_cases h2:ssC vars hats.length sb false=0<;>simp[h1,h2]
   rw[hfn]at hJ;obtain⟨LL,hLL⟩:∃x,x=[sa,sb]:=⟨_,rfl⟩;rw[←hLL]at hJ hlc2;obtain⟨FN,hFN⟩:∃x,fnz vars hats.length LL=x:=⟨_,rfl⟩;rw[hFN]at hJ;have hrows:LL.map (fun x=>[CD.sl 10 (X9 x)])=[[.sl 10 (X9 sa)],[.sl 10 (X9 sb)]]:=by rw[hLL];rfl
   have hL2:LL.length=2:=by rw[hLL];rfl
   clear hlt h4 iha ihb ih hmem hnm hd he hbm hSH hNU hTC ca cb hfn hLL csh hla;refine X1<|X4<|X1<|X2 ?_;refine X1<|X1<|(Xm [⟨true,.v (lb SH),none⟩] ?_ ?_)
   · first|exact csh1 _|exact trivial|simpa[*]using csh1 _
   refine(Xa rfl (fun h7=>?_) fun h7=>?_)
   · (try simp only[BN]at h7);rw[if_pos h7]at hSC;subst hSC;rw[if_neg (by decide)]at hJ;subst hJ;refine X3 ?_;exact Xc
   (try simp only[BN]at h7);rw[if_neg (by simp[h7])]at hSC;have hsb:=hshb h7;have cnu2:=cnu hsb.1 hsb.2.1;clear cnu hshb csh1;refine X1<|X1<|(Xm [⟨true,.v (lb NU),none⟩] ?_ ?_)
   · first|exact cnu2 _|exact trivial|simpa[*]using cnu2 _
   refine(Xa rfl (fun h11=>?_) fun h11=>?_)
   · (try simp only[BN]at h11);rw[if_pos h11]at hSC;subst hSC;rw[if_neg (by decide)]at hJ;subst hJ;refine X3 ?_;exact Xc
   (try simp only[BN]at h11);rw[if_neg (by simp[h11])]at hSC;subst hSC;clear cnu2 hsb;refine X1<|X1<|(Xm [⟨true,.v (li TC),none⟩] ?_ ?_)
   · first|exact ct _|exact trivial|simpa[*]using ct _
   refine X3 ?_;refine(Xa rfl (fun h16=>?_) fun h16=>?_)
   · (try simp only[BN]at h16);rw[if_neg h16]at hJ;subst hJ;refine X3 ?_;exact Xc
   (try simp only[BN]at h16);rw[if_pos (by simpa using h16)]at hJ;clear ct;refine X3 ?_;refine X4<|(Xf [1,2,3,13,14,15,47,48] (fun(x:Nat)=>[(49,.v (li x))]) (fun x=>[(3,.box [.c (.sl 5 (Xv vars)),.c (.sl 6 (Xu hats)),.c (.sl 10 (X9 body))]),(47,.row 24 1 (LL.map fun x=>[CD.sl 10 (X9 x)]))]) (fun x=>x≤2∧fnz vars hats.length (LL.drop x)=FN) (fun x=>2 - x) (0:Nat) ⟨Nat.zero_le _,hFN⟩ ?_ ?_)
   · exact X6 (fun n=>n) []
   rintro q ⟨hq,hJ2⟩;simp only[upS,X8,Xw]
   try simp only[X8,KN,Nat.reduceBEq,if_true,if_false,ins,Nat.reduceLT]
   clear hFN hrows;refine X3 ?_;refine X1<|(X7 rfl (fun h22=>Xb ?_) (fun h22=>?_))
   · (try simp only[BN]at h22);have hlt2:q<LL.length:=by omega
     obtain⟨y,hy,hdy⟩:=Xs hlt2;have hwq:=XA hlt2 (by omega);have hq1:q+1≤2:=by omega
     have cy:=hlc2 y (List.mem_of_getElem? hy);rw[hdy]at hJ2;simp only[fnz]at hJ2;generalize ssC vars hats.length y false=SY at*;clear hlt2 h22 hdy hlc2;refine X1<|X4<|X1<|X2 ?_;refine Xj [⟨true,.v (li SY),none⟩] ?_ ?_
     · first|exact cy _|exact trivial|simpa[*]using cy _
     refine X3 ?_;refine(Xa rfl (fun h26=>?_) fun h26=>?_)
     · (try simp only[BN]at h26);rw[if_neg h26]at hJ2;subst hJ2;rw[if_neg h26]at hJ;subst hJ;refine X3 ?_;exact Xc
     (try simp only[BN]at h26);rw[if_pos (by simpa using h26)]at hJ2;refine X2 ?_;exact⟨q+1,⟨hq1,hJ2⟩,by omega,X6 (fun n=>n) []⟩
   (try simp only[BN]at h22);have hq2:q=LL.length:=by omega
   rw[hq2,List.drop_length]at hJ2;simp only[fnz]at hJ2;rw[if_pos hJ2.symm]at hJ;refine(Xi ?_);refine X2 ?_;exact⟨k+1,⟨hk1,hJ⟩,by omega,X6 (fun n=>n) []⟩
 (try simp only[BN]at h4);have hkl:k=l.length:=by omega
 rw[hkl,List.drop_length]at hJ;simp only[ssC]at hJ;subst hJ;refine(Xi ?_);refine X3 ?_;exact Xc
end Go.Proofs.YtppjennamodfdaaGreat

namespace Go.Proofs.YtppjennamodfdaaGreat
open Go Go.Hl
theorem X1z {ks:List Tm} {t:Tm} (ht:t∈ks):t.nodes≤Qk ks:=X27 ht
theorem X6l (t:Tm):t.nodes≤1000000000→∀d:Nat,Con Tryz.prog 91 true [aT t] (.v (li t.nodes)) none d:=by
 induction t using Tm.ind with
 |h o n ks ih=>
 intro hn d;simp only[Tm.nodes]at hn⊢;have hlen:=Wg ks;obtain⟨res,hres⟩:∃r,Qk ks=r:=⟨_,rfl⟩;rw[hres]at hn⊢;refine X5 Tryz.func91 ?_;simp only[Tryz.f91];simp only[aT,Tm.enc];refine X3 ?_;refine X3 ?_;refine X1<|X1<|X2 ?_;refine X4<|(Xf [1] (fun(x:Nat×Nat)=>[(3,.v (li ((x.2:Nat):Int))),(4,.v (li x.1))]) (fun x=>[(1,.box [.c (iC o),.c (iC n),.c (.sl 3 (Xo ks))])]) (fun x=>x.1≤ks.length∧x.2+Qk (ks.drop x.1)=1+res) (fun x=>ks.length - x.1) (0,1) ⟨Nat.zero_le _,by simp[hres]⟩ ?_ ?_)
 · exact X6 (fun n=>n) []
 rintro⟨k,m⟩ ⟨hk,hJ⟩;simp only[upS,X8,Xw]
 try simp only[X8,KN,Nat.reduceBEq,if_true,if_false,ins,Nat.reduceLT]
 simp only at hk hJ;refine X1<|X1<|X2 ?_;refine(X7 rfl (fun h5=>Xb ?_) (fun h5=>?_))
 · (try simp only[BN]at h5);have hlt:k<ks.length:=by omega
   obtain⟨⟨eo,en,ek⟩,he,hd⟩:=Xs hlt;have he':=Wd he;simp only[Tm.enc]at he';have hmem:Tm.mk eo en ek∈ks:=List.mem_of_getElem? he;have hnm:=X27 hmem;have c:=ih _ hmem (by omega);have hw1:=XA hlt (by omega);have hk1:k+1≤ks.length:=hlt;rw[hd]at hJ;simp only[Qk]at hJ;generalize Tm.nodes (.mk eo en ek)=q at*;have hw2:IntKind.i64.wrap ((m:Int)+(q:Int))=(m:Int)+(q:Int):=Xd (by omega) (by omega);clear hlt h5 ih hmem;refine X1<|X4<|(Xm [⟨true,.v (li (q:Int)),none⟩] ?_ ?_)
   · first|exact c _|exact trivial|simpa[*]using c _
   refine X2 ?_;exact⟨(k+1,m+q),⟨hk1,by simp only;omega⟩,by simp only;omega,X6 (fun n=>n) []⟩
 (try simp only[BN]at h5);have hkl:k=ks.length:=by omega
 rw[hkl,List.drop_length]at hJ;simp only[Qk]at hJ;have hm:(m:Int)=1+(res:Int):=by omega
 refine(Xi ?_);refine X3 ?_;exact Xc
theorem XcZ (l:List St):Xk l≤1000000000→∀d:Nat,Con Tryz.prog 90 true [lS l] (.v (li (Xk l))) none d:=by
 revert l
 apply St.lists;intro l ih hn d;have hlen:=Qg l;obtain⟨res,hres⟩:∃r,Xk l=r:=⟨_,rfl⟩;rw[hres];refine X5 Tryz.func90 ?_;simp only[Tryz.f90];refine X3 ?_;refine X3 ?_;refine X1<|X1<|X2 ?_;refine X4<|(Xf [0] (fun(x:Nat×Nat)=>[(3,.v (li ((x.2:Nat):Int))),(4,.v (li x.1))]) (fun x=>[]) (fun x=>x.1≤l.length∧x.2+Xk (l.drop x.1)=res) (fun x=>l.length - x.1) (0,0) ⟨Nat.zero_le _,by simp[hres]⟩ ?_ ?_)
 · exact X6 (fun n=>n) []
 rintro⟨k,m⟩ ⟨hk,hJ⟩;simp only[upS,X8,Xw]
 try simp only[X8,KN,Nat.reduceBEq,if_true,if_false,ins,Nat.reduceLT]
 simp only at hk hJ;refine X1<|X1<|X2 ?_;refine(X7 rfl (fun h5=>Xb ?_) (fun h5=>?_))
 · (try simp only[BN]at h5);have hlt:k<l.length:=by omega
   obtain⟨s,he,hd⟩:=Xs hlt;have hmem:s∈l:=List.mem_of_getElem? he;have hnm:=Qj hmem;have iha:=fun h=>(ih s hmem).1 h;have ihb:=fun h=>(ih s hmem).2 h;have hw1:=XA hlt (by omega);have hk1:k+1≤l.length:=hlt;have ct:=X6l s.term;rw[hd]at hJ;obtain⟨sd,sc,sv,sn,⟨so,stn,sks⟩,sa,sb,sbs⟩:=s;simp only[St.then_,St.else_,St.term]at iha ihb hnm ct;simp only[Xk,St.nodes]at hJ;have ca:=iha (by omega);have cb:=ihb (by omega);have ct:=ct (by omega);have he':=Q1 he;simp only[St.enc,Tm.enc,List.cons_append,List.nil_append]at he';generalize Tm.nodes (.mk so stn sks)=q at*;generalize Xk sa=na at*;generalize Xk sb=nb at*;have hw2:IntKind.i64.wrap ((m:Int)+1)=(m:Int)+1:=Xd (by omega) (by omega);have hw3:IntKind.i64.wrap ((m:Int)+1+(q:Int))=(m:Int)+1+(q:Int):=Xd (by omega) (by omega);have hw4:IntKind.i64.wrap ((m:Int)+1+(q:Int)+(na:Int))=(m:Int)+1+(q:Int)+(na:Int):=Xd (by omega) (by omega);have hw5:IntKind.i64.wrap ((m:Int)+1+(q:Int)+(na:Int)+(nb:Int))=(m:Int)+1+(q:Int)+(na:Int)+(nb:Int):=Xd (by omega) (by omega);clear hlt h5 ih hmem iha ihb;refine X1<|X4<|(XS [⟨true,.v (li (q:Int)),none⟩,⟨true,.v (li (na:Int)),none⟩,⟨true,.v (li (nb:Int)),none⟩] (by kernel_rfl) (by kernel_rfl) (by rfl) (by simp[*];first|exact⟨rfl,Iff.rfl⟩|exact⟨rfl,trivial⟩|rfl) ?_ ?_)
   · first|exact⟨ct _,ca _,cb _⟩|exact trivial|(repeat' first|exact trivial|exact ct _|exact ca _|exact cb _|apply And.intro)
   refine X2 ?_;exact⟨(k+1,m+1+q+na+nb),⟨hk1,by simp only;omega⟩,by simp only;omega,X6 (fun n=>n) []⟩
 (try simp only[BN]at h5);have hkl:k=l.length:=by omega
 rw[hkl,List.drop_length]at hJ;simp only[Xk]at hJ;have hm:m=res:=by omega
 refine(Xi ?_);refine X3 ?_;exact Xc
mutual
def tdT:Tm→Nat
 | .mk _ _ ks=>X4v ks+1
def X4v:List Tm→Nat
 |[]=>0
 |t::l=>max (tdT t) (X4v l)
end
mutual
theorem td_le:∀t:Tm,tdT t≤t.nodes
 | .mk o n ks=>by have:=XaR ks;simp only[tdT,Tm.nodes];omega
theorem XaR:∀l:List Tm,X4v l≤Qk l
 |[]=>by simp[X4v]
 |t::l=>by have:=td_le t;have:=XaR l;simp only[X4v,Qk];omega
end
theorem X62 (t:Tm):t.nodes≤1000000000→∀d:Nat,Con Tryz.prog 92 true [aT t] (.v (li (tdT t))) none d:=by
 induction t using Tm.ind with
 |h o n ks ih=>
 intro hn d;simp only[Tm.nodes]at hn;simp only[tdT];have hlen:=Wg ks;have htl:=XaR ks;obtain⟨res,hres⟩:∃r,X4v ks=r:=⟨_,rfl⟩;rw[hres]at htl⊢;refine X5 Tryz.func92 ?_;simp only[Tryz.f92];simp only[aT,Tm.enc];refine X3 ?_;refine X3 ?_;refine X1<|X1<|X2 ?_;refine X4<|(Xf [1] (fun(x:Nat×Nat)=>[(3,.v (li ((x.2:Nat):Int))),(4,.v (li x.1))]) (fun x=>[(1,.box [.c (iC o),.c (iC n),.c (.sl 3 (Xo ks))])]) (fun x=>x.1≤ks.length∧max x.2 (X4v (ks.drop x.1))=res) (fun x=>ks.length - x.1) (0,0) ⟨Nat.zero_le _,by simp[hres]⟩ ?_ ?_)
 · exact X6 (fun n=>n) []
 rintro⟨k,m⟩ ⟨hk,hJ⟩;simp only[upS,X8,Xw]
 try simp only[X8,KN,Nat.reduceBEq,if_true,if_false,ins,Nat.reduceLT]
 simp only at hk hJ;refine X1<|X1<|X2 ?_;refine(X7 rfl (fun h5=>Xb ?_) (fun h5=>?_))
 · (try simp only[BN]at h5);have hlt:k<ks.length:=by omega
   obtain⟨⟨eo,en,ek⟩,he,hd⟩:=Xs hlt;have he':=Wd he;simp only[Tm.enc]at he';have hmem:Tm.mk eo en ek∈ks:=List.mem_of_getElem? he;have hnm:=X27 hmem;have c:=ih _ hmem (by omega);have hw1:=XA hlt (by omega);have hk1:k+1≤ks.length:=hlt;rw[hd]at hJ;simp only[X4v]at hJ;generalize tdT (.mk eo en ek)=q at*;clear hlt h5 ih hmem;refine X1<|X4<|X1<|(Xm [⟨true,.v (li (q:Int)),none⟩] ?_ ?_)
   · first|exact c _|exact trivial|simpa[*]using c _
   refine X3 ?_;refine(Xa rfl (fun h8=>?_) fun h8=>?_)
   · (try simp only[BN]at h8);refine X2 ?_;refine X2 ?_;exact⟨(k+1,q),⟨hk1,by simp only;omega⟩,by simp only;omega,X6 (fun n=>n) []⟩
   (try simp only[BN]at h8);refine X2 ?_;exact⟨(k+1,m),⟨hk1,by simp only;omega⟩,by simp only;omega,X6 (fun n=>n) []⟩
 (try simp only[BN]at h5);have hkl:k=ks.length:=by omega
 rw[hkl,List.drop_length]at hJ;simp only[X4v]at hJ;have hm:m=res:=by omega
 subst hm;have hw:IntKind.i64.wrap ((m:Int)+1)=(m:Int)+1:=Xd (by omega) (by omega);refine(Xi ?_);refine X3 ?_;exact Xc
def sdL:List St→Nat
 |[]=>0
 | .mk _ _ _ _ _ a b _::l=>max (max (sdL a+1) (sdL b+1)) (sdL l)
theorem X8I:∀l:List St,sdL l≤Xk l
 |[]=>by simp[sdL]
 | .mk _ _ _ _ t a b _::l=>by have:=X8I a;have:=X8I b;have:=X8I l;have:=X7i t;simp only[sdL,Xk,St.nodes];omega
theorem Xb4 (l:List St):Xk l≤1000000000→∀d:Nat,Con Tryz.prog 93 true [lS l] (.v (li (sdL l))) none d:=by
 revert l
 apply St.lists;intro l ih hn d;have hlen:=Qg l;obtain⟨res,hres⟩:∃r,sdL l=r:=⟨_,rfl⟩;rw[hres];refine X5 Tryz.func93 ?_;simp only[Tryz.f93];refine X3 ?_;refine X3 ?_;refine X1<|X1<|X2 ?_;refine X4<|(Xf [0] (fun(x:Nat×Nat)=>[(3,.v (li ((x.2:Nat):Int))),(4,.v (li x.1))]) (fun x=>[]) (fun x=>x.1≤l.length∧max x.2 (sdL (l.drop x.1))=res) (fun x=>l.length - x.1) (0,0) ⟨Nat.zero_le _,by simp[hres]⟩ ?_ ?_)
 · exact X6 (fun n=>n) []
 rintro⟨k,m⟩ ⟨hk,hJ⟩;simp only[upS,X8,Xw]
 try simp only[X8,KN,Nat.reduceBEq,if_true,if_false,ins,Nat.reduceLT]
 simp only at hk hJ;refine X1<|X1<|X2 ?_;refine(X7 rfl (fun h5=>Xb ?_) (fun h5=>?_))
 · (try simp only[BN]at h5);have hlt:k<l.length:=by omega
   obtain⟨s,he,hd⟩:=Xs hlt;have hmem:s∈l:=List.mem_of_getElem? he;have hnm:=Qj hmem;have iha:=fun h=>(ih s hmem).1 h;have ihb:=fun h=>(ih s hmem).2 h;have hw1:=XA hlt (by omega);have hk1:k+1≤l.length:=hlt;rw[hd]at hJ;obtain⟨sd,sc,sv,sn,⟨so,stn,sks⟩,sa,sb,sbs⟩:=s;simp only[St.then_,St.else_,St.term]at iha ihb hnm;simp only[sdL]at hJ;have ca:=iha (by omega);have cb:=ihb (by omega);have ha:=X8I sa;have hb:=X8I sb;have he':=Q1 he;simp only[St.enc,Tm.enc,List.cons_append,List.nil_append]at he';generalize sdL sa=na at*;generalize sdL sb=nb at*;have hw2:IntKind.i64.wrap ((na:Int)+1)=(na:Int)+1:=Xd (by omega) (by omega);have hw3:IntKind.i64.wrap ((nb:Int)+1)=(nb:Int)+1:=Xd (by omega) (by omega);clear hlt h5 ih hmem iha ihb;refine X1<|X4<|X1<|(Xm [⟨true,.v (li (na:Int)),none⟩] ?_ ?_)
   · first|exact ca _|exact trivial|simpa[*]using ca _
   refine Xj [⟨true,.v (li (nb:Int)),none⟩] ?_ ?_
   · first|exact cb _|exact trivial|simpa[*]using cb _
   refine(XV [0,4,6] (fun(z:Nat)=>[(3,.v (li (z:Int)))]) (fun(z:Nat)=>[]) (fun(z:Nat)=>z=max m (na+1)) ?_ ?_)
   ·
    refine X3 ?_;refine(Xa rfl (fun h10=>?_) fun h10=>?_)
    · (try simp only[BN]at h10);have hz:max m (na+1)=na+1:=by omega
      refine X2 ?_;exact⟨na+1,hz.symm,X6 (fun n=>n) []⟩
    (try simp only[BN]at h10);have hz:max m (na+1)=m:=by omega
    exact⟨m,hz.symm,X6 (fun n=>n) []⟩
   rintro z hz;simp only[upS,X8,Xw]
   try simp only[X8,KN,Nat.reduceBEq,if_true,if_false,ins,Nat.reduceLT]
   refine X3 ?_;refine(Xa rfl (fun h15=>?_) fun h15=>?_)
   · (try simp only[BN]at h15);refine X2 ?_;refine X2 ?_;exact⟨(k+1,nb+1),⟨hk1,by simp only;omega⟩,by simp only;omega,X6 (fun n=>n) []⟩
   (try simp only[BN]at h15);refine X2 ?_;exact⟨(k+1,z),⟨hk1,by simp only;omega⟩,by simp only;omega,X6 (fun n=>n) []⟩
 (try simp only[BN]at h5);have hkl:k=l.length:=by omega
 rw[hkl,List.drop_length]at hJ;simp only[sdL]at hJ;have hm:m=res:=by omega
 refine(Xi ?_);refine X3 ?_;exact Xc
def Wa:List St→Bool
 |[]=>false
 | .mk _ _ _ _ t a b _::l=>((decide (12<tdT t)||Wa a)||Wa b)||Wa l
theorem Xdm (l:List St):Xk l≤1000000000→∀d:Nat,Con Tryz.prog 94 true [lS l] (.v (lb (Wa l))) none d:=by
 revert l
 apply St.lists;intro l ih hn d;have hlen:=Qg l;obtain⟨res,hres⟩:∃r,Wa l=r:=⟨_,rfl⟩;rw[hres];refine X5 Tryz.func94 ?_;simp only[Tryz.f94];refine X3 ?_;refine X1<|X1<|X2 ?_;refine X4<|(Xf [0] (fun(x:Nat)=>[(3,.v (li x))]) (fun x=>[]) (fun x=>x≤l.length∧Wa (l.drop x)=res) (fun x=>l.length - x) (0:Nat) ⟨Nat.zero_le _,hres⟩ ?_ ?_)
 · exact X6 (fun n=>n) []
 rintro k ⟨hk,hJ⟩;simp only[upS,X8,Xw]
 try simp only[X8,KN,Nat.reduceBEq,if_true,if_false,ins,Nat.reduceLT]
 refine X1<|X1<|X2 ?_;refine(X7 rfl (fun h4=>Xb ?_) (fun h4=>?_))
 · (try simp only[BN]at h4);have hlt:k<l.length:=by omega
   obtain⟨s,he,hd⟩:=Xs hlt;have hmem:s∈l:=List.mem_of_getElem? he;have hnm:=Qj hmem;have iha:=fun h=>(ih s hmem).1 h;have ihb:=fun h=>(ih s hmem).2 h;have hw1:=XA hlt (by omega);have hk1:k+1≤l.length:=hlt;have ct:=X62 s.term;rw[hd]at hJ;obtain⟨sd,sc,sv,sn,⟨so,stn,sks⟩,sa,sb,sbs⟩:=s;simp only[St.then_,St.else_,St.term]at iha ihb hnm ct;simp only[Wa]at hJ;have ca:=iha (by omega);have cb:=ihb (by omega);have ct:=ct (by omega);have he':=Q1 he;simp only[St.enc,Tm.enc,List.cons_append,List.nil_append]at he';generalize tdT (.mk so stn sks)=q at*;generalize Wa sa=na at*;generalize Wa sb=nb at*;clear hlt h4 ih hmem iha ihb;refine X1<|X4<|X1<|(Xm [⟨true,.v (li (q:Int)),none⟩,⟨true,.v (lb na),none⟩,⟨true,.v (lb nb),none⟩] ?_ ?_)
   · first|exact⟨ct _,ca _,cb _⟩|exact trivial|(repeat' first|exact trivial|exact ct _|exact ca _|exact cb _|apply And.intro)
   refine(Xa rfl (fun h6=>?_) fun h6=>?_)
   · try simp only[BN]at h6
     have hz:res=true:=by
      rw[←hJ];simp only[Bool.or_eq_true,decide_eq_true_eq];rcases h6 with(h|h)|h
      · exact .inl (.inl (.inl (by omega)))
      · exact .inl (.inl (.inr h))
      exact .inl (.inr h)
     refine X3 ?_;exact Xc
   try simp only[BN]at h6
   have hz:Wa (l.drop (k+1))=res:=by
    rw[←hJ];have h12:decide (12<q)=false:=decide_eq_false (by omega);rw[h12,h6.1.2,h6.2];rfl
   clear hJ;refine X2 ?_;exact⟨k+1,⟨hk1,hz⟩,by omega,X6 (fun n=>n) []⟩
 (try simp only[BN]at h4);have hkl:k=l.length:=by omega
 rw[hkl,List.drop_length]at hJ;simp only[Wa]at hJ;subst hJ;refine(Xi ?_);refine X3 ?_;exact Xc
end Go.Proofs.YtppjennamodfdaaGreat

namespace Go.Proofs.YtppjennamodfdaaGreat
open Go Go.Hl
def mSs:List St→Int→Int×Bool→Int×Bool
 |[],_,s=>s
 | .mk _ _ _ _ t a b _::l,dep,s=>
   if((s.2||decide (12<dep))||decide (1024<s.1+1))=true then(s.1+1,s.2||decide (12<dep))
   else mSs l dep (mSs b (dep+1) (mSs a (dep+1) (mTm t 1 (s.1+1,s.2||decide (12<dep)))))
theorem X07:∀(l:List St) (dep:Int) (s:Int×Bool),s.1≤(mSs l dep s).1∧(mSs l dep s).1≤s.1+Xk l
 |[],dep,s=>by simp[mSs,Xk]
 | .mk d c v n t a b bs::l,dep,s=>by
   simp only[mSs,Xk,St.nodes];have h1:=X10 t 1 (s.1+1,s.2||decide (12<dep));have h2:=X07 a (dep+1) (mTm t 1 (s.1+1,s.2||decide (12<dep)));have h3:=X07 b (dep+1) (mSs a (dep+1) (mTm t 1 (s.1+1,s.2||decide (12<dep))));have h4:=X07 l dep (mSs b (dep+1) (mSs a (dep+1) (mTm t 1 (s.1+1,s.2||decide (12<dep)))));split
   · simp only;omega
   simp only at h1;omega
theorem Xbc (l:List St):∀(dep c:Int) (b:Bool),0≤dep→0≤c→c+Xk l≤1000000000→
  X94 Tryz.prog 161 [iC c,bC b] [lS l,li dep] (.tup []) [iC (mSs l dep (c,b)).1,bC (mSs l dep (c,b)).2]:=by
 revert l
 apply St.lists;intro l ih dep c b hdep hc hn;have hlen:=Qg l;obtain⟨res,hres⟩:∃r,mSs l dep (c,b)=r:=⟨_,rfl⟩;rw[hres];refine X3K Tryz.func161 rfl (by kernel_rfl) (Nat.le_of_ble_eq_true rfl) ?_;simp only[Tryz.f161];refine X3 ?_;refine X4<|(Xf [0,2,8,9] (fun(x:Nat×Int×Bool)=>[(10,.v (li x.1))]) (fun x=>[(1000000,.box [.c (iC x.2.1),.c (bC x.2.2)])]) (fun x=>x.1≤l.length∧mSs (l.drop x.1) dep x.2=res∧0≤x.2.1∧x.2.1+Xk (l.drop x.1)≤1000000000) (fun x=>l.length - x.1) (0,c,b) ⟨Nat.zero_le _,hres,hc,by simpa using hn⟩ ?_ ?_)
 · exact X6 (fun n=>n) []
 rintro⟨k,m,q⟩ ⟨hk,hJ,hm,hb⟩;simp only[upS,X8,Xw]
 try simp only[X8,KN,Nat.reduceBEq,if_true,if_false,ins,Nat.reduceLT]
 simp only at hk hJ hm hb;clear hres;refine X3 ?_;refine X1<|(X7 rfl (fun h3=>Xb ?_) (fun h3=>?_))
 · (try simp only[BN]at h3);have hlt:k<l.length:=by omega
   obtain⟨s,he,hd⟩:=Xs hlt;have hmem:s∈l:=List.mem_of_getElem? he;have iha:=(ih s hmem).1;have ihb:=(ih s hmem).2;have hw1:=XA hlt (by omega);have hk1:k+1≤l.length:=hlt;rw[hd]at hJ hb;obtain⟨sd,sc,sv,sn,⟨so,stn,sks⟩,sa,sb,sbs⟩:=s;simp only[St.then_,St.else_]at iha ihb;simp only[mSs]at hJ;simp only[Xk,St.nodes]at hb;have he':=Q1 he;simp only[St.enc,Tm.enc,List.cons_append,List.nil_append]at he';have hw2:IntKind.i64.wrap (m+1)=m+1:=Xd (by omega) (by omega);clear hlt h3 ih hmem hd he;refine X1<|X4<|X1<|X2 ?_;refine X3 ?_;refine X3 ?_;refine X1<|X1<|(Xm [⟨true,.v (lb ((q||decide (12<dep))||decide (1024<m+1))),none⟩] ?_ ?_)
   · first|exact Z1 _ _ _|exact trivial|simpa[*]using Z1 _ _ _
   refine(Xa rfl (fun h8=>?_) fun h8=>?_)
   · (try simp only[BN]at h8);rw[if_pos (by simpa using h8)]at hJ;subst hJ;exact XF (⟨.inr rfl,_,le_refl _,⟨_,by simp[*];rfl,by simp[XD]⟩,by simp[*]⟩)
   (try simp only[BN]at h8);rw[if_neg (by simpa using h8)]at hJ;have hq0:q=false:=h8.1.1;have hdep2:dep≤12:=by omega
   have hwd:IntKind.i64.wrap (dep+1)=dep+1:=Xd (by omega) (by omega);have hqd:(q||decide (12<dep))=false:=by rw[hq0];simp;omega
   rw[hqd]at hJ;have e1:=X10 (.mk so stn sks) 1 (m+1,false);obtain⟨p1,hp1⟩:∃p,mTm (.mk so stn sks) 1 (m+1,false)=p:=⟨_,rfl⟩;have cio1:=X7p (.mk so stn sks) 1 (m+1) false (by omega) (by omega) (by omega);rw[hp1]at cio1 e1 hJ;obtain⟨c1,b1⟩:=p1;simp only at cio1 e1;have e2:=X07 sa (dep+1) (c1,b1);have cio2:=iha (dep+1) c1 b1 (by omega) (by omega) (by omega);obtain⟨p2,hp2⟩:∃p,mSs sa (dep+1) (c1,b1)=p:=⟨_,rfl⟩;rw[hp2]at cio2 e2 hJ;obtain⟨c2,b2⟩:=p2;simp only at cio2 e2;have e3:=X07 sb (dep+1) (c2,b2);have cio3:=ihb (dep+1) c2 b2 (by omega) (by omega) (by omega);obtain⟨p3,hp3⟩:∃p,mSs sb (dep+1) (c2,b2)=p:=⟨_,rfl⟩;rw[hp3]at cio3 e3 hJ;obtain⟨c3,b3⟩:=p3;simp only at cio3 e3;clear iha ihb hp1 hp2 hp3 h8 hqd;refine X1<|(X0M 3 (.tup []) ([iC c1,bC b1]) rfl (by simp[*];rfl) (by simp[ioOf, *];first|exact⟨rfl,rfl,rfl,rfl,rfl⟩|exact⟨rfl,rfl,rfl,rfl⟩|exact⟨rfl,rfl,rfl⟩|exact⟨rfl,rfl⟩|rfl) (cio1) (by simp) (by simp[*];rfl) ?_);refine X1<|(X0M 5 (.tup []) ([iC c2,bC b2]) rfl (by simp[*];rfl) (by simp[ioOf, *];first|exact⟨rfl,rfl,rfl,rfl,rfl⟩|exact⟨rfl,rfl,rfl,rfl⟩|exact⟨rfl,rfl,rfl⟩|exact⟨rfl,rfl⟩|rfl) (cio2) (by simp) (by simp[*];rfl) ?_);refine(X0M 5 (.tup []) ([iC c3,bC b3]) rfl (by simp[*];rfl) (by simp[ioOf, *];first|exact⟨rfl,rfl,rfl,rfl,rfl⟩|exact⟨rfl,rfl,rfl,rfl⟩|exact⟨rfl,rfl,rfl⟩|exact⟨rfl,rfl⟩|rfl) (cio3) (by simp) (by simp[*];rfl) ?_);refine X2 ?_;exact⟨(k+1,c3,b3),⟨hk1,hJ,by simp only;omega,by simp only;omega⟩,by simp only;omega,X6 (fun n=>n) []⟩
 (try simp only[BN]at h3);have hkl:k=l.length:=by omega
 subst hkl;rw[List.drop_length]at hJ;simp only[mSs]at hJ;subst hJ;refine(Xi ?_);exact(⟨.inl rfl,_,le_refl _,⟨_,by simp[*];rfl,by simp[XD]⟩,by simp[*]⟩)
def W7 (s:Int×Bool):Bool:=s.2||decide (1024<s.1)
theorem X4c {s:Int×Bool} (h:W7 s=false):s.2=false∧s.1≤1024:=by
 simp only[W7,Bool.or_eq_false_iff,decide_eq_false_iff_not]at h;exact⟨h.1,by omega⟩
mutual
theorem mTm_over:∀(t:Tm) (dep:Int) (s:Int×Bool),0≤s.1→W7 s=true→W7 (mTm t dep s)=true
 | .mk o n ks,dep,s,h0,h=>by
   have h1:W7 (s.1+1,s.2||decide (12<dep))=true:=by
    simp only[W7,Bool.or_eq_true,decide_eq_true_eq]at h⊢;rcases h with h|h
    · exact .inl (.inl h)
    exact .inr (by omega)
   simp only[mTm];split
   · exact h1
   exact X44 ks (dep+1) _ (by simp only;omega) h1
theorem X44:∀(l:List Tm) (dep:Int) (s:Int×Bool),0≤s.1→W7 s=true→W7 (X30 l dep s)=true
 |[],dep,s,_,h=>h
 |t::l,dep,s,h0,h=>X44 l dep _ (Int.le_trans h0 (X10 t dep s).1) (mTm_over t dep s h0 h)
end
mutual
theorem X8t:∀(t:Tm) (dep:Int) (s:Int×Bool),0≤s.1→dep≤13→W7 s=false→
  (s.1+t.nodes≤1024∧dep+tdT t≤13→mTm t dep s=(s.1+t.nodes,false))∧(¬(s.1+t.nodes≤1024∧dep+tdT t≤13)→W7 (mTm t dep s)=true)
 | .mk o n ks,dep,s,h0,hd,h=>by
   obtain⟨h1,h2⟩:=X4c h;simp only[mTm,Tm.nodes,tdT,h1,Bool.false_or];by_cases hc:(decide (12<dep)||decide (1024<s.1+1))=true
   · rw[if_pos hc];simp only[Bool.or_eq_true,decide_eq_true_eq]at hc;refine⟨fun hf=>by omega,fun _=>?_⟩;simp only[W7,Bool.or_eq_true,decide_eq_true_eq];omega
   rw[if_neg hc];simp only[Bool.or_eq_true,decide_eq_true_eq,not_or]at hc;have hdd:decide (12<dep)=false:=decide_eq_false hc.1;rw[hdd];have hov:W7 (s.1+1,false)=false:=by simp only[W7,Bool.false_or,decide_eq_false_iff_not];omega
   have:=X9i ks (dep+1) (s.1+1,false) (by simp only;omega) (by omega) hov;simp only at this;refine⟨fun hf=>?_,fun hf=>this.2 (by omega)⟩;rw[this.1 (by omega)];simp only[Prod.mk.injEq,and_true];omega
theorem X9i:∀(l:List Tm) (dep:Int) (s:Int×Bool),0≤s.1→dep≤13→W7 s=false→
  (s.1+Qk l≤1024∧dep+X4v l≤13→X30 l dep s=(s.1+Qk l,false))∧(¬(s.1+Qk l≤1024∧dep+X4v l≤13)→W7 (X30 l dep s)=true)
 | [],dep,s,h0,hd,h=>by
   obtain⟨h1,h2⟩:=X4c h;obtain⟨c,b⟩:=s;simp only at h1 h2;subst h1;simp only[X30,Qk,X4v];refine⟨fun _=>by simp,fun hf=>by omega⟩
 | t ::l,dep,s,h0,hd,h=>by
   simp only[X30,Qk,X4v];have ht:=X8t t dep s h0 hd h;by_cases hf:s.1+t.nodes≤1024∧dep+tdT t≤13
   · rw[ht.1 hf];have hov:W7 (s.1+t.nodes,false)=false:=by simp only[W7,Bool.false_or,decide_eq_false_iff_not];omega
     have hl:=X9i l dep (s.1+t.nodes,false) (by simp only;omega) hd hov;simp only at hl;refine⟨fun h2=>?_,fun h2=>hl.2 (by omega)⟩;rw[hl.1 (by omega)];simp only[Prod.mk.injEq,and_true];omega
   refine⟨fun h2=>by omega,fun _=>X44 l dep _ (Int.le_trans h0 (X10 t dep s).1) (ht.2 hf)⟩
end
theorem X0P:∀(l:List St) (dep:Int) (s:Int×Bool),0≤s.1→W7 s=true→W7 (mSs l dep s)=true
 |[],dep,s,_,h=>by simp only[mSs];exact h
 | .mk d c v n t a b bs::l,dep,s,h0,h=>by
   have h1:W7 (s.1+1,s.2||decide (12<dep))=true:=by
    simp only[W7,Bool.or_eq_true,decide_eq_true_eq]at h⊢;rcases h with h|h
    · exact .inl (.inl h)
    exact .inr (by omega)
   simp only[mSs];split
   · exact h1
   rename_i hc;exact absurd h1 hc
theorem X5h:∀(l:List St) (dep:Int) (s:Int×Bool),0≤s.1→dep≤13→W7 s=false→
  (s.1+Xk l≤1024∧dep+sdL l≤13∧Wa l=false→mSs l dep s=(s.1+Xk l,false))∧(¬(s.1+Xk l≤1024∧dep+sdL l≤13∧Wa l=false)→W7 (mSs l dep s)=true)
 | [],dep,s,h0,hd,h=>by
   obtain⟨h1,h2⟩:=X4c h;obtain⟨c,b⟩:=s;simp only at h1 h2;subst h1;simp only[mSs,Xk,sdL,Wa];refine⟨fun _=>by simp,fun hf=>absurd ⟨by omega,by omega,trivial⟩ hf⟩
 | .mk d c v n t a b bs::l,dep,s,h0,hd,h=>by
   obtain⟨h1,h2⟩:=X4c h;simp only[mSs,Xk,St.nodes,sdL,Wa,h1,Bool.false_or,Bool.or_eq_false_iff,decide_eq_false_iff_not];by_cases hc:(decide (12<dep)||decide (1024<s.1+1))=true
   · rw[if_pos hc];simp only[Bool.or_eq_true,decide_eq_true_eq]at hc;refine⟨fun hf=>by omega,fun _=>?_⟩;simp only[W7,Bool.or_eq_true,decide_eq_true_eq];omega
   rw[if_neg hc];simp only[Bool.or_eq_true,decide_eq_true_eq,not_or]at hc;have hdd:decide (12<dep)=false:=decide_eq_false hc.1;rw[hdd]
   have ov:∀x:Int,x≤1024→W7 (x,false)=false:=by
    intro x hx;simp only[W7,Bool.false_or,decide_eq_false_iff_not];omega
   have ht:=X8t t 1 (s.1+1,false) (by simp only;omega) (by omega) (ov _ (by omega));have g1:=(X10 t 1 (s.1+1,false)).1;have g2:=(X07 a (dep+1) (mTm t 1 (s.1+1,false))).1;have g3:=(X07 b (dep+1) (mSs a (dep+1) (mTm t 1 (s.1+1,false)))).1;simp only at ht g1;by_cases f1:s.1+1+t.nodes≤1024∧1+(tdT t:Int)≤13
   · rw[ht.1 f1];have ha:=X5h a (dep+1) (s.1+1+t.nodes,false) (by simp only;omega) (by omega) (ov _ (by omega));simp only at ha;by_cases f2:s.1+1+t.nodes+Xk a≤1024∧dep+1+sdL a≤13∧Wa a=false
     · rw[ha.1 f2];have hb:=X5h b (dep+1) (s.1+1+t.nodes+Xk a,false) (by simp only;omega) (by omega) (ov _ (by omega));simp only at hb;by_cases f3:s.1+1+t.nodes+Xk a+Xk b≤1024∧dep+1+sdL b≤13∧Wa b=false
       · rw[hb.1 f3];have hl:=X5h l dep (s.1+1+t.nodes+Xk a+Xk b,false) (by simp only;omega) hd (ov _ (by omega));simp only at hl;refine⟨fun hf=>?_,fun hf=>hl.2 fun h4=>hf ⟨by omega,by omega,⟨⟨by omega,f2.2.2⟩,f3.2.2⟩,h4.2.2⟩⟩;rw[hl.1 ⟨by omega,by omega,hf.2.2.2⟩];simp only[Prod.mk.injEq,and_true];omega
       refine⟨fun hf=>absurd ⟨by omega,by omega,hf.2.2.1.2⟩ f3,fun _=>X0P l dep _ ?_ (hb.2 f3)⟩;have:=(X07 b (dep+1) (s.1+1+t.nodes+Xk a,false)).1;simp only at this;omega
     refine⟨fun hf=>absurd ⟨by omega,by omega,hf.2.2.1.1.2⟩ f2,fun _=>?_⟩;have q1:=(X07 a (dep+1) (s.1+1+t.nodes,false)).1;have q2:=(X07 b (dep+1) (mSs a (dep+1) (s.1+1+t.nodes,false))).1;simp only at q1;exact X0P l dep _ (by omega) (X0P b (dep+1) _ (by omega) (ha.2 f2))
   refine⟨fun hf=>absurd ⟨by omega,by omega⟩ f1,fun _=>?_⟩;exact X0P l dep _ (by omega) (X0P b (dep+1) _ (by omega) (X0P a (dep+1) _ (by omega) (ht.2 f1)))
end Go.Proofs.YtppjennamodfdaaGreat

namespace Go.Proofs.YtppjennamodfdaaGreat
open Go Go.Hl
theorem Xbh (f:Fl) (hv:X0g f.vars) (hl:f.vars.length≤1000000) (l:List St):Xk l≤1000000000→QX l=true→∀(top:Bool) (d:Nat),
  Con Tryz.prog 65 true [aF f,lS l,lb top] (.v (li (ssC f.vars f.hats.length l top))) none d:=by
 revert l
 apply St.lists;intro l ih hn hbn top d;have hlen:=Qg l;obtain⟨res,hres⟩:∃r,ssC f.vars f.hats.length l top=r:=⟨_,rfl⟩;rw[hres];have csh:=fun s last hb=>X9o f s last (by omega) hb;obtain⟨vars,hats,body⟩:=f;simp only at hv hl hres ih csh;refine X5 Tryz.func65 ?_;simp only[Tryz.f65];simp only[aF,Fl.enc,List.map_cons,List.map_nil];refine X3 ?_;refine X1<|X1<|X2 ?_;refine X4<|(Xf [1,2,3] (fun(x:Nat)=>[(7,.v (li x))]) (fun x=>[(3,.box [.c (.sl 5 (Xv vars)),.c (.sl 6 (Xu hats)),.c (.sl 10 (X9 body))])]) (fun x=>x≤l.length∧ssC vars hats.length (l.drop x) top=res) (fun x=>l.length - x) (0:Nat) ⟨Nat.zero_le _,hres⟩ ?_ ?_)
 · exact X6 (fun n=>n) []
 rintro k ⟨hk,hJ⟩;simp only[upS,X8,Xw]
 try simp only[X8,KN,Nat.reduceBEq,if_true,if_false,ins,Nat.reduceLT]
 clear hres;refine X1<|X1<|X2 ?_;refine(X7 rfl (fun h4=>Xb ?_) (fun h4=>?_))
 · (try simp only[BN]at h4);have hlt:k<l.length:=by omega
   obtain⟨s,he,hd⟩:=Xs hlt;have hmem:s∈l:=List.mem_of_getElem? he;have hnm:=Qj hmem;have hbm:=X1C hbn hmem;have iha:=fun h h2=>(ih s hmem).1 h h2;have ihb:=fun h h2=>(ih s hmem).2 h h2;have hw1:=XA hlt (by omega);have hw2:IntKind.i64.wrap ((l.length:Int) - 1)=(l.length:Int) - 1:=Xd (by omega) (by omega);have hk1:k+1≤l.length:=hlt;have hla:=X7u hk1;rw[hd]at hJ;have ct:=X6N vars false hv (by omega) s.term;have csh1:=csh s (top&&decide ((k:Int)=(l.length:Int) - 1));obtain⟨sd,sc,sv,sn,⟨so,stn,sks⟩,sa,sb,sbs⟩:=s;simp only[St.then_,St.else_,St.term,St.bounds,St.do_,St.var,St.n,St.cost]at iha ihb hnm ct csh1;simp only[X0o,Bool.and_eq_true,decide_eq_true_eq]at hbm;simp only[ssC,hla]at hJ;have ca:=iha (by omega) hbm.2.1;have cb:=ihb (by omega) hbm.2.2;have ct:=ct (by omega);have csh1:=csh1 hbm.1;have hbl:=hbm.1;have he':=Q1 he;simp only[St.enc,Tm.enc,List.cons_append,List.nil_append]at he';simp only[aF,Fl.enc,aS,St.enc,Tm.enc,List.map_cons,List.map_nil,List.cons_append,List.nil_append]at csh1 ca cb;have hshb:=@X7s vars hats.length sd sv sn (.mk so stn sks) sa.length sb.length sbs (top&&decide ((k:Int)=(l.length:Int) - 1));obtain⟨SH,hSH⟩:∃x,shB vars hats.length sd sv sn (.mk so stn sks) sa.length sb.length sbs (top&&decide ((k:Int)=(l.length:Int) - 1))=x:=⟨_,rfl⟩;obtain⟨NU,hNU⟩:∃x,X1D sd sc sn sbs=x:=⟨_,rfl⟩;obtain⟨TC,hTC⟩:∃x,X0v vars false (.mk so stn sks)=x:=⟨_,rfl⟩;obtain⟨SC,hSC⟩:∃x,stC vars hats.length sd sc sv sn (.mk so stn sks) sa.length sb.length sbs (top&&decide ((k:Int)=(l.length:Int) - 1))=x:=⟨_,rfl⟩;rw[hSC]at hJ;unfold stC at hSC;rw[hSH]at csh1 hshb hSC;rw[hNU]at hSC;rw[hTC]at ct hSC;have ca:=fun d=>ca false d;have cb:=fun d=>cb false d;obtain⟨SA,hSA⟩:∃x,ssC vars hats.length sa false=x:=⟨_,rfl⟩;obtain⟨SB,hSB⟩:∃x,ssC vars hats.length sb false=x:=⟨_,rfl⟩;rw[hSA]at ca hJ;rw[hSB]at cb hJ;clear hlt h4 iha ihb ih hmem hnm hd he hbm hSH hTC hSA hSB csh hla;refine X1<|X4<|X1<|X2 ?_;refine X1<|X1<|(Xm [⟨true,.v (lb SH),none⟩] ?_ ?_)
   · first|exact csh1 _|exact trivial|simpa[*]using csh1 _
   refine(Xa rfl (fun h7=>?_) fun h7=>?_)
   · (try simp only[BN]at h7);rw[if_pos h7]at hSC;subst hSC;rw[if_neg (by decide)]at hJ;subst hJ;refine X3 ?_;exact Xc
   (try simp only[BN]at h7);rw[if_neg (by simp[h7])]at hSC;obtain⟨hs6,hs5,hs4⟩:=hshb h7;clear hshb csh1;refine X3 ?_;refine(XV [1,2,3,7,8] (fun(z:Int)=>[(9,.v (li z))]) (fun(z:Int)=>[(3,.box [.c (.sl 5 (Xv vars)),.c (.sl 6 (Xu hats)),.c (.sl 10 (X9 body))]),(8,.box [.c (iC sd),.c (iC sc),.c (iC sv),.c (iC sn),.c (iC so),.c (iC stn),.c (.sl 3 (Xo sks)),.c (.sl 10 (X9 sa)),.c (.sl 10 (X9 sb)),.c (.sl 1 (Xe sbs))])]) (fun(z:Int)=>z=X3j sd) ?_ ?_)
   ·
    refine X3 ?_;refine(Xa rfl (fun h13=>?_) fun h13=>?_)
    · (try simp only[BN]at h13);refine X2 ?_;exact⟨67108864,by simp[X3j,h13],X6 (fun n=>n) []⟩
    (try simp only[BN]at h13);exact⟨10000,by simp[X3j,h13],X6 (fun n=>n) []⟩
   rintro M hM;simp only[upS,X8,Xw]
   try simp only[X8,KN,Nat.reduceBEq,if_true,if_false,ins,Nat.reduceLT]
   refine X1<|X1<|X2 ?_;refine(Xa rfl (fun h18=>?_) fun h18=>?_)
   · try simp only[BN]at h18
     have hz:NU=false:=by
      rw[←hNU];unfold X1D;rw[←hM];simp only[Bool.and_eq_false_iff,Bool.or_eq_true,Bool.and_eq_true,Bool.not_eq_false',decide_eq_true_eq];by_cases hn0:sn<0
      · have:=hs4 hn0;omega
      omega
     rw[if_pos hz]at hSC;subst hSC;rw[if_neg (by decide)]at hJ;subst hJ;refine X3 ?_;exact Xc
   try simp only[BN]at h18
   have hz:NU=(decide (sd≠6)||X43 sbs):=by
    rw[←hNU];unfold X1D;rw[←hM]
    rw[show(!(decide (sc<0)||decide (M<sc)||(decide (sd=4)&&(decide (sn<0)||decide (4096<sn)))))=true by
     simp only[Bool.or_eq_false_iff,Bool.and_eq_false_iff,Bool.not_eq_true',decide_eq_false_iff_not]
     omega]
    rfl
   clear h18 hNU hM hs4;rcases Xb3 sbs with h0|⟨b0,hb0⟩
   · subst h0;have hd6:sd≠6:=fun h=>hs6 h rfl;have hw3:IntKind.i64.wrap (-1)=-1:=by decide
     have hz2:NU=true:=by rw[hz];simp[hd6]
     rw[if_neg (by simp[hz2])]at hSC;clear hs6 hs5 hz;refine X1<|X1<|X2 ?_;refine(Xa rfl (fun h22=>?_) fun h22=>?_)
     · exact absurd h22 (by simp)
     (try simp only[BN]at h22);subst hSC;refine Xj [⟨true,.v (li TC),none⟩] ?_ ?_
     · first|exact ct _|exact trivial|simpa[*]using ct _
     refine X1<|X1<|X2 ?_;refine(Xa rfl (fun h27=>?_) fun h27=>?_)
     · (try simp only[BN]at h27);rw[if_neg h27]at hJ;subst hJ;refine X3 ?_;exact Xc
     (try simp only[BN]at h27);rw[if_pos (by simpa using h27)]at hJ;refine Xj [⟨true,.v (li SA),none⟩] ?_ ?_
     · first|exact ca _|exact trivial|simpa[*]using ca _
     refine X1<|X1<|X2 ?_;refine(Xa rfl (fun h32=>?_) fun h32=>?_)
     · (try simp only[BN]at h32);rw[if_neg h32]at hJ;subst hJ;refine X3 ?_;exact Xc
     (try simp only[BN]at h32);rw[if_pos (by simpa using h32)]at hJ;refine Xj [⟨true,.v (li SB),none⟩] ?_ ?_
     · first|exact cb _|exact trivial|simpa[*]using cb _
     refine X3 ?_;refine(Xa rfl (fun h37=>?_) fun h37=>?_)
     · (try simp only[BN]at h37);rw[if_neg h37]at hJ;subst hJ;refine X3 ?_;exact Xc
     (try simp only[BN]at h37);rw[if_pos (by simpa using h37)]at hJ;refine X2 ?_;exact⟨k+1,⟨hk1,hJ⟩,by omega,X6 (fun n=>n) []⟩
   have hpos:1≤sbs.length:=(List.getElem?_eq_some_iff.1 hb0).1;obtain⟨x,hx⟩:=X4Z (show sbs.length - 1<sbs.length by omega);have hd6:sd=6:=Classical.byContradiction fun h=>by rw[hs5 h]at hpos;simp at hpos
   have hw3:IntKind.i64.wrap ((sbs.length:Int) - 1)=(sbs.length:Int) - 1:=Xd (by omega) (by omega);have hw4:0≤(sbs.length:Int) - 1:=by omega
   have hw5:((sbs.length:Int) - 1).toNat=sbs.length - 1:=by omega
   have hw6:1≤(sbs.length:Int):=by omega
   have hw7:decide (0<(sbs.length:Int))=true:=decide_eq_true (by omega);have hz2:NU=decide (x≤67108864):=by rw[hz];unfold X43;rw[hx,hd6];simp
   have hne:sbs≠[]:=by intro h;rw[h]at hpos;simp at hpos
   clear hs6 hs5 hz hb0 hpos;refine X1<|X1<|X2 ?_;refine(Xa rfl (fun h22=>?_) fun h22=>?_)
   · try simp only[BN]at h22
     have hx2:67108864<x:=by
      omega
     rw[if_pos (by rw[hz2];exact decide_eq_false (by omega))]at hSC;subst hSC;rw[if_neg (by decide)]at hJ;subst hJ;refine X3 ?_;exact Xc
   try simp only[BN]at h22
   have hx2:x≤67108864:=by
    first
     |omega
     | (rcases h22 with h|h
        · exact absurd h (by simp[hne])
        omega)
   rw[if_neg (by rw[hz2,decide_eq_true hx2];decide)]at hSC;subst hSC;refine Xj [⟨true,.v (li TC),none⟩] ?_ ?_
   · first|exact ct _|exact trivial|simpa[*]using ct _
   refine X1<|X1<|X2 ?_;refine(Xa rfl (fun h27=>?_) fun h27=>?_)
   · (try simp only[BN]at h27);rw[if_neg h27]at hJ;subst hJ;refine X3 ?_;exact Xc
   (try simp only[BN]at h27);rw[if_pos (by simpa using h27)]at hJ;refine Xj [⟨true,.v (li SA),none⟩] ?_ ?_
   · first|exact ca _|exact trivial|simpa[*]using ca _
   refine X1<|X1<|X2 ?_;refine(Xa rfl (fun h32=>?_) fun h32=>?_)
   · (try simp only[BN]at h32);rw[if_neg h32]at hJ;subst hJ;refine X3 ?_;exact Xc
   (try simp only[BN]at h32);rw[if_pos (by simpa using h32)]at hJ;refine Xj [⟨true,.v (li SB),none⟩] ?_ ?_
   · first|exact cb _|exact trivial|simpa[*]using cb _
   refine X3 ?_;refine(Xa rfl (fun h37=>?_) fun h37=>?_)
   · (try simp only[BN]at h37);rw[if_neg h37]at hJ;subst hJ;refine X3 ?_;exact Xc
   (try simp only[BN]at h37);rw[if_pos (by simpa using h37)]at hJ;refine X2 ?_;exact⟨k+1,⟨hk1,hJ⟩,by omega,X6 (fun n=>n) []⟩
 (try simp only[BN]at h4);have hkl:k=l.length:=by omega
 rw[hkl,List.drop_length]at hJ;simp only[ssC]at hJ;subst hJ;refine(Xi ?_);refine X3 ?_;exact Xc
end Go.Proofs.YtppjennamodfdaaGreat

namespace Go.Proofs.YtppjennamodfdaaGreat
open Go Go.Hl Go.RowKit
inductive CWk:CV→CV→Prop where
 |refl (x:CV):CWk x x
 |nil (s:Nat):CWk (.c (.lit XP)) (.c (.sl s []))
inductive LWk:List CV→List CV→Prop where
 |nil:LWk [] []
 |cons {x y:CV} {l m:List CV}:CWk x y→LWk l m→LWk (x::l) (y::m)
theorem CWk.rel {F:Nat→Prop} {γ:Nat→Value} {w:World} {x y:CV} (h:CWk x y) {v:Value} (hr:Xp F γ w x v):Xp F γ w y v:=by
 cases h with
 |refl=>exact hr
 | nil s=>
   have:v=XP:=Xg.lit_eq (γ:=γ) (F:=F) (w:=w) (r:=.v (.one (.c (.lit XP)))) rfl hr;rw[this];exact CRel.nil s
theorem LWk.len {l m:List CV} (h:LWk l m):m.length=l.length:=by
 induction h with
 |nil=>rfl
 |cons _ _ ih=>simp[ih]
theorem LWk.get {l m:List CV} (h:LWk l m):∀(j:Nat) y,m[j]? =some y→∃x,l[j]? =some x∧CWk x y:=by
 induction h with
 |nil=>simp
 | cons hc _ ih=>
   intro j y hj;cases j with
   |zero=>cases hj;exact⟨_,rfl,hc⟩
   |succ j=>exact ih j y hj
theorem LWk.rel {F:Nat→Prop} {γ:Nat→Value} {w:World} {l m:List CV} (h:LWk l m) {vs:Array Value} (hr:Xn F γ w l vs):Xn F γ w m vs:=by
 refine⟨hr.1.trans h.len.symm,fun j y u hy hu=>?_⟩;obtain⟨x,hx,hc⟩:=h.get j y hy;exact hc.rel (hr.2 j x u hx hu)
theorem Xar {s:HS} (k:Nat) {r r':RV} (hl:lkp s.regs k=some r) (hw:∀(F:Nat→Prop) (γ:Nat→Value) (w:World) v,Xg F γ w r v→Xg F γ w r' v):le s {s with regs:=ins k r' s.regs}:=by
 intro w0 B π F γ a w hr;refine⟨F,γ,fun _ h=>h,fun _ h=>.inl h,hr.heap,hr.defers,hr.nt,fun j x hj=>?_⟩;rw[XQ]at hj;split at hj
 · rename_i e;cases hj;subst e;exact hw _ _ _ _ (hr.regs j r hl)
 exact hr.regs j x hj
theorem X21 {s:HS} (k:Nat) {xs:List CV} (ys:List CV) (hl:lkp s.regs k=some (.v (.agg xs))) (h:LWk xs ys):le s {s with regs:=ins k (.v (.agg ys)) s.regs}:=by
 refine Xar k hl fun F γ w v hv=>?_;obtain⟨vs,rfl,hc⟩:=hv;exact⟨vs,rfl,h.rel hc⟩
theorem X5w {s:HS} (k sz:Nat) (hl:lkp s.regs k=some (.v (.one (.c (.lit XP))))):le s {s with regs:=ins k (.v (.one (.c (.sl sz [])))) s.regs}:=
 Xar k hl fun F γ w v hv=>CWk.rel (γ:=γ) (CWk.nil sz) hv
theorem Xax {s:HS} (k sz:Nat) {a:Addr} {cap:Nat} (hl:lkp s.regs k=some (.v (.one (.c (.lit (.slice (some a) 0 cap)))))):le s {s with regs:=ins k (.v (.one (.c (.sl sz [])))) s.regs}:=by
 refine Xar k hl fun F γ w v hv=>?_;have:v=.slice (some a) 0 cap:=Xg.lit_eq rfl hv;rw[this];exact CRel.emp sz a cap
theorem Xb6 {s:HS} (n:Nat) {xs:List CV} (ys:List CV) (hl:lkp s.objs n=some (.box xs)) (h:LWk xs ys):le s {s with objs:=ins n (.box ys) s.objs}:=by
 intro w0 B π F γ a w hr
 have hlk:∀m o,lkp (ins n (.box ys) s.objs) m=some o→(m=n∧o=.box ys)∨(m≠n∧lkp s.objs m=some o):=by
  intro m o hm;rw[XQ]at hm;split at hm
  · rename_i e;cases hm;exact .inl ⟨e,rfl⟩
  rename_i e;exact .inr ⟨e,hm⟩
 have hex:∀m o,lkp (ins n (.box ys) s.objs) m=some o→∃o',lkp s.objs m=some o':=by
  intro m o hm;rcases hlk m o hm with⟨rfl,_⟩|⟨_,h2⟩
  · exact⟨_,hl⟩
  exact⟨_,h2⟩
 refine⟨F,γ,fun _ h=>h,fun _ h=>.inl h,⟨hr.heap.below,hr.heap.hB,hr.heap.fsz,fun m o hm=>?_,fun m o hm=>?_,fun m k om ok hm hk hne=>?_,hr.heap.pin⟩,hr.defers,hr.nt,hr.regs⟩
 · rcases hlk m o hm with⟨rfl,rfl⟩|⟨_,h2⟩
   · obtain⟨b,e,vs,hx,hB,hh,hc⟩:=hr.heap.ob m _ hl;exact⟨b,e,vs,hx,hB,hh,h.rel hc⟩
   exact hr.heap.ob m o h2
 · obtain⟨o',ho'⟩:=hex m o hm;exact hr.heap.apart m o' ho'
 obtain⟨o1,h1⟩:=hex m om hm;obtain⟨o2,h2⟩:=hex k ok hk;exact hr.heap.sep m k o1 o2 h1 h2 hne
theorem X33 {s:HS} (t n d:Nat) {e:TypeId} {sz:Nat} {rows:List (List CD)} (hl:opd s.regs (.tmp t)=.v (.one (.own n))) (ho:lkp s.objs n=some (.row e sz rows)) (hd:d<1000000):
  le s ⟨s.nt,[(t,.v (.one (.own d)))],[(d,.row e sz rows)]⟩:=by
 have hp:X0G (fun _=>n) d=n:=by unfold X0G;rw[if_neg (by omega)]
 refine Xx (fun _=>n) [] rfl ?_ ?_ ?_
 · refine⟨⟨rfl,?_⟩,trivial⟩;rw[hl];simp only[RV.ren,TV.ren,CV.ren,hp,List.contains_nil,Bool.false_eq_true,if_false]
 · simp only[Z3,List.contains_nil,Bool.false_eq_true,if_false,Ob.okNil,hp,ho,Ob.ren,and_self]
 simp only[Z3,true_or,and_self]
theorem le_nameN {s:HS} (t d:Nat) (e:TypeId) (sz:Nat) (hl:opd s.regs (.tmp t)=.v (.one (.c (.lit XP)))) (hs:0<sz) (hd:d<1000000):
  le s ⟨s.nt,[(t,.v (.one (.own d)))],[(d,.row e sz [])]⟩:=by
 refine Xx (fun n=>n) [d] rfl ?_ ?_ ?_ (by simpa using hd)
 · refine⟨⟨by simp[RV.okNil,TV.okNil,CV.okNil],?_⟩,trivial⟩;rw[hl];simp[RV.ren,TV.ren,CV.ren]
 · simp[Z3,hs]
 simp[Z3]
theorem X81 {P:Program} {f:FuncId} {fresh:Bool} {r:RV} {ob:Option Ob} {d s:Nat} (h1:Con P f fresh [.one (.c (.lit XP))] r ob d) (h2:∀a cap,Con P f fresh [.one (.c (.lit (.slice (some a) 0 cap)))] r ob d):Con P f fresh [.one (.c (.sl s []))] r ob d:=by
 refine⟨h1.1,fun F w vs hF hsz hargs=>?_⟩;have hv:∃u,vs[0]? =some u:=⟨vs[0]'(by rw[hsz];simp),by simp[hsz]⟩;obtain⟨u,hu⟩:=hv;have hr:CRel F w (.sl s []) u:=hargs 0 _ u rfl hu
 have go:∀(v:Value),u=v→Con P f fresh [.one (.c (.lit v))] r ob d→_:=fun v hv hc=>hc.2 F w vs hF (by simpa using hsz) fun j t u' ht hu'=>by
  cases j with
  | zero=>
    cases ht;rw[hu]at hu';cases hu';subst hv;exact CRel.lit u
  |succ j=>cases ht
 rcases CRel.sl_inv hr with⟨_,hv|⟨a,cap,hv⟩⟩|⟨b,o,cap,cells,hv,_⟩
 · exact go _ hv h1
 · exact go _ hv (h2 a cap)
 exact go _ hv (h2 _ cap)
end Go.Proofs.YtppjennamodfdaaGreat
