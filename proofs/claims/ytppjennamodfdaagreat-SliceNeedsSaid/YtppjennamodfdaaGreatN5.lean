/- Part 5: contracts of functions of the program and of the reference, and plain facts about what they compute; used by the proof of the claimed statement. Conditions: as each theorem states. -/
import Derived.Test.YtppjennamodfdaaGreatProg
import Derived.Test.YtppjennamodfdaaGreatNHmZ
import Derived.KernelRfl
import Derived.Test.YtppjennamodfdaaGreatN1
import Derived.Test.YtppjennamodfdaaGreatN2
import Derived.Test.YtppjennamodfdaaGreatN4
import Derived.Test.YtppjennamodfdaaGreatN3
set_option linter.unusedSimpArgs false
set_option linter.unusedVariables false
set_option linter.unnecessarySimpa false
set_option maxRecDepth 100000
set_option maxHeartbeats 2000000
namespace Go.Proofs.YtppjennamodfdaaGreat
open Go Go.Hl
def badP (UV UN UT P LO:Bool) (d v n:Int) (la lc nb nh:Nat):Prop:=
 d<0∨6<d∨(UV=false∧v≠0)∨(UN=false∧n≠0)∨(UT=false∧P=false)∨((d≠3∧d≠4)∧0<la)∨(d≠3∧0<lc)∨(d≠6∧0<nb)∨(UV=true∧LO=false)∨(d=5∧(n<0∨nh≤n))
instance (UV UN UT P LO:Bool) (d v n:Int) (la lc nb nh:Nat):Decidable (badP UV UN UT P LO d v n la lc nb nh):=by unfold badP;exact inferInstance
theorem sh_bad {vars:List Vr} {nh:Nat} {d v n:Int} {t:Tm} {la lc:Nat} {bs:List Int} {last:Bool} (h:badP (uVB d) (uNB d) (uTB d) (Z4 t) (QV vars v) d v n la lc bs.length nh):shB vars nh d v n t la lc bs last=false:=by
 unfold shB;generalize Z4 t=P at*;generalize QV vars v=LO at*
 have hr:ZF bs=true→1≤bs.length:=by
  intro h;unfold ZF at h;simp only[Bool.and_eq_true,decide_eq_true_eq]at h;omega
 generalize ZF bs=R at*;generalize bs.length=nb at*;unfold badP uVB uNB uTB at h
 (repeat' split)<;>(simp only[Bool.and_eq_false_iff,Bool.or_eq_false_iff,Bool.or_eq_true,decide_eq_true_eq,decide_eq_false_iff_not]at h⊢)<;>cases P<;>cases LO<;>cases last<;>cases R<;>simp at h hr⊢ <;>omega
theorem sh_good {vars:List Vr} {nh:Nat} {d v n:Int} {t:Tm} {la lc:Nat} {bs:List Int} {last:Bool} (h:¬badP (uVB d) (uNB d) (uTB d) (Z4 t) (QV vars v) d v n la lc bs.length nh):shB vars nh d v n t la lc bs last=(decide (d≠6)||(last&&ZF bs)):=by
 unfold shB;generalize Z4 t=P at*;generalize QV vars v=LO at*;generalize ZF bs=R at*;generalize bs.length=nb at*;unfold badP uVB uNB uTB at h;rw[Bool.eq_iff_iff]
 (repeat' split)<;>(simp only[not_or,not_and,Bool.or_eq_false_iff,Bool.or_eq_true,Bool.and_eq_true,decide_eq_true_eq,decide_eq_false_iff_not]at h⊢)<;>cases P<;>cases LO<;>cases last<;>cases R<;>simp at h⊢ <;>omega
end Go.Proofs.YtppjennamodfdaaGreat

namespace Go.Proofs.YtppjennamodfdaaGreat
open Go Go.Hl
def X3u (d:Int):Int:=if d=2 then 67108864 else 10000
def X3Z (bs:List Int):Bool:=
 match bs[bs.length - 1]? with
 |some x=>decide (x≤67108864)
 |none=>true
def X2L (d c n:Int) (bs:List Int):Bool:=
 (!(decide (c<0)||decide (X3u d<c)||(decide (d=4)&&(decide (n<0)||decide (4096<n)))))&&(decide (d≠6)||X3Z bs)
theorem numP_con (s:St) (hb:s.bounds.length≤1000000000) (h6:s.do_=6→s.bounds≠[]) (h5:s.do_≠6→s.bounds=[]) (e:Nat):
  Con Tryz.prog 182 true [aS s] (.v (lb (X2L s.do_ s.cost s.n s.bounds))) none e:=by
 obtain⟨d,c,v,n,⟨o,tn,ks⟩,a,b,bs⟩:=s;simp only[St.do_,St.cost,St.n,St.bounds]at hb h6 h5⊢;refine X7 Tryz.func182 ?_;simp only[Tryz.f182];simp only[aS,St.enc,Tm.enc,List.map_cons,List.map_nil,List.cons_append,List.nil_append];refine X4 ?_;refine X4 ?_;refine(XO [1] (fun(z:Int)=>[(3,.v (li z))]) (fun(z:Int)=>[(1,.box [.c (iC d),.c (iC c),.c (iC v),.c (iC n),.c (iC o),.c (iC tn),.c (.sl 3 (Xo ks)),.c (.sl 10 (Xa a)),.c (.sl 10 (Xa b)),.c (.sl 1 (Xj bs))])]) (fun(z:Int)=>z=X3u d) ?_ ?_)
 ·
  refine X4 ?_;refine(Xe rfl (fun h4=>?_) fun h4=>?_)
  · (try simp only[BN]at h4);refine X3 ?_;exact⟨67108864,by simp[X3u,h4],X6 (fun n=>n) []⟩
  (try simp only[BN]at h4);exact⟨10000,by simp[X3u,h4],X6 (fun n=>n) []⟩
 rintro M hM;simp only[upS,X8,Xy]
 try simp only[X8,KN,Nat.reduceBEq,if_true,if_false,ins,Nat.reduceLT]
 refine X0<|X0<|X3 ?_;refine(Xe rfl (fun h9=>?_) fun h9=>?_)
 · try simp only[BN]at h9
   have hz:X2L d c n bs=false:=by
    unfold X2L;rw[←hM];simp only[Bool.and_eq_false_iff,Bool.or_eq_true,Bool.and_eq_true,Bool.not_eq_false',decide_eq_true_eq];omega
   refine X4 ?_;exact Xh
 try simp only[BN]at h9
 have hz:X2L d c n bs=(decide (d≠6)||X3Z bs):=by
  unfold X2L;rw[←hM]
  rw[show(!(decide (c<0)||decide (M<c)||(decide (d=4)&&(decide (n<0)||decide (4096<n)))))=true by
   simp only[Bool.or_eq_false_iff,Bool.and_eq_false_iff,Bool.not_eq_true',decide_eq_false_iff_not]
   omega]
  rfl
 clear h9;by_cases hd6:d=6
 · have hne:=h6 hd6
   have hpos:1≤bs.length:=by
    cases bs with
    |nil=>exact absurd rfl hne
    |cons x l=>simp
   obtain⟨x,hx⟩:=X71 (show bs.length - 1<bs.length by omega);have hw1:IntKind.i64.wrap ((bs.length:Int) - 1)=(bs.length:Int) - 1:=Xc (by omega) (by omega);have hw2:0≤(bs.length:Int) - 1:=by omega
   have hw3:((bs.length:Int) - 1).toNat=bs.length - 1:=by omega
   have hw4:1≤(bs.length:Int):=by omega
   have hlo:X3Z bs=decide (x≤67108864):=by unfold X3Z;rw[hx]
   clear h6 h5 hne hpos;refine X4 ?_;exact Xh
 have hbs:=h5 hd6;subst hbs;have hw1:IntKind.i64.wrap (-1)=-1:=by decide
 clear h6 h5;refine X4 ?_;exact Xh
theorem X9n (f:Fl) (s:St) (last:Bool) (hv:f.vars.length≤1000000000) (hb:s.bounds.length≤1000000000) (e:Nat):
  Con Tryz.prog 181 true [aF f,aS s,lb last] (.v (lb (shB f.vars f.hats.length s.do_ s.var s.n s.term s.then_.length s.else_.length s.bounds last))) none e:=by
 obtain⟨vars,hats,body⟩:=f;obtain⟨d,c,v,n,t,a,b,bs⟩:=s;simp only[St.do_,St.var,St.n,St.term,St.then_,St.else_,St.bounds]at hb⊢;simp only at hv;have c1:=XaC t;have c2:=X9z bs hb;have c3:=uV_con d;have c4:=uN_con d;have c5:=uT_con d;have hgood:=@sh_good vars hats.length d v n t a.length b.length bs last;have hbad:=@sh_bad vars hats.length d v n t a.length b.length bs last;have hrise:ZF bs=((decide (1≤bs.length)&&(decide (bs.length≤32)&&X4D bs))&&X3Q bs):=rfl;rw[hrise]at hgood;clear hrise;generalize shB vars hats.length d v n t a.length b.length bs last=SH at*;generalize uVB d=UV at*;generalize uNB d=UN at*;generalize uTB d=UT at*;generalize Z4 t=P at*;generalize X3Q bs=R at*;obtain⟨LO,hLO⟩:∃p,QV vars v=p:=⟨_,rfl⟩;rw[hLO]at hgood hbad;obtain⟨o,tn,ks⟩:=t;obtain⟨la,hla⟩:∃k,a.length=k:=⟨_,rfl⟩;obtain⟨lc,hlc⟩:∃k,b.length=k:=⟨_,rfl⟩;obtain⟨nb,hnb⟩:∃k,bs.length=k:=⟨_,rfl⟩;obtain⟨nv,hnv⟩:∃k,vars.length=k:=⟨_,rfl⟩;obtain⟨nh,hnh⟩:∃k,hats.length=k:=⟨_,rfl⟩;rw[hla,hlc,hnb,hnh]at hgood hbad;simp only[aT,Tm.enc,List.map_cons,List.map_nil]at c1;refine X7 Tryz.func181 ?_;simp only[Tryz.f181];simp only[aF,aS,Fl.enc,St.enc,Tm.enc,List.map_cons,List.map_nil,List.cons_append,List.nil_append];refine X4 ?_;refine X4 ?_;refine(XO [2,4,7] (fun(z:Unit)=>[]) (fun(z:Unit)=>[(4,.box [.c (iC d),.c (iC c),.c (iC v),.c (iC n),.c (iC o),.c (iC tn),.c (.sl 3 (Xo ks)),.c (.sl 10 (Xa a)),.c (.sl 10 (Xa b)),.c (.sl 1 (Xj bs))])]) (fun(z:Unit)=>SH=(decide (d≠6)||(last&&((decide (0<nb)&&(decide (nb≤32)&&X4D bs))&&R)))) ?_ ?_)
 ·
  refine X5<|(XO [2,4,7] (fun(z:Bool)=>[(10,.v (lb z))]) (fun(z:Bool)=>[(4,.box [.c (iC d),.c (iC c),.c (iC v),.c (iC n),.c (iC o),.c (iC tn),.c (.sl 3 (Xo ks)),.c (.sl 10 (Xa a)),.c (.sl 10 (Xa b)),.c (.sl 1 (Xj bs))])]) (fun(z:Bool)=>z=decide (badP UV UN UT P LO d v n la lc nb nh)) ?_ ?_)
  ·
   refine X4 ?_;refine(X9 rfl (fun h5=>Xb ?_) (fun h5=>?_))
   · (try simp only[BN]at h5);exact⟨true,(decide_eq_true (h5.elim .inl (fun h=>.inr (.inl h)))).symm,X6 (fun n=>n) []⟩
   (try simp only[BN]at h5);refine Xk [⟨true,.v (lb UV),none⟩] ?_ ?_
   · first|exact c3 _|exact trivial|simpa[*]using c3 _
   refine(X9 rfl (fun h8=>Xb ?_) (fun h8=>?_))
   · (try simp only[BN]at h8);exact⟨true,(decide_eq_true (.inr (.inr (.inl h8)))).symm,X6 (fun n=>n) []⟩
   (try simp only[BN]at h8);refine Xk [⟨true,.v (lb UN),none⟩] ?_ ?_
   · first|exact c4 _|exact trivial|simpa[*]using c4 _
   refine(X9 rfl (fun h11=>Xb ?_) (fun h11=>?_))
   · (try simp only[BN]at h11);exact⟨true,(decide_eq_true (.inr (.inr (.inr (.inl h11))))).symm,X6 (fun n=>n) []⟩
   (try simp only[BN]at h11);refine XO [2,3,4,7] (fun(z:Bool)=>[(10,.v (lb z))]) (fun(z:Bool)=>[(3,.box [.c (.sl 5 (Xs vars)),.c (.sl 6 (Xt hats)),.c (.sl 10 (Xa body))]),(4,.box [.c (iC d),.c (iC c),.c (iC v),.c (iC n),.c (iC o),.c (iC tn),.c (.sl 3 (Xo ks)),.c (.sl 10 (Xa a)),.c (.sl 10 (Xa b)),.c (.sl 1 (Xj bs))])]) (fun(z:Bool)=>z=(!UT&& !P)) ?_ ?_
   · rcases(show UT=false∨UT=true by cases UT<;>simp)with hUT|hUT
     · refine QR [⟨true,.v (lb false),none⟩,⟨true,.v (lb P),none⟩] (by simp[*];first|exact⟨rfl,Iff.rfl⟩|exact⟨rfl,trivial⟩|rfl) ?_ ?_
       · (repeat' first|exact trivial|(simpa[hUT]using c5 _)|exact c1 _|apply And.intro)
       exact⟨!P,by simp[hUT],X6 (fun n=>n) []⟩
     refine Zl [some ⟨true,.v (lb true),none⟩,none] (by simp[*];first|exact⟨rfl,Iff.rfl⟩|exact⟨rfl,trivial⟩|rfl) ?_ ?_
     · first|exact trivial|(simpa[hUT]using c5 _)
     exact⟨false,by simp[hUT],X6 (fun n=>n) []⟩
   rintro LUT hLUT;simp only[upS,X8,Xy]
   try simp only[X8,KN,Nat.reduceBEq,if_true,if_false,ins,Nat.reduceLT]
   refine(X9 rfl (fun h14=>Xb ?_) (fun h14=>?_))
   · (try simp only[BN]at h14);rw[hLUT,Bool.and_eq_true,Bool.not_eq_true',Bool.not_eq_true']at h14;exact⟨true,(decide_eq_true (.inr (.inr (.inr (.inr (.inl h14)))))).symm,X6 (fun n=>n) []⟩
   (try simp only[BN]at h14);refine X4 ?_;refine(X9 rfl (fun h17=>Xb ?_) (fun h17=>?_))
   · (try simp only[BN]at h17);exact⟨true,(decide_eq_true (.inr (.inr (.inr (.inr (.inr (.inl ⟨h17.1,by omega⟩))))))).symm,X6 (fun n=>n) []⟩
   (try simp only[BN]at h17);refine X4 ?_;refine(X9 rfl (fun h20=>Xb ?_) (fun h20=>?_))
   · (try simp only[BN]at h20);exact⟨true,(decide_eq_true (.inr (.inr (.inr (.inr (.inr (.inr (.inl ⟨h20.1,by omega⟩)))))))).symm,X6 (fun n=>n) []⟩
   (try simp only[BN]at h20);refine X4 ?_;refine(X9 rfl (fun h23=>Xb ?_) (fun h23=>?_))
   · (try simp only[BN]at h23);exact⟨true,(decide_eq_true (.inr (.inr (.inr (.inr (.inr (.inr (.inr (.inl ⟨h23.1,by omega⟩))))))))).symm,X6 (fun n=>n) []⟩
   (try simp only[BN]at h23);refine XO [2,3,4,7] (fun(z:Bool)=>[(10,.v (lb z))]) (fun(z:Bool)=>[(3,.box [.c (.sl 5 (Xs vars)),.c (.sl 6 (Xt hats)),.c (.sl 10 (Xa body))]),(4,.box [.c (iC d),.c (iC c),.c (iC v),.c (iC n),.c (iC o),.c (iC tn),.c (.sl 3 (Xo ks)),.c (.sl 10 (Xa a)),.c (.sl 10 (Xa b)),.c (.sl 1 (Xj bs))])]) (fun(z:Bool)=>z=(UV&& !LO)) ?_ ?_
   · by_cases h0:0≤v
     · have h3:¬v<0:=by omega
       by_cases h1:v<vars.length
       · obtain⟨w,hw⟩:=X3K ⟨h0,h1⟩;have h2:¬(nv:Int)≤v:=by omega
         have hz:LO=decide (w.kind=0):=by rw[←hLO];unfold QV;rw[hw];simp[h0]
         subst hz;clear h1;refine QR [⟨true,.v (lb UV),none⟩] (by simp[*];first|exact⟨rfl,Iff.rfl⟩|exact⟨rfl,trivial⟩|rfl) ?_ ?_
         · first|exact c3 _|exact trivial
         exact⟨UV&& !decide (w.kind=0),rfl,X6 (fun n=>n) []⟩
       have hw:=X0M h0 h1;have h2:(nv:Int)≤v:=by omega
       have hz:LO=false:=by rw[←hLO];unfold QV;rw[hw];simp
       subst hz;clear h1;refine QR [⟨true,.v (lb UV),none⟩] (by simp[*];first|exact⟨rfl,Iff.rfl⟩|exact⟨rfl,trivial⟩|rfl) ?_ ?_
       · first|exact c3 _|exact trivial
       exact⟨UV&& !false,rfl,X6 (fun n=>n) []⟩
     have h3:v<0:=by omega
     have hz:LO=false:=by rw[←hLO];unfold QV;simp[h0]
     subst hz;refine QR [⟨true,.v (lb UV),none⟩] (by simp[*];first|exact⟨rfl,Iff.rfl⟩|exact⟨rfl,trivial⟩|rfl) ?_ ?_
     · first|exact c3 _|exact trivial
     exact⟨UV&& !false,rfl,X6 (fun n=>n) []⟩
   rintro LOU hLOU;simp only[upS,X8,Xy]
   try simp only[X8,KN,Nat.reduceBEq,if_true,if_false,ins,Nat.reduceLT]
   refine(X9 rfl (fun h26=>Xb ?_) (fun h26=>?_))
   · (try simp only[BN]at h26);rw[hLOU,Bool.and_eq_true,Bool.not_eq_true']at h26;exact⟨true,(decide_eq_true (.inr (.inr (.inr (.inr (.inr (.inr (.inr (.inr (.inl h26)))))))))).symm,X6 (fun n=>n) []⟩
   try simp only[BN]at h26
   have hz:decide (badP UV UN UT P LO d v n la lc nb nh)=(decide (d=5)&&(decide (n<0)||decide ((nh:Int)≤n))):=by
    rw[hLOU]at h26;rw[Bool.eq_iff_iff,decide_eq_true_eq];unfold badP;simp only[Bool.and_eq_true,Bool.or_eq_true,decide_eq_true_eq];constructor
    · rintro(h|h|h|h|h|h|h|h|h|h)
      · omega
      · omega
      · exact absurd h8 (by simp[h.1,h.2])
      · exact absurd h11 (by simp[h.1,h.2])
      · rw[hLUT,h.1,h.2]at h14;cases h14
      · omega
      · omega
      · omega
      · exact absurd h26 (by simp[h.1,h.2])
      exact h
    exact fun h=>.inr (.inr (.inr (.inr (.inr (.inr (.inr (.inr (.inr h))))))))
   refine X3 ?_;exact⟨(decide (d=5)&&(decide (n<0)||decide ((nh:Int)≤n))),hz.symm,X6 (fun n=>n) []⟩
  rintro _ rfl;simp only[upS,X8,Xy]
  try simp only[X8,KN,Nat.reduceBEq,if_true,if_false,ins,Nat.reduceLT]
  refine(Xe rfl (fun h30=>?_) fun h30=>?_)
  · (try simp only[BN]at h30);have hz:=hbad h30;clear hgood hbad;refine X4 ?_;exact Xh
  (try simp only[BN]at h30);have hz:=hgood h30;clear hgood hbad;exact⟨(),hz,X6 (fun n=>n) []⟩
 rintro _ hz;simp only[upS,X8,Xy]
 try simp only[X8,KN,Nat.reduceBEq,if_true,if_false,ins,Nat.reduceLT]
 clear hgood hbad;rcases XaE bs with h0|⟨b0,hb0⟩
 · subst h0;have hh:X4D []=false:=rfl;replace hnb:nb=0:=hnb.symm;subst hnb;rw[hh]at hz;refine Xk [⟨true,.v (lb R),none⟩] ?_ ?_
   · first|exact c2 _|exact trivial|simpa[*]using c2 _
   exact(Xm (fun h=>⟨.inr rfl,h⟩) _ (by simp[*];rfl) (by first|(simp[*,XN,Bool.and_assoc];done)|rfl) (by simp))
 have hh:X4D bs=decide (0≤b0):=by unfold X4D;rw[hb0]
 rw[hh]at hz;have e32:decide ((nb:Int)≤32)=decide (nb≤32):=by rw[decide_eq_decide];omega
 refine Xk [⟨true,.v (lb R),none⟩] ?_ ?_
 · first|exact c2 _|exact trivial|simpa[*]using c2 _
 exact(Xm (fun h=>⟨.inr rfl,h⟩) _ (by simp[*];rfl) (by rw[hz];simp[XN,e32,Bool.and_assoc]) (by simp))
end Go.Proofs.YtppjennamodfdaaGreat

namespace Go.Proofs.YtppjennamodfdaaGreat
open Go Go.Hl
def stC (vars:List Vr) (nh:Nat) (d c v n:Int) (t:Tm) (la lc:Nat) (bs:List Int) (last:Bool):Int:=
 if shB vars nh d v n t la lc bs last=false then 1 else if X2L d c n bs=false then 3 else X0G vars false t
def ssC (vars:List Vr) (nh:Nat):List St→Bool→Int
 |[],_=>0
 | .mk d c v n t a b bs::l,top=>
   if stC vars nh d c v n t a.length b.length bs (top&&l.isEmpty)=0 then
    (if ssC vars nh a false=0 then(if ssC vars nh b false=0 then ssC vars nh l top else ssC vars nh b false)else ssC vars nh a false)
   else stC vars nh d c v n t a.length b.length bs (top&&l.isEmpty)
mutual
def X0B:St→Bool
 | .mk _ _ _ _ _ a b bs=>decide (bs.length≤1000000000)&&(Wm a&&Wm b)
def Wm:List St→Bool
 |[]=>true
 |s::l=>X0B s&&Wm l
end
theorem X1A {l:List St} (h:Wm l=true) {s:St} (hs:s∈l):X0B s=true:=by
 induction l with
 |nil=>cases hs
 | cons x l ih=>
   simp only[Wm,Bool.and_eq_true]at h;rcases List.mem_cons.1 hs with rfl|h1
   · exact h.1
   exact ih h.2 h1
theorem X7m {vars:List Vr} {nh:Nat} {d v n:Int} {t:Tm} {la lc:Nat} {bs:List Int} {last:Bool} (h:shB vars nh d v n t la lc bs last=true):(d=6→bs≠[])∧(d≠6→bs=[])∧(n<0→d=4):=by
 have hr:ZF bs=true→1≤bs.length:=by
  intro h;unfold ZF at h;simp only[Bool.and_eq_true,decide_eq_true_eq]at h;omega
 have hb:bs≠[]↔1≤bs.length:=by cases bs<;>simp
 have hb2:bs=[]↔bs.length=0:=by cases bs<;>simp
 rw[hb,hb2];unfold shB at h;generalize ZF bs=R at*;generalize bs.length=nb at*
 (repeat' split at h)<;>(try simp only[Bool.and_eq_true,decide_eq_true_eq]at h)<;>(try have:=hr h.2)<;>(try cases h)<;>refine⟨fun h=>?_,fun h=>?_,fun h=>?_⟩<;>omega
theorem X6q {l:List St} {k:Nat} (h:k+1≤l.length):(l.drop (k+1)).isEmpty=decide ((k:Int)=(l.length:Int) - 1):=by
 rw[Bool.eq_iff_iff,List.isEmpty_iff,List.drop_eq_nil_iff,decide_eq_true_eq];omega
def fnz (vars:List Vr) (nh:Nat):List (List St)→Int
 |[]=>0
 |x::r=>if ssC vars nh x false=0 then fnz vars nh r else ssC vars nh x false
theorem Xa5 (f:Fl) (hv:X0d f.vars) (hl:f.vars.length≤1000000) (l:List St):Xl l≤1000000000→Wm l=true→∀(top:Bool) (d:Nat),
  Con Tryz.prog 166 true [aF f,lS l,lb top] (.v (li (ssC f.vars f.hats.length l top))) none d:=by
 revert l
 apply St.lists;intro l ih hn hbn top d;have hlen:=Q9 l;obtain⟨res,hres⟩:∃r,ssC f.vars f.hats.length l top=r:=⟨_,rfl⟩;rw[hres];have csh:=fun s last hb=>X9n f s last (by omega) hb;obtain⟨vars,hats,body⟩:=f;simp only at hv hl hres ih csh;refine X7 Tryz.func166 ?_;simp only[Tryz.f166];simp only[aF,Fl.enc,List.map_cons,List.map_nil];refine X4 ?_;refine X0<|X0<|X3 ?_;refine X5<|(Xd [1,2,3,13,14] (fun(x:Nat)=>[(15,.v (li x))]) (fun x=>[(3,.box [.c (.sl 5 (Xs vars)),.c (.sl 6 (Xt hats)),.c (.sl 10 (Xa body))])]) (fun x=>x≤l.length∧ssC vars hats.length (l.drop x) top=res) (fun x=>l.length - x) (0:Nat) ⟨Nat.zero_le _,hres⟩ ?_ ?_)
 · exact X6 (fun n=>n) []
 rintro k ⟨hk,hJ⟩;simp only[upS,X8,Xy]
 try simp only[X8,KN,Nat.reduceBEq,if_true,if_false,ins,Nat.reduceLT]
 clear hres;refine X4 ?_;refine X0<|(X9 rfl (fun h4=>Xb ?_) (fun h4=>?_))
 · (try simp only[BN]at h4);have hlt:k<l.length:=by omega
   obtain⟨s,he,hd⟩:=Xq hlt;have hmem:s∈l:=List.mem_of_getElem? he;have hnm:=Qm hmem;have hbm:=X1A hbn hmem;have iha:=fun h h2=>(ih s hmem).1 h h2;have ihb:=fun h h2=>(ih s hmem).2 h h2;have hw1:=XA hlt (by omega);have hw2:IntKind.i64.wrap ((l.length:Int) - 1)=(l.length:Int) - 1:=Xc (by omega) (by omega);have hk1:k+1≤l.length:=hlt;have hla:=X6q hk1;rw[hd]at hJ;have ct:=X6s vars false hv (by omega) s.term;have csh1:=csh s (top&&decide ((k:Int)=(l.length:Int) - 1));have cnu:=numP_con s;obtain⟨sd,sc,sv,sn,⟨so,stn,sks⟩,sa,sb,sbs⟩:=s;simp only[St.then_,St.else_,St.term,St.bounds,St.do_,St.var,St.n,St.cost]at iha ihb hnm ct csh1 cnu;simp only[X0B,Bool.and_eq_true,decide_eq_true_eq]at hbm;simp only[ssC,hla]at hJ;have ca:=iha (by omega) hbm.2.1;have cb:=ihb (by omega) hbm.2.2;have ct:=ct (by omega);have csh1:=csh1 hbm.1;have cnu:=cnu hbm.1;have he':=XX he;simp only[St.enc,Tm.enc,List.cons_append,List.nil_append]at he';simp only[aF,Fl.enc,aS,St.enc,Tm.enc,List.map_cons,List.map_nil,List.cons_append,List.nil_append]at csh1 ca cb cnu;have hshb:=@X7m vars hats.length sd sv sn (.mk so stn sks) sa.length sb.length sbs (top&&decide ((k:Int)=(l.length:Int) - 1));obtain⟨SH,hSH⟩:∃x,shB vars hats.length sd sv sn (.mk so stn sks) sa.length sb.length sbs (top&&decide ((k:Int)=(l.length:Int) - 1))=x:=⟨_,rfl⟩;obtain⟨NU,hNU⟩:∃x,X2L sd sc sn sbs=x:=⟨_,rfl⟩;obtain⟨TC,hTC⟩:∃x,X0G vars false (.mk so stn sks)=x:=⟨_,rfl⟩;obtain⟨SC,hSC⟩:∃x,stC vars hats.length sd sc sv sn (.mk so stn sks) sa.length sb.length sbs (top&&decide ((k:Int)=(l.length:Int) - 1))=x:=⟨_,rfl⟩;rw[hSC]at hJ;unfold stC at hSC;rw[hSH]at csh1 hshb hSC;rw[hNU]at cnu hSC;rw[hTC]at ct hSC
   have hlc2:∀x∈[sa,sb],∀d,Con Tryz.prog 166 true [.agg [.c (.sl 5 (Xs vars)),.c (.sl 6 (Xt hats)),.c (.sl 10 (Xa body))],lS x,lb false] (.v (li (ssC vars hats.length x false))) none d:=by
    intro x hx;simp only[List.mem_cons,List.not_mem_nil,or_false]at hx;rcases hx with rfl|rfl
    · exact ca false
    exact cb false
   have hfn:(if ssC vars hats.length sa false=0 then(if ssC vars hats.length sb false=0 then ssC vars hats.length (l.drop (k+1)) top else ssC vars hats.length sb false)else ssC vars hats.length sa false)=(if fnz vars hats.length [sa,sb]=0 then ssC vars hats.length (l.drop (k+1)) top else fnz vars hats.length [sa,sb]):=by
    simp only[fnz];by_cases h1:ssC vars hats.length sa false=0<;>by_cases h2:ssC vars hats.length sb false=0<;>simp[h1,h2]
   rw[hfn]at hJ;obtain⟨LL,hLL⟩:∃x,x=[sa,sb]:=⟨_,rfl⟩;rw[←hLL]at hJ hlc2;obtain⟨FN,hFN⟩:∃x,fnz vars hats.length LL=x:=⟨_,rfl⟩;rw[hFN]at hJ;have hrows:LL.map (fun x=>[CD.sl 10 (Xa x)])=[[.sl 10 (Xa sa)],[.sl 10 (Xa sb)]]:=by rw[hLL];rfl
   have hL2:LL.length=2:=by rw[hLL];rfl
   clear hlt h4 iha ihb ih hmem hnm hd he hbm hSH hNU hTC ca cb hfn hLL csh hla;refine X0<|X5<|X0<|X3 ?_;refine X0<|X0<|(Xp [⟨true,.v (lb SH),none⟩] ?_ ?_)
   · first|exact csh1 _|exact trivial|simpa[*]using csh1 _
   refine(Xe rfl (fun h7=>?_) fun h7=>?_)
   · (try simp only[BN]at h7);rw[if_pos h7]at hSC;subst hSC;rw[if_neg (by decide)]at hJ;subst hJ;refine X4 ?_;exact Xh
   (try simp only[BN]at h7);rw[if_neg (by simp[h7])]at hSC;have hsb:=hshb h7;have cnu2:=cnu hsb.1 hsb.2.1;clear cnu hshb csh1;refine X0<|X0<|(Xp [⟨true,.v (lb NU),none⟩] ?_ ?_)
   · first|exact cnu2 _|exact trivial|simpa[*]using cnu2 _
   refine(Xe rfl (fun h11=>?_) fun h11=>?_)
   · (try simp only[BN]at h11);rw[if_pos h11]at hSC;subst hSC;rw[if_neg (by decide)]at hJ;subst hJ;refine X4 ?_;exact Xh
   (try simp only[BN]at h11);rw[if_neg (by simp[h11])]at hSC;subst hSC;clear cnu2 hsb;refine X0<|X0<|(Xp [⟨true,.v (li TC),none⟩] ?_ ?_)
   · first|exact ct _|exact trivial|simpa[*]using ct _
   refine X4 ?_;refine(Xe rfl (fun h16=>?_) fun h16=>?_)
   · (try simp only[BN]at h16);rw[if_neg h16]at hJ;subst hJ;refine X4 ?_;exact Xh
   (try simp only[BN]at h16);rw[if_pos (by simpa using h16)]at hJ;clear ct;refine X4 ?_;refine X5<|(Xd [1,2,3,13,14,15,47,48] (fun(x:Nat)=>[(49,.v (li x))]) (fun x=>[(3,.box [.c (.sl 5 (Xs vars)),.c (.sl 6 (Xt hats)),.c (.sl 10 (Xa body))]),(47,.row 24 1 (LL.map fun x=>[CD.sl 10 (Xa x)]))]) (fun x=>x≤2∧fnz vars hats.length (LL.drop x)=FN) (fun x=>2 - x) (0:Nat) ⟨Nat.zero_le _,hFN⟩ ?_ ?_)
   · exact X6 (fun n=>n) []
   rintro q ⟨hq,hJ2⟩;simp only[upS,X8,Xy]
   try simp only[X8,KN,Nat.reduceBEq,if_true,if_false,ins,Nat.reduceLT]
   clear hFN hrows;refine X4 ?_;refine X0<|(X9 rfl (fun h22=>Xb ?_) (fun h22=>?_))
   · (try simp only[BN]at h22);have hlt2:q<LL.length:=by omega
     obtain⟨y,hy,hdy⟩:=Xq hlt2;have hwq:=XA hlt2 (by omega);have hq1:q+1≤2:=by omega
     have cy:=hlc2 y (List.mem_of_getElem? hy);rw[hdy]at hJ2;simp only[fnz]at hJ2;generalize ssC vars hats.length y false=SY at*;clear hlt2 h22 hdy hlc2;refine X0<|X5<|X0<|X3 ?_;refine Xk [⟨true,.v (li SY),none⟩] ?_ ?_
     · first|exact cy _|exact trivial|simpa[*]using cy _
     refine X4 ?_;refine(Xe rfl (fun h26=>?_) fun h26=>?_)
     · (try simp only[BN]at h26);rw[if_neg h26]at hJ2;subst hJ2;rw[if_neg h26]at hJ;subst hJ;refine X4 ?_;exact Xh
     (try simp only[BN]at h26);rw[if_pos (by simpa using h26)]at hJ2;refine X3 ?_;exact⟨q+1,⟨hq1,hJ2⟩,by omega,X6 (fun n=>n) []⟩
   (try simp only[BN]at h22);have hq2:q=LL.length:=by omega
   rw[hq2,List.drop_length]at hJ2;simp only[fnz]at hJ2;rw[if_pos hJ2.symm]at hJ;refine(Xg ?_);refine X3 ?_;exact⟨k+1,⟨hk1,hJ⟩,by omega,X6 (fun n=>n) []⟩
 (try simp only[BN]at h4);have hkl:k=l.length:=by omega
 rw[hkl,List.drop_length]at hJ;simp only[ssC]at hJ;subst hJ;refine(Xg ?_);refine X4 ?_;exact Xh
end Go.Proofs.YtppjennamodfdaaGreat

namespace Go.Proofs.YtppjennamodfdaaGreat
open Go Go.Hl
theorem X8V {vars:List Vr} {nh:Nat} {d v n:Int} {t:Tm} {la lb:Nat} {bs:List Int} {last:Bool} (h:shB vars nh d v n t la lb bs last=true):d=3∨d=4∨(la=0∧lb=0):=by
 by_cases h3:d=3
 · exact .inl h3
 by_cases h4:d=4
 · exact .inr (.inl h4)
 refine .inr (.inr ?_);unfold shB at h;simp only[if_neg h3,if_neg h4]at h;split at h
 · simp only[Bool.and_eq_true,decide_eq_true_eq]at h;exact h.1.1.1
 split at h
 · simp only[Bool.and_eq_true,decide_eq_true_eq]at h;exact h.1.1.1
 split at h
 · simp only[Bool.and_eq_true,decide_eq_true_eq]at h;exact h.1.1.1.1
 split at h
 · simp only[Bool.and_eq_true,decide_eq_true_eq]at h;exact h.1.1.1.1.1
 split at h
 · simp only[Bool.and_eq_true,decide_eq_true_eq]at h;exact h.1.1.1.1.1
 cases h
theorem X2u {vars:List Vr} {nh:Nat}:∀(l:List St) (top:Bool),ssC vars nh l top=0→okL l=true
 |[],_,_=>by simp[okL]
 | .mk d c v n t a b bs::l,top,h=>by
   simp only[ssC]at h;split at h
   · rename_i h0;split at h
     · rename_i ha;split at h
       · rename_i hb;have ia:=X2u a false ha;have ib:=X2u b false hb;have il:=X2u l top h;unfold stC at h0;split at h0
         · cases h0
         rename_i hs;split at h0
         · cases h0
         rename_i hn;have hs:shB vars nh d v n t a.length b.length bs (top&&l.isEmpty)=true:=by simpa using hs
         have hn:X2L d c n bs=true:=by simpa using hn
         have hf:=X8V hs;unfold X2L at hn;simp only[Bool.and_eq_true,Bool.not_eq_true',Bool.or_eq_false_iff,Bool.and_eq_false_iff,decide_eq_false_iff_not]at hn;have hm:X3u d≤67108864:=by unfold X3u;split<;>omega
         simp only[okL,okS,Bool.and_eq_true,Bool.or_eq_true,decide_eq_true_eq,List.isEmpty_iff,ia,ib,il];have hla:a.length=0→a=[]:=List.eq_nil_of_length_eq_zero;have hlb:b.length=0→b=[]:=List.eq_nil_of_length_eq_zero;refine⟨⟨⟨by omega,by omega,by omega⟩,?_,by simp⟩,by simp⟩;rcases hf with hf|hf|hf
         · exact .inl hf
         · exact .inr (.inl hf)
         exact .inr (.inr ⟨hla hf.1,hlb hf.2⟩)
       rename_i hb;exact absurd h hb
     rename_i ha;exact absurd h ha
   rename_i h0;exact absurd h h0
def QI:List Ht→Nat
 |[]=>0
 |h::l=>h.term.nodes+QI l
def mH:List Ht→Int×Bool→Int×Bool
 |[],s=>s
 |h::l,s=>mH l (if Wa s=true then s else mTm h.term 1 s)
theorem Z5 {l:List Ht} {h:Ht} (hm:h∈l):h.term.nodes≤QI l:=by
 induction l with
 |nil=>cases hm
 | cons x l ih=>
   simp only[QI];rcases List.mem_cons.1 hm with rfl|h1
   · omega
   have:=ih h1;omega
theorem X7E:∀(l:List Ht) (s:Int×Bool),Wa s=true→Wa (mH l s)=true
 |[],s,h=>h
 | x::l,s,h=>by
   simp only[mH,if_pos h];exact X7E l s h
def X0p (l:List Ht):Bool:=l.all fun h=>decide (tdT h.term≤12)
theorem mH_fit:∀(l:List Ht) (s:Int×Bool),0≤s.1→Wa s=false→
  (s.1+QI l≤1024∧X0p l=true→Wa (mH l s)=false)∧(¬(s.1+QI l≤1024∧X0p l=true)→Wa (mH l s)=true)
 | [],s,h0,h=>by
   have:=X4m h;simp only[mH,QI,X0p,List.all_nil];exact⟨fun _=>h,fun hn=>absurd ⟨by omega,trivial⟩ hn⟩
 | x::l,s,h0,h=>by
   have ho:=X4m h;have ht:=X7r x.term 1 s h0 (by omega) h;have hle:=X1h x.term 1 s;simp only[mH,h,QI,X0p,List.all_cons,Bool.and_eq_true,decide_eq_true_eq,Bool.false_eq_true,if_false];by_cases hf:s.1+x.term.nodes≤1024∧1+(tdT x.term:Int)≤13
   · have e:=ht.1 hf;rw[e];have ih:=mH_fit l (s.1+x.term.nodes,false) (by simp only;omega) (by simp only[Wa,Bool.false_or,decide_eq_false_iff_not];omega);simp only[X0p]at ih;refine⟨fun hh=>ih.1 ⟨by omega,hh.2.2⟩,fun hh=>ih.2 fun h2=>hh ⟨by omega,by omega,h2.2⟩⟩
   have e:=ht.2 hf;refine⟨fun hh=>absurd ⟨by omega,by omega⟩ hf,fun _=>X7E _ _ e⟩
def X0Z (f:Fl):Bool:=((((decide (f.vars.length≤64)&&decide (f.hats.length≤8))&&decide (Xl f.body+QI f.hats≤1024))&&decide (sdL f.body≤12))&& !WB f.body)&&X0p f.hats
def mF (f:Fl):Int×Bool:=mH f.hats (mSs f.body 1 (0,false))
theorem Xaw (f:Fl):X0Z f=false↔64<f.vars.length∨8<f.hats.length∨Wa (mF f)=true:=by
 have h1:=X55 f.body 1 (0,false) (by decide) (by decide) rfl;unfold mF X0Z;simp only[Bool.and_eq_false_iff,decide_eq_false_iff_not,Bool.not_eq_false',Nat.not_le];by_cases hs:((0:Int),false).1+Xl f.body≤1024∧1+(sdL f.body:Int)≤13∧WB f.body=false
 · rw[h1.1 hs];have h2:=mH_fit f.hats (0+(Xl f.body:Int),false) (by simp only;omega) (by simp only[Wa,Bool.false_or,decide_eq_false_iff_not];have:=hs.1;simp only at this;omega);obtain⟨a1,a2,a3⟩:=hs;simp only at a1 h2;by_cases hh:0+(Xl f.body:Int)+QI f.hats≤1024∧X0p f.hats=true
   · have e:=h2.1 hh;have e3:=hh.2;simp only[show((0:Int),false).1=0 from rfl];rw[e,a3,e3];simp;omega
   have e:=h2.2 hh;simp only[show((0:Int),false).1=0 from rfl];rw[e,a3];constructor
   · intro _;exact .inr (.inr rfl)
   intro _;by_cases hd:X0p f.hats=true
   · left;left;left;right;by_cases hc:0+(Xl f.body:Int)+QI f.hats≤1024
     · exact absurd ⟨hc,hd⟩ hh
     omega
   right;simpa using hd
 have e:=X7E f.hats _ (h1.2 hs);rw[e];constructor
 · intro _;exact .inr (.inr rfl)
 intro _;simp only at hs;by_cases ht:WB f.body=true
 · left;right;exact ht
 have ht:WB f.body=false:=by simpa using ht
 by_cases hd:sdL f.body≤12
 · left;left;left;right;by_cases hc:0+(Xl f.body:Int)≤1024
   · exact absurd ⟨hc,by omega,ht⟩ hs
   omega
 left;left;right;omega
def X7g (l:List St):Bool:=decide (4096<(bdL CR l ⟨0,0,0⟩).s)||(decide (8<(bdL CR l ⟨0,0,0⟩).o)||decide (67108864<(bdL CR l ⟨0,0,0⟩).t))
def Qb (f:Fl):Int:=
 if X0Z f=false then 4 else if ZI f.vars=0 then
  (if hcs f.vars [] f.hats=0 then(if ssC f.vars f.hats.length f.body true=0 then(if X7g f.body=true then 4 else 0)else ssC f.vars f.hats.length f.body true)else hcs f.vars [] f.hats)
 else ZI f.vars
theorem X2y {vars:List Vr} (h:ZI vars=0):X0d vars:=by
 unfold ZI at h;split at h
 · rename_i h0;exact X3e _ _ h0
 rename_i h0;exact absurd h h0
end Go.Proofs.YtppjennamodfdaaGreat

namespace Go.Proofs.YtppjennamodfdaaGreat
open Go Go.Hl
theorem X5u (f:Fl) (hv:f.vars.length≤1000000) (hh:f.hats.length≤1000000) (hn:Xl f.body+QI f.hats≤900000000) (hb:Wm f.body=true) (d:Nat):
  Con Tryz.prog 145 true [aF f] (.v (li (Qb f))) none d:=by
 obtain⟨res,hres⟩:∃r,Qb f=r:=⟨_,rfl⟩;rw[hres];have hso:=Xaw f;have cvars:=XcE f.vars hv;have chat:=fun hg=>Xc7 f hg hv hh (fun h hm=>by have:=Z5 hm;omega);have cst:=fun hg=>Xa5 f hg hv f.body (by omega) hb;have cup:=fun ho=>Xcv f.body (by omega) ho;have cms:=Xan f.body 1 0 false (by decide) (by decide) (by omega);have hms:=X0l f.body 1 (0,false);have hgood:ZI f.vars=0→X0d f.vars:=X2y;have hok:ssC f.vars f.hats.length f.body true=0→okL f.body=true:=X2u _ _;have hcmp:=fun h=>@bd_cmp f.body h;unfold Qb X7g at hres;unfold mF at hso;obtain⟨vars,hats,body⟩:=f;simp only at hv hh hn hb hres hso cvars chat cst cup cms hms hgood hok hcmp;obtain⟨m0,hm0⟩:∃m,mSs body 1 (0,false)=m:=⟨_,rfl⟩;rw[hm0]at cms hms hso;obtain⟨c0,b0⟩:=m0;simp only at cms hms;obtain⟨mE,hmE⟩:∃m,mH hats (c0,b0)=m:=⟨_,rfl⟩;rw[hmE]at hso;obtain⟨VC,hVC⟩:∃x,ZI vars=x:=⟨_,rfl⟩;obtain⟨HC,hHC⟩:∃x,hcs vars [] hats=x:=⟨_,rfl⟩;obtain⟨SC,hSC⟩:∃x,ssC vars hats.length body true=x:=⟨_,rfl⟩;rw[hVC]at cvars hres hgood;rw[hHC]at chat hres;rw[hSC]at hres hok;have cst:=fun hg=>cst hg true;rw[hSC]at cst;clear hVC hHC hSC hm0;refine X7 Tryz.func145 ?_;simp only[Tryz.f145];simp only[aF,Fl.enc,List.map_cons,List.map_nil]at chat cst⊢;refine X4 ?_;refine X4 ?_;refine X0<|(X0P 2 (.tup []) ([iC c0,bC b0]) rfl (by simp[*];rfl) (by simp[ioOf, *];first|exact⟨rfl,rfl,rfl,rfl,rfl⟩|exact⟨rfl,rfl,rfl,rfl⟩|exact⟨rfl,rfl,rfl⟩|exact⟨rfl,rfl⟩|rfl) (cms) (by simp) (by simp[*];rfl) ?_);refine X0<|X0<|X3 ?_;refine X5<|(Xd [1,3,14,15] (fun(x:Nat×Int×Bool)=>[(16,.v (li x.1))]) (fun x=>[(1,.box [.c (.sl 5 (Xs vars)),.c (.sl 6 (Xt hats)),.c (.sl 10 (Xa body))]),(3,.box [.c (iC x.2.1),.c (bC x.2.2)])]) (fun x=>x.1≤hats.length∧mH (hats.drop x.1) x.2=mE∧0≤x.2.1∧x.2.1+QI (hats.drop x.1)≤1000000000) (fun x=>hats.length - x.1) (0,c0,b0) ⟨Nat.zero_le _,by simpa using hmE,by simp only;omega,by simp only[List.drop_zero];omega⟩ ?_ ?_)
 · exact X6 (fun n=>n) []
 rintro⟨k,m,q⟩ ⟨hk,hJ,hm,hbb⟩;simp only[upS,X8,Xy]
 try simp only[X8,KN,Nat.reduceBEq,if_true,if_false,ins,Nat.reduceLT]
 simp only at hk hJ hm hbb;clear hmE hms cms;refine X4 ?_;refine X0<|(X9 rfl (fun h6=>Xb ?_) (fun h6=>?_))
 · (try simp only[BN]at h6);have hlt:k<hats.length:=by omega
   obtain⟨h,he,hd⟩:=Xq hlt;have hw1:=XA hlt (by omega);have hk1:k+1≤hats.length:=hlt;rw[hd]at hJ hbb;simp only[mH,QI]at hJ hbb;have hle:=X1h h.term 1 (m,q);have cmt:=X7h h.term 1 m q (by decide) hm (by omega);obtain⟨nm,lo,hi,⟨o,tn,ks⟩⟩:=h;simp only at hle cmt hJ hbb;obtain⟨m1,hm1⟩:∃x,mTm (.mk o tn ks) 1 (m,q)=x:=⟨_,rfl⟩;rw[hm1]at cmt hle hJ;obtain⟨c1,b1⟩:=m1;simp only[aT,Tm.enc,List.map_cons,List.map_nil]at cmt hle;clear hlt h6 hd hm1 hso hres chat cst cup hok hcmp;refine X0<|X5<|X0<|X3 ?_;refine Xk [⟨true,.v (lb (q||decide (1024<m))),none⟩] ?_ ?_
   · first|exact Za _ _ _|exact trivial|simpa[*]using Za _ _ _
   refine(Xe rfl (fun h9=>?_) fun h9=>?_)
   · try simp only[BN]at h9
     have hov:Wa (m,q)=false:=by
      simp only[Wa,Bool.or_eq_false_iff,decide_eq_false_iff_not]
      first|exact h9|simpa using h9
     rw[if_neg (by rw[hov];decide)]at hJ;clear hov;refine(X0P 2 (.tup []) ([iC c1,bC b1]) rfl (by simp[*];rfl) (by simp[ioOf, *];first|exact⟨rfl,rfl,rfl,rfl,rfl⟩|exact⟨rfl,rfl,rfl,rfl⟩|exact⟨rfl,rfl,rfl⟩|exact⟨rfl,rfl⟩|rfl) (cmt) (by simp) (by simp[*];rfl) ?_);refine X3 ?_;exact⟨(k+1,c1,b1),⟨hk1,hJ,by simp only;omega,by simp only;omega⟩,by simp only;omega,X6 (fun n=>n) []⟩
   try simp only[BN]at h9
   have hov:Wa (m,q)=true:=by
    simp only[Wa,Bool.or_eq_true,decide_eq_true_eq]
    first|exact h9|simpa using h9
   rw[if_pos hov]at hJ;clear hov;refine X3 ?_;exact⟨(k+1,m,q),⟨hk1,hJ,hm,by simp only;omega⟩,by simp only;omega,X6 (fun n=>n) []⟩
 (try simp only[BN]at h6);have hkl:k=hats.length:=by omega
 subst hkl;rw[List.drop_length]at hJ;simp only[mH]at hJ;subst hJ;simp only[Wa,Bool.or_eq_true,decide_eq_true_eq]at hso;refine(Xg ?_);refine X0<|X0<|(Xp [⟨true,.v (lb (q||decide (1024<m))),none⟩] ?_ ?_)
 · first|exact Za _ _ _|exact trivial|simpa[*]using Za _ _ _
 refine(Xe rfl (fun h16=>?_) fun h16=>?_)
 · try simp only[BN]at h16
   rw [if_pos (hso.2 (by
       simp only[or_assoc]at h16;rcases h16 with h|h|h|h
       · exact .inl (by omega)
       · exact .inr (.inl (by omega))
       · exact .inr (.inr (.inl h))
       exact .inr (.inr (.inr h))))]at hres
   subst hres;refine X4 ?_;exact Xh
 try simp only[BN]at h16
 rw [if_neg (by
     rw[hso];rintro(h|h|h|h)
     · omega
     · omega
     · exact absurd h (by simp[h16])
     omega)]at hres
 refine X0<|X0<|(Xp [⟨true,.v (li VC),none⟩] ?_ ?_)
 · first|exact cvars _|exact trivial|simpa[*]using cvars _
 refine X4 ?_;refine(Xe rfl (fun h21=>?_) fun h21=>?_)
 · (try simp only[BN]at h21);rw[if_neg h21]at hres;subst hres;refine X4 ?_;exact Xh
 (try simp only[BN]at h21);have hv0:VC=0:=by simpa using h21
 have hg:=hgood hv0;have chat:=chat hg;have cst:=cst hg;rw[if_pos hv0]at hres;clear cvars hgood h21;refine X0<|X0<|(Xp [⟨true,.v (li HC),none⟩] ?_ ?_)
 · first|exact chat _|exact trivial|simpa[*]using chat _
 refine X4 ?_;refine(Xe rfl (fun h26=>?_) fun h26=>?_)
 · (try simp only[BN]at h26);rw[if_neg h26]at hres;subst hres;refine X4 ?_;exact Xh
 (try simp only[BN]at h26);have hh0:HC=0:=by simpa using h26
 rw[if_pos hh0]at hres;clear chat h26;refine X0<|X0<|(Xp [⟨true,.v (li SC),none⟩] ?_ ?_)
 · first|exact cst _|exact trivial|simpa[*]using cst _
 refine X4 ?_;refine(Xe rfl (fun h31=>?_) fun h31=>?_)
 · (try simp only[BN]at h31);rw[if_neg h31]at hres;subst hres;refine X4 ?_;exact Xh
 (try simp only[BN]at h31);have hs0:SC=0:=by simpa using h31
 rw[if_pos hs0]at hres;have hok:=hok hs0;have cup:=cup hok;have hcmp:=hcmp hok;obtain⟨X,hX⟩:∃x,bdL CP body ⟨0,0,0⟩=x:=⟨_,rfl⟩;obtain⟨Y,hY⟩:∃x,bdL CR body ⟨0,0,0⟩=x:=⟨_,rfl⟩;rw[hX]at cup hcmp;rw[hY]at hcmp hres;obtain⟨x1,x2,x3⟩:=X;obtain⟨y1,y2,y3⟩:=Y;simp only[Bool.or_eq_true,decide_eq_true_eq]at hcmp hres;clear hX hY cst h31 hok;refine X0<|X0<|(Xp [⟨true,.v (aB ⟨x1,x2,x3⟩),none⟩] ?_ ?_)
 · first|exact cup _|exact trivial|simpa[*]using cup _
 refine X4 ?_;refine(Xe rfl (fun h36=>?_) fun h36=>?_)
 · (try simp only[BN]at h36);rw[if_pos (by omega)]at hres;subst hres;refine X4 ?_;exact Xh
 (try simp only[BN]at h36);rw[if_neg (by omega)]at hres;subst hres;refine X4 ?_;exact Xh
end Go.Proofs.YtppjennamodfdaaGreat
