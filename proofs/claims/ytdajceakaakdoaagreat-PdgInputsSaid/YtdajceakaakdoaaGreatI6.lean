/- Part 6: contracts of functions of the program and of the reference, and plain facts about what they compute; used by the proof of the claimed statement. Conditions: as each theorem states. -/
import Derived.Test.YtdajceakaakdoaaGreatI3
import Derived.Test.YtdajceakaakdoaaGreatI2
import Derived.Test.YtdajceakaakdoaaGreatI1
set_option linter.unusedSimpArgs false
set_option linter.unusedVariables false
set_option linter.unnecessarySimpa false
set_option maxRecDepth 100000
set_option maxHeartbeats 2000000
namespace Go.Proofs.YtdajceakaakdoaaGreat
open Go Go.Hl
def badP (UV UN UT P LO:Bool) (d v n:Int) (la lc nb nh:Nat):Prop:=
 d<0∨6<d∨(UV=false∧v≠0)∨(UN=false∧n≠0)∨(UT=false∧P=false)∨((d≠3∧d≠4)∧0<la)∨(d≠3∧0<lc)∨(d≠6∧0<nb)∨(UV=true∧LO=false)∨(d=5∧(n<0∨nh≤n))
instance (UV UN UT P LO:Bool) (d v n:Int) (la lc nb nh:Nat):Decidable (badP UV UN UT P LO d v n la lc nb nh):=by unfold badP;exact inferInstance
theorem sh_bad {vars:List Vr} {nh:Nat} {d v n:Int} {t:Tm} {la lc:Nat} {bs:List Int} {last:Bool} (h:badP (uVB d) (uNB d) (uTB d) (WA t) (QR vars v) d v n la lc bs.length nh):shB vars nh d v n t la lc bs last=false:=by
 unfold shB;generalize WA t=P at*;generalize QR vars v=LO at*
 have hr:ZA bs=true→1≤bs.length:=by
  intro h;unfold ZA at h;simp only[Bool.and_eq_true,decide_eq_true_eq]at h;omega
 generalize ZA bs=R at*;generalize bs.length=nb at*;unfold badP uVB uNB uTB at h
 (repeat' split)<;>(simp only[Bool.and_eq_false_iff,Bool.or_eq_false_iff,Bool.or_eq_true,decide_eq_true_eq,decide_eq_false_iff_not]at h⊢)<;>cases P<;>cases LO<;>cases last<;>cases R<;>simp at h hr⊢ <;>omega
theorem sh_good {vars:List Vr} {nh:Nat} {d v n:Int} {t:Tm} {la lc:Nat} {bs:List Int} {last:Bool} (h:¬badP (uVB d) (uNB d) (uTB d) (WA t) (QR vars v) d v n la lc bs.length nh):shB vars nh d v n t la lc bs last=(decide (d≠6)||(last&&ZA bs)):=by
 unfold shB;generalize WA t=P at*;generalize QR vars v=LO at*;generalize ZA bs=R at*;generalize bs.length=nb at*;unfold badP uVB uNB uTB at h;rw[Bool.eq_iff_iff]
 (repeat' split)<;>(simp only[not_or,not_and,Bool.or_eq_false_iff,Bool.or_eq_true,Bool.and_eq_true,decide_eq_true_eq,decide_eq_false_iff_not]at h⊢)<;>cases P<;>cases LO<;>cases last<;>cases R<;>simp at h⊢ <;>omega
end Go.Proofs.YtdajceakaakdoaaGreat

namespace Go.Proofs.YtdajceakaakdoaaGreat
open Go Go.Hl
def X3F (d:Int):Int:=if d=2 then 67108864 else 10000
def X4i (bs:List Int):Bool:=
 match bs[bs.length - 1]? with
 |some x=>decide (x≤67108864)
 |none=>true
def X2w (d c n:Int) (bs:List Int):Bool:=
 (!(decide (c<0)||decide (X3F d<c)||(decide (d=4)&&(decide (n<0)||decide (4096<n)))))&&(decide (d≠6)||X4i bs)
theorem numP_con (s:St) (hb:s.bounds.length≤1000000000) (h6:s.do_=6→s.bounds≠[]) (h5:s.do_≠6→s.bounds=[]) (e:Nat):
  Con Tryz.prog 187 true [aS s] (.v (lb (X2w s.do_ s.cost s.n s.bounds))) none e:=by
 obtain⟨d,c,v,n,⟨o,tn,ks⟩,a,b,bs⟩:=s;simp only[St.do_,St.cost,St.n,St.bounds]at hb h6 h5⊢;refine X5 Tryz.func187 ?_;simp only[Tryz.f187];simp only[aS,St.enc,Tm.enc,List.map_cons,List.map_nil,List.cons_append,List.nil_append];refine X1 ?_;refine X1 ?_;refine(XV [1] (fun(z:Int)=>[(3,.v (li z))]) (fun(z:Int)=>[(1,.box [.c (iC d),.c (iC c),.c (iC v),.c (iC n),.c (iC o),.c (iC tn),.c (.sl 3 (XI ks)),.c (.sl 10 (X8 a)),.c (.sl 10 (X8 b)),.c (.sl 1 (Xi bs))])]) (fun(z:Int)=>z=X3F d) ?_ ?_)
 ·
  refine X1 ?_;refine(Xc rfl (fun h4=>?_) fun h4=>?_)
  · (try simp only[BN]at h4);refine X2 ?_;exact⟨67108864,by simp[X3F,h4],X4 (fun n=>n) []⟩
  (try simp only[BN]at h4);exact⟨10000,by simp[X3F,h4],X4 (fun n=>n) []⟩
 rintro M hM;simp only[upS,X6,XB]
 try simp only[X6,KN,Nat.reduceBEq,if_true,if_false,ins,Nat.reduceLT]
 refine X0<|X0<|X2 ?_;refine(Xc rfl (fun h9=>?_) fun h9=>?_)
 · try simp only[BN]at h9
   have hz:X2w d c n bs=false:=by
    unfold X2w;rw[←hM];simp only[Bool.and_eq_false_iff,Bool.or_eq_true,Bool.and_eq_true,Bool.not_eq_false',decide_eq_true_eq];omega
   refine X1 ?_;exact Xe
 try simp only[BN]at h9
 have hz:X2w d c n bs=(decide (d≠6)||X4i bs):=by
  unfold X2w;rw[←hM]
  rw[show(!(decide (c<0)||decide (M<c)||(decide (d=4)&&(decide (n<0)||decide (4096<n)))))=true by
   simp only[Bool.or_eq_false_iff,Bool.and_eq_false_iff,Bool.not_eq_true',decide_eq_false_iff_not]
   omega]
  rfl
 clear h9;by_cases hd6:d=6
 · have hne:=h6 hd6
   have hpos:1≤bs.length:=by
    cases bs with
    |nil=>exact absurd rfl hne
    |cons x l=>simp
   obtain⟨x,hx⟩:=X6l (show bs.length - 1<bs.length by omega);have hw1:IntKind.i64.wrap ((bs.length:Int) - 1)=(bs.length:Int) - 1:=Xa (by omega) (by omega);have hw2:0≤(bs.length:Int) - 1:=by omega
   have hw3:((bs.length:Int) - 1).toNat=bs.length - 1:=by omega
   have hw4:1≤(bs.length:Int):=by omega
   have hlo:X4i bs=decide (x≤67108864):=by unfold X4i;rw[hx]
   clear h6 h5 hne hpos;refine X1 ?_;exact Xe
 have hbs:=h5 hd6;subst hbs;have hw1:IntKind.i64.wrap (-1)=-1:=by decide
 clear h6 h5;refine X1 ?_;exact Xe
theorem X9n (f:Fl) (s:St) (last:Bool) (hv:f.vars.length≤1000000000) (hb:s.bounds.length≤1000000000) (e:Nat):
  Con Tryz.prog 186 true [aF f,aS s,lb last] (.v (lb (shB f.vars f.hats.length s.do_ s.var s.n s.term s.then_.length s.else_.length s.bounds last))) none e:=by
 obtain⟨vars,hats,body⟩:=f;obtain⟨d,c,v,n,t,a,b,bs⟩:=s;simp only[St.do_,St.var,St.n,St.term,St.then_,St.else_,St.bounds]at hb⊢;simp only at hv;have c1:=Xaj t;have c2:=X8h bs hb;have c3:=uV_con d;have c4:=uN_con d;have c5:=uT_con d;have hgood:=@sh_good vars hats.length d v n t a.length b.length bs last;have hbad:=@sh_bad vars hats.length d v n t a.length b.length bs last;have hrise:ZA bs=((decide (1≤bs.length)&&(decide (bs.length≤32)&&X4y bs))&&X4c bs):=rfl;rw[hrise]at hgood;clear hrise;generalize shB vars hats.length d v n t a.length b.length bs last=SH at*;generalize uVB d=UV at*;generalize uNB d=UN at*;generalize uTB d=UT at*;generalize WA t=P at*;generalize X4c bs=R at*;obtain⟨LO,hLO⟩:∃p,QR vars v=p:=⟨_,rfl⟩;rw[hLO]at hgood hbad;obtain⟨o,tn,ks⟩:=t;obtain⟨la,hla⟩:∃k,a.length=k:=⟨_,rfl⟩;obtain⟨lc,hlc⟩:∃k,b.length=k:=⟨_,rfl⟩;obtain⟨nb,hnb⟩:∃k,bs.length=k:=⟨_,rfl⟩;obtain⟨nv,hnv⟩:∃k,vars.length=k:=⟨_,rfl⟩;obtain⟨nh,hnh⟩:∃k,hats.length=k:=⟨_,rfl⟩;rw[hla,hlc,hnb,hnh]at hgood hbad;simp only[aT,Tm.enc,List.map_cons,List.map_nil]at c1;refine X5 Tryz.func186 ?_;simp only[Tryz.f186];simp only[aF,aS,Fl.enc,St.enc,Tm.enc,List.map_cons,List.map_nil,List.cons_append,List.nil_append];refine X1 ?_;refine X1 ?_;refine(XV [2,4,7] (fun(z:Unit)=>[]) (fun(z:Unit)=>[(4,.box [.c (iC d),.c (iC c),.c (iC v),.c (iC n),.c (iC o),.c (iC tn),.c (.sl 3 (XI ks)),.c (.sl 10 (X8 a)),.c (.sl 10 (X8 b)),.c (.sl 1 (Xi bs))])]) (fun(z:Unit)=>SH=(decide (d≠6)||(last&&((decide (0<nb)&&(decide (nb≤32)&&X4y bs))&&R)))) ?_ ?_)
 ·
  refine X3<|(XV [2,4,7] (fun(z:Bool)=>[(10,.v (lb z))]) (fun(z:Bool)=>[(4,.box [.c (iC d),.c (iC c),.c (iC v),.c (iC n),.c (iC o),.c (iC tn),.c (.sl 3 (XI ks)),.c (.sl 10 (X8 a)),.c (.sl 10 (X8 b)),.c (.sl 1 (Xi bs))])]) (fun(z:Bool)=>z=decide (badP UV UN UT P LO d v n la lc nb nh)) ?_ ?_)
  ·
   refine X1 ?_;refine(X7 rfl (fun h5=>Xb ?_) (fun h5=>?_))
   · (try simp only[BN]at h5);exact⟨true,(decide_eq_true (h5.elim .inl (fun h=>.inr (.inl h)))).symm,X4 (fun n=>n) []⟩
   (try simp only[BN]at h5);refine Xm [⟨true,.v (lb UV),none⟩] ?_ ?_
   · first|exact c3 _|exact trivial|simpa[*]using c3 _
   refine(X7 rfl (fun h8=>Xb ?_) (fun h8=>?_))
   · (try simp only[BN]at h8);exact⟨true,(decide_eq_true (.inr (.inr (.inl h8)))).symm,X4 (fun n=>n) []⟩
   (try simp only[BN]at h8);refine Xm [⟨true,.v (lb UN),none⟩] ?_ ?_
   · first|exact c4 _|exact trivial|simpa[*]using c4 _
   refine(X7 rfl (fun h11=>Xb ?_) (fun h11=>?_))
   · (try simp only[BN]at h11);exact⟨true,(decide_eq_true (.inr (.inr (.inr (.inl h11))))).symm,X4 (fun n=>n) []⟩
   (try simp only[BN]at h11);refine XV [2,3,4,7] (fun(z:Bool)=>[(10,.v (lb z))]) (fun(z:Bool)=>[(3,.box [.c (.sl 5 (Xu vars)),.c (.sl 6 (Xv hats)),.c (.sl 10 (X8 body))]),(4,.box [.c (iC d),.c (iC c),.c (iC v),.c (iC n),.c (iC o),.c (iC tn),.c (.sl 3 (XI ks)),.c (.sl 10 (X8 a)),.c (.sl 10 (X8 b)),.c (.sl 1 (Xi bs))])]) (fun(z:Bool)=>z=(!UT&& !P)) ?_ ?_
   · rcases(show UT=false∨UT=true by cases UT<;>simp)with hUT|hUT
     · refine W7 [⟨true,.v (lb false),none⟩,⟨true,.v (lb P),none⟩] (by simp[*];first|exact⟨rfl,Iff.rfl⟩|exact⟨rfl,trivial⟩|rfl) ?_ ?_
       · (repeat' first|exact trivial|(simpa[hUT]using c5 _)|exact c1 _|apply And.intro)
       exact⟨!P,by simp[hUT],X4 (fun n=>n) []⟩
     refine X0F [some ⟨true,.v (lb true),none⟩,none] (by simp[*];first|exact⟨rfl,Iff.rfl⟩|exact⟨rfl,trivial⟩|rfl) ?_ ?_
     · first|exact trivial|(simpa[hUT]using c5 _)
     exact⟨false,by simp[hUT],X4 (fun n=>n) []⟩
   rintro LUT hLUT;simp only[upS,X6,XB]
   try simp only[X6,KN,Nat.reduceBEq,if_true,if_false,ins,Nat.reduceLT]
   refine(X7 rfl (fun h14=>Xb ?_) (fun h14=>?_))
   · (try simp only[BN]at h14);rw[hLUT,Bool.and_eq_true,Bool.not_eq_true',Bool.not_eq_true']at h14;exact⟨true,(decide_eq_true (.inr (.inr (.inr (.inr (.inl h14)))))).symm,X4 (fun n=>n) []⟩
   (try simp only[BN]at h14);refine X1 ?_;refine(X7 rfl (fun h17=>Xb ?_) (fun h17=>?_))
   · (try simp only[BN]at h17);exact⟨true,(decide_eq_true (.inr (.inr (.inr (.inr (.inr (.inl ⟨h17.1,by omega⟩))))))).symm,X4 (fun n=>n) []⟩
   (try simp only[BN]at h17);refine X1 ?_;refine(X7 rfl (fun h20=>Xb ?_) (fun h20=>?_))
   · (try simp only[BN]at h20);exact⟨true,(decide_eq_true (.inr (.inr (.inr (.inr (.inr (.inr (.inl ⟨h20.1,by omega⟩)))))))).symm,X4 (fun n=>n) []⟩
   (try simp only[BN]at h20);refine X1 ?_;refine(X7 rfl (fun h23=>Xb ?_) (fun h23=>?_))
   · (try simp only[BN]at h23);exact⟨true,(decide_eq_true (.inr (.inr (.inr (.inr (.inr (.inr (.inr (.inl ⟨h23.1,by omega⟩))))))))).symm,X4 (fun n=>n) []⟩
   (try simp only[BN]at h23);refine XV [2,3,4,7] (fun(z:Bool)=>[(10,.v (lb z))]) (fun(z:Bool)=>[(3,.box [.c (.sl 5 (Xu vars)),.c (.sl 6 (Xv hats)),.c (.sl 10 (X8 body))]),(4,.box [.c (iC d),.c (iC c),.c (iC v),.c (iC n),.c (iC o),.c (iC tn),.c (.sl 3 (XI ks)),.c (.sl 10 (X8 a)),.c (.sl 10 (X8 b)),.c (.sl 1 (Xi bs))])]) (fun(z:Bool)=>z=(UV&& !LO)) ?_ ?_
   · by_cases h0:0≤v
     · have h3:¬v<0:=by omega
       by_cases h1:v<vars.length
       · obtain⟨w,hw⟩:=X3k ⟨h0,h1⟩;have h2:¬(nv:Int)≤v:=by omega
         have hz:LO=decide (w.kind=0):=by rw[←hLO];unfold QR;rw[hw];simp[h0]
         subst hz;clear h1;refine W7 [⟨true,.v (lb UV),none⟩] (by simp[*];first|exact⟨rfl,Iff.rfl⟩|exact⟨rfl,trivial⟩|rfl) ?_ ?_
         · first|exact c3 _|exact trivial
         exact⟨UV&& !decide (w.kind=0),rfl,X4 (fun n=>n) []⟩
       have hw:=X0Q h0 h1;have h2:(nv:Int)≤v:=by omega
       have hz:LO=false:=by rw[←hLO];unfold QR;rw[hw];simp
       subst hz;clear h1;refine W7 [⟨true,.v (lb UV),none⟩] (by simp[*];first|exact⟨rfl,Iff.rfl⟩|exact⟨rfl,trivial⟩|rfl) ?_ ?_
       · first|exact c3 _|exact trivial
       exact⟨UV&& !false,rfl,X4 (fun n=>n) []⟩
     have h3:v<0:=by omega
     have hz:LO=false:=by rw[←hLO];unfold QR;simp[h0]
     subst hz;refine W7 [⟨true,.v (lb UV),none⟩] (by simp[*];first|exact⟨rfl,Iff.rfl⟩|exact⟨rfl,trivial⟩|rfl) ?_ ?_
     · first|exact c3 _|exact trivial
     exact⟨UV&& !false,rfl,X4 (fun n=>n) []⟩
   rintro LOU hLOU;simp only[upS,X6,XB]
   try simp only[X6,KN,Nat.reduceBEq,if_true,if_false,ins,Nat.reduceLT]
   refine(X7 rfl (fun h26=>Xb ?_) (fun h26=>?_))
   · (try simp only[BN]at h26);rw[hLOU,Bool.and_eq_true,Bool.not_eq_true']at h26;exact⟨true,(decide_eq_true (.inr (.inr (.inr (.inr (.inr (.inr (.inr (.inr (.inl h26)))))))))).symm,X4 (fun n=>n) []⟩
   try simp only[BN]at h26
   have hz:decide (badP UV UN UT P LO d v n la lc nb nh)=(decide (d=5)&&(decide (n<0)||decide ((nh:Int)≤n))):=by
    rw[hLOU]at h26;rw[Bool.eq_iff_iff,decide_eq_true_eq];unfold badP;simp only[Bool.and_eq_true,Bool.or_eq_true,decide_eq_true_eq];constructor
    · rintro(h|h|h|h|h|h|h|h|h|h)
      · omega
      · omega
      · exact absurd h8 (by simp[h.1,h.2])
      · exact absurd h11 (by simp[h.1,h.2])
      · rw[hLUT,h.1,h.2]at h14;cases h14
      · omega
      · omega
      · omega
      · exact absurd h26 (by simp[h.1,h.2])
      exact h
    exact fun h=>.inr (.inr (.inr (.inr (.inr (.inr (.inr (.inr (.inr h))))))))
   refine X2 ?_;exact⟨(decide (d=5)&&(decide (n<0)||decide ((nh:Int)≤n))),hz.symm,X4 (fun n=>n) []⟩
  rintro _ rfl;simp only[upS,X6,XB]
  try simp only[X6,KN,Nat.reduceBEq,if_true,if_false,ins,Nat.reduceLT]
  refine(Xc rfl (fun h30=>?_) fun h30=>?_)
  · (try simp only[BN]at h30);have hz:=hbad h30;clear hgood hbad;refine X1 ?_;exact Xe
  (try simp only[BN]at h30);have hz:=hgood h30;clear hgood hbad;exact⟨(),hz,X4 (fun n=>n) []⟩
 rintro _ hz;simp only[upS,X6,XB]
 try simp only[X6,KN,Nat.reduceBEq,if_true,if_false,ins,Nat.reduceLT]
 clear hgood hbad;rcases X9M bs with h0|⟨b0,hb0⟩
 · subst h0;have hh:X4y []=false:=rfl;replace hnb:nb=0:=hnb.symm;subst hnb;rw[hh]at hz;refine Xm [⟨true,.v (lb R),none⟩] ?_ ?_
   · first|exact c2 _|exact trivial|simpa[*]using c2 _
   exact(Xh (fun h=>⟨.inr rfl,h⟩) _ (by simp[*];rfl) (by first|(simp[*,XK,Bool.and_assoc];done)|rfl) (by simp))
 have hh:X4y bs=decide (0≤b0):=by unfold X4y;rw[hb0]
 rw[hh]at hz;have e32:decide ((nb:Int)≤32)=decide (nb≤32):=by rw[decide_eq_decide];omega
 refine Xm [⟨true,.v (lb R),none⟩] ?_ ?_
 · first|exact c2 _|exact trivial|simpa[*]using c2 _
 exact(Xh (fun h=>⟨.inr rfl,h⟩) _ (by simp[*];rfl) (by rw[hz];simp[XK,e32,Bool.and_assoc]) (by simp))
end Go.Proofs.YtdajceakaakdoaaGreat

namespace Go.Proofs.YtdajceakaakdoaaGreat
open Go Go.Hl
def stC (vars:List Vr) (nh:Nat) (d c v n:Int) (t:Tm) (la lc:Nat) (bs:List Int) (last:Bool):Int:=
 if shB vars nh d v n t la lc bs last=false then 1 else if X2w d c n bs=false then 3 else X0E vars false t
def ssC (vars:List Vr) (nh:Nat):List St→Bool→Int
 |[],_=>0
 | .mk d c v n t a b bs::l,top=>
   if stC vars nh d c v n t a.length b.length bs (top&&l.isEmpty)=0 then
    (if ssC vars nh a false=0 then(if ssC vars nh b false=0 then ssC vars nh l top else ssC vars nh b false)else ssC vars nh a false)
   else stC vars nh d c v n t a.length b.length bs (top&&l.isEmpty)
mutual
def X3i:St→Bool
 | .mk _ _ _ _ _ a b bs=>decide (bs.length≤1000000000)&&(Z3 a&&Z3 b)
def Z3:List St→Bool
 |[]=>true
 |s::l=>X3i s&&Z3 l
end
theorem X58 {l:List St} (h:Z3 l=true) {s:St} (hs:s∈l):X3i s=true:=by
 induction l with
 |nil=>cases hs
 | cons x l ih=>
   simp only[Z3,Bool.and_eq_true]at h;rcases List.mem_cons.1 hs with rfl|h1
   · exact h.1
   exact ih h.2 h1
theorem X6c {vars:List Vr} {nh:Nat} {d v n:Int} {t:Tm} {la lc:Nat} {bs:List Int} {last:Bool} (h:shB vars nh d v n t la lc bs last=true):(d=6→bs≠[])∧(d≠6→bs=[])∧(n<0→d=4):=by
 have hr:ZA bs=true→1≤bs.length:=by
  intro h;unfold ZA at h;simp only[Bool.and_eq_true,decide_eq_true_eq]at h;omega
 have hb:bs≠[]↔1≤bs.length:=by cases bs<;>simp
 have hb2:bs=[]↔bs.length=0:=by cases bs<;>simp
 rw[hb,hb2];unfold shB at h;generalize ZA bs=R at*;generalize bs.length=nb at*
 (repeat' split at h)<;>(try simp only[Bool.and_eq_true,decide_eq_true_eq]at h)<;>(try have:=hr h.2)<;>(try cases h)<;>refine⟨fun h=>?_,fun h=>?_,fun h=>?_⟩<;>omega
theorem X6D {l:List St} {k:Nat} (h:k+1≤l.length):(l.drop (k+1)).isEmpty=decide ((k:Int)=(l.length:Int) - 1):=by
 rw[Bool.eq_iff_iff,List.isEmpty_iff,List.drop_eq_nil_iff,decide_eq_true_eq];omega
def fnz (vars:List Vr) (nh:Nat):List (List St)→Int
 |[]=>0
 |x::r=>if ssC vars nh x false=0 then fnz vars nh r else ssC vars nh x false
theorem Xac (f:Fl) (hv:X08 f.vars) (hl:f.vars.length≤1000000) (l:List St):Xl l≤1000000000→Z3 l=true→∀(top:Bool) (d:Nat),
  Con Tryz.prog 117 true [aF f,lS l,lb top] (.v (li (ssC f.vars f.hats.length l top))) none d:=by
 revert l
 apply St.lists;intro l ih hn hbn top d;have hlen:=Qx l;obtain⟨res,hres⟩:∃r,ssC f.vars f.hats.length l top=r:=⟨_,rfl⟩;rw[hres];have csh:=fun s last hb=>X9n f s last (by omega) hb;obtain⟨vars,hats,body⟩:=f;simp only at hv hl hres ih csh;refine X5 Tryz.func117 ?_;simp only[Tryz.f117];simp only[aF,Fl.enc,List.map_cons,List.map_nil];refine X1 ?_;refine X0<|X0<|X2 ?_;refine X3<|(Xf [1,2,3,13,14] (fun(x:Nat)=>[(15,.v (li x))]) (fun x=>[(3,.box [.c (.sl 5 (Xu vars)),.c (.sl 6 (Xv hats)),.c (.sl 10 (X8 body))])]) (fun x=>x≤l.length∧ssC vars hats.length (l.drop x) top=res) (fun x=>l.length - x) (0:Nat) ⟨Nat.zero_le _,hres⟩ ?_ ?_)
 · exact X4 (fun n=>n) []
 rintro k ⟨hk,hJ⟩;simp only[upS,X6,XB]
 try simp only[X6,KN,Nat.reduceBEq,if_true,if_false,ins,Nat.reduceLT]
 clear hres;refine X1 ?_;refine X0<|(X7 rfl (fun h4=>Xb ?_) (fun h4=>?_))
 · (try simp only[BN]at h4);have hlt:k<l.length:=by omega
   obtain⟨s,he,hd⟩:=Xt hlt;have hmem:s∈l:=List.mem_of_getElem? he;have hnm:=QT hmem;have hbm:=X58 hbn hmem;have iha:=fun h h2=>(ih s hmem).1 h h2;have ihb:=fun h h2=>(ih s hmem).2 h h2;have hw1:=XE hlt (by omega);have hw2:IntKind.i64.wrap ((l.length:Int) - 1)=(l.length:Int) - 1:=Xa (by omega) (by omega);have hk1:k+1≤l.length:=hlt;have hla:=X6D hk1;rw[hd]at hJ;have ct:=X6e vars false hv (by omega) s.term;have csh1:=csh s (top&&decide ((k:Int)=(l.length:Int) - 1));have cnu:=numP_con s;obtain⟨sd,sc,sv,sn,⟨so,stn,sks⟩,sa,sb,sbs⟩:=s;simp only[St.then_,St.else_,St.term,St.bounds,St.do_,St.var,St.n,St.cost]at iha ihb hnm ct csh1 cnu;simp only[X3i,Bool.and_eq_true,decide_eq_true_eq]at hbm;simp only[ssC,hla]at hJ;have ca:=iha (by omega) hbm.2.1;have cb:=ihb (by omega) hbm.2.2;have ct:=ct (by omega);have csh1:=csh1 hbm.1;have cnu:=cnu hbm.1;have he':=Q5 he;simp only[St.enc,Tm.enc,List.cons_append,List.nil_append]at he';simp only[aF,Fl.enc,aS,St.enc,Tm.enc,List.map_cons,List.map_nil,List.cons_append,List.nil_append]at csh1 ca cb cnu;have hshb:=@X6c vars hats.length sd sv sn (.mk so stn sks) sa.length sb.length sbs (top&&decide ((k:Int)=(l.length:Int) - 1));obtain⟨SH,hSH⟩:∃x,shB vars hats.length sd sv sn (.mk so stn sks) sa.length sb.length sbs (top&&decide ((k:Int)=(l.length:Int) - 1))=x:=⟨_,rfl⟩;obtain⟨NU,hNU⟩:∃x,X2w sd sc sn sbs=x:=⟨_,rfl⟩;obtain⟨TC,hTC⟩:∃x,X0E vars false (.mk so stn sks)=x:=⟨_,rfl⟩;obtain⟨SC,hSC⟩:∃x,stC vars hats.length sd sc sv sn (.mk so stn sks) sa.length sb.length sbs (top&&decide ((k:Int)=(l.length:Int) - 1))=x:=⟨_,rfl⟩;rw[hSC]at hJ;unfold stC at hSC;rw[hSH]at csh1 hshb hSC;rw[hNU]at cnu hSC;rw[hTC]at ct hSC
   have hlc2:∀x∈[sa,sb],∀d,Con Tryz.prog 117 true [.agg [.c (.sl 5 (Xu vars)),.c (.sl 6 (Xv hats)),.c (.sl 10 (X8 body))],lS x,lb false] (.v (li (ssC vars hats.length x false))) none d:=by
    intro x hx;simp only[List.mem_cons,List.not_mem_nil,or_false]at hx;rcases hx with rfl|rfl
    · exact ca false
    exact cb false
   have hfn:(if ssC vars hats.length sa false=0 then(if ssC vars hats.length sb false=0 then ssC vars hats.length (l.drop (k+1)) top else ssC vars hats.length sb false)else ssC vars hats.length sa false)=(if fnz vars hats.length [sa,sb]=0 then ssC vars hats.length (l.drop (k+1)) top else fnz vars hats.length [sa,sb]):=by
    simp only[fnz];by_cases h1:ssC vars hats.length sa false=0<;>by_cases h2:ssC vars hats.length sb false=0<;>simp[h1,h2]
   rw[hfn]at hJ;obtain⟨LL,hLL⟩:∃x,x=[sa,sb]:=⟨_,rfl⟩;rw[←hLL]at hJ hlc2;obtain⟨FN,hFN⟩:∃x,fnz vars hats.length LL=x:=⟨_,rfl⟩;rw[hFN]at hJ;have hrows:LL.map (fun x=>[CD.sl 10 (X8 x)])=[[.sl 10 (X8 sa)],[.sl 10 (X8 sb)]]:=by rw[hLL];rfl
   have hL2:LL.length=2:=by rw[hLL];rfl
   clear hlt h4 iha ihb ih hmem hnm hd he hbm hSH hNU hTC ca cb hfn hLL csh hla;refine X0<|X3<|X0<|X2 ?_;refine X0<|X0<|(Xp [⟨true,.v (lb SH),none⟩] ?_ ?_)
   · first|exact csh1 _|exact trivial|simpa[*]using csh1 _
   refine(Xc rfl (fun h7=>?_) fun h7=>?_)
   · (try simp only[BN]at h7);rw[if_pos h7]at hSC;subst hSC;rw[if_neg (by decide)]at hJ;subst hJ;refine X1 ?_;exact Xe
   (try simp only[BN]at h7);rw[if_neg (by simp[h7])]at hSC;have hsb:=hshb h7;have cnu2:=cnu hsb.1 hsb.2.1;clear cnu hshb csh1;refine X0<|X0<|(Xp [⟨true,.v (lb NU),none⟩] ?_ ?_)
   · first|exact cnu2 _|exact trivial|simpa[*]using cnu2 _
   refine(Xc rfl (fun h11=>?_) fun h11=>?_)
   · (try simp only[BN]at h11);rw[if_pos h11]at hSC;subst hSC;rw[if_neg (by decide)]at hJ;subst hJ;refine X1 ?_;exact Xe
   (try simp only[BN]at h11);rw[if_neg (by simp[h11])]at hSC;subst hSC;clear cnu2 hsb;refine X0<|X0<|(Xp [⟨true,.v (li TC),none⟩] ?_ ?_)
   · first|exact ct _|exact trivial|simpa[*]using ct _
   refine X1 ?_;refine(Xc rfl (fun h16=>?_) fun h16=>?_)
   · (try simp only[BN]at h16);rw[if_neg h16]at hJ;subst hJ;refine X1 ?_;exact Xe
   (try simp only[BN]at h16);rw[if_pos (by simpa using h16)]at hJ;clear ct;refine X1 ?_;refine X3<|(Xf [1,2,3,13,14,15,47,48] (fun(x:Nat)=>[(49,.v (li x))]) (fun x=>[(3,.box [.c (.sl 5 (Xu vars)),.c (.sl 6 (Xv hats)),.c (.sl 10 (X8 body))]),(47,.row 24 1 (LL.map fun x=>[CD.sl 10 (X8 x)]))]) (fun x=>x≤2∧fnz vars hats.length (LL.drop x)=FN) (fun x=>2 - x) (0:Nat) ⟨Nat.zero_le _,hFN⟩ ?_ ?_)
   · exact X4 (fun n=>n) []
   rintro q ⟨hq,hJ2⟩;simp only[upS,X6,XB]
   try simp only[X6,KN,Nat.reduceBEq,if_true,if_false,ins,Nat.reduceLT]
   clear hFN hrows;refine X1 ?_;refine X0<|(X7 rfl (fun h22=>Xb ?_) (fun h22=>?_))
   · (try simp only[BN]at h22);have hlt2:q<LL.length:=by omega
     obtain⟨y,hy,hdy⟩:=Xt hlt2;have hwq:=XE hlt2 (by omega);have hq1:q+1≤2:=by omega
     have cy:=hlc2 y (List.mem_of_getElem? hy);rw[hdy]at hJ2;simp only[fnz]at hJ2;generalize ssC vars hats.length y false=SY at*;clear hlt2 h22 hdy hlc2;refine X0<|X3<|X0<|X2 ?_;refine Xm [⟨true,.v (li SY),none⟩] ?_ ?_
     · first|exact cy _|exact trivial|simpa[*]using cy _
     refine X1 ?_;refine(Xc rfl (fun h26=>?_) fun h26=>?_)
     · (try simp only[BN]at h26);rw[if_neg h26]at hJ2;subst hJ2;rw[if_neg h26]at hJ;subst hJ;refine X1 ?_;exact Xe
     (try simp only[BN]at h26);rw[if_pos (by simpa using h26)]at hJ2;refine X2 ?_;exact⟨q+1,⟨hq1,hJ2⟩,by omega,X4 (fun n=>n) []⟩
   (try simp only[BN]at h22);have hq2:q=LL.length:=by omega
   rw[hq2,List.drop_length]at hJ2;simp only[fnz]at hJ2;rw[if_pos hJ2.symm]at hJ;refine(Xg ?_);refine X2 ?_;exact⟨k+1,⟨hk1,hJ⟩,by omega,X4 (fun n=>n) []⟩
 (try simp only[BN]at h4);have hkl:k=l.length:=by omega
 rw[hkl,List.drop_length]at hJ;simp only[ssC]at hJ;subst hJ;refine(Xg ?_);refine X1 ?_;exact Xe
end Go.Proofs.YtdajceakaakdoaaGreat

namespace Go.Proofs.YtdajceakaakdoaaGreat
open Go Go.Hl
theorem X9G (f:Fl) (hv:X08 f.vars) (hl:f.vars.length≤1000000) (l:List St):Xl l≤1000000000→Z3 l=true→∀(top:Bool) (d:Nat),
  Con Tryz.prog 53 true [aF f,lS l,lb top] (.v (li (ssC f.vars f.hats.length l top))) none d:=by
 revert l
 apply St.lists;intro l ih hn hbn top d;have hlen:=Qx l;obtain⟨res,hres⟩:∃r,ssC f.vars f.hats.length l top=r:=⟨_,rfl⟩;rw[hres];have csh:=fun s last hb=>X8F f s last (by omega) hb;obtain⟨vars,hats,body⟩:=f;simp only at hv hl hres ih csh;refine X5 Tryz.func53 ?_;simp only[Tryz.f53];simp only[aF,Fl.enc,List.map_cons,List.map_nil];refine X1 ?_;refine X0<|X0<|X2 ?_;refine X3<|(Xf [1,2,3] (fun(x:Nat)=>[(7,.v (li x))]) (fun x=>[(3,.box [.c (.sl 5 (Xu vars)),.c (.sl 6 (Xv hats)),.c (.sl 10 (X8 body))])]) (fun x=>x≤l.length∧ssC vars hats.length (l.drop x) top=res) (fun x=>l.length - x) (0:Nat) ⟨Nat.zero_le _,hres⟩ ?_ ?_)
 · exact X4 (fun n=>n) []
 rintro k ⟨hk,hJ⟩;simp only[upS,X6,XB]
 try simp only[X6,KN,Nat.reduceBEq,if_true,if_false,ins,Nat.reduceLT]
 clear hres;refine X0<|X0<|X2 ?_;refine(X7 rfl (fun h4=>Xb ?_) (fun h4=>?_))
 · (try simp only[BN]at h4);have hlt:k<l.length:=by omega
   obtain⟨s,he,hd⟩:=Xt hlt;have hmem:s∈l:=List.mem_of_getElem? he;have hnm:=QT hmem;have hbm:=X58 hbn hmem;have iha:=fun h h2=>(ih s hmem).1 h h2;have ihb:=fun h h2=>(ih s hmem).2 h h2;have hw1:=XE hlt (by omega);have hw2:IntKind.i64.wrap ((l.length:Int) - 1)=(l.length:Int) - 1:=Xa (by omega) (by omega);have hk1:k+1≤l.length:=hlt;have hla:=X6D hk1;rw[hd]at hJ;have ct:=X6t vars false hv (by omega) s.term;have csh1:=csh s (top&&decide ((k:Int)=(l.length:Int) - 1));obtain⟨sd,sc,sv,sn,⟨so,stn,sks⟩,sa,sb,sbs⟩:=s;simp only[St.then_,St.else_,St.term,St.bounds,St.do_,St.var,St.n,St.cost]at iha ihb hnm ct csh1;simp only[X3i,Bool.and_eq_true,decide_eq_true_eq]at hbm;simp only[ssC,hla]at hJ;have ca:=iha (by omega) hbm.2.1;have cb:=ihb (by omega) hbm.2.2;have ct:=ct (by omega);have csh1:=csh1 hbm.1;have hbl:=hbm.1;have he':=Q5 he;simp only[St.enc,Tm.enc,List.cons_append,List.nil_append]at he';simp only[aF,Fl.enc,aS,St.enc,Tm.enc,List.map_cons,List.map_nil,List.cons_append,List.nil_append]at csh1 ca cb;have hshb:=@X6c vars hats.length sd sv sn (.mk so stn sks) sa.length sb.length sbs (top&&decide ((k:Int)=(l.length:Int) - 1));obtain⟨SH,hSH⟩:∃x,shB vars hats.length sd sv sn (.mk so stn sks) sa.length sb.length sbs (top&&decide ((k:Int)=(l.length:Int) - 1))=x:=⟨_,rfl⟩;obtain⟨NU,hNU⟩:∃x,X2w sd sc sn sbs=x:=⟨_,rfl⟩;obtain⟨TC,hTC⟩:∃x,X0E vars false (.mk so stn sks)=x:=⟨_,rfl⟩;obtain⟨SC,hSC⟩:∃x,stC vars hats.length sd sc sv sn (.mk so stn sks) sa.length sb.length sbs (top&&decide ((k:Int)=(l.length:Int) - 1))=x:=⟨_,rfl⟩;rw[hSC]at hJ;unfold stC at hSC;rw[hSH]at csh1 hshb hSC;rw[hNU]at hSC;rw[hTC]at ct hSC;have ca:=fun d=>ca false d;have cb:=fun d=>cb false d;obtain⟨SA,hSA⟩:∃x,ssC vars hats.length sa false=x:=⟨_,rfl⟩;obtain⟨SB,hSB⟩:∃x,ssC vars hats.length sb false=x:=⟨_,rfl⟩;rw[hSA]at ca hJ;rw[hSB]at cb hJ;clear hlt h4 iha ihb ih hmem hnm hd he hbm hSH hTC hSA hSB csh hla;refine X0<|X3<|X0<|X2 ?_;refine X0<|X0<|(Xp [⟨true,.v (lb SH),none⟩] ?_ ?_)
   · first|exact csh1 _|exact trivial|simpa[*]using csh1 _
   refine(Xc rfl (fun h7=>?_) fun h7=>?_)
   · (try simp only[BN]at h7);rw[if_pos h7]at hSC;subst hSC;rw[if_neg (by decide)]at hJ;subst hJ;refine X1 ?_;exact Xe
   (try simp only[BN]at h7);rw[if_neg (by simp[h7])]at hSC;obtain⟨hs6,hs5,hs4⟩:=hshb h7;clear hshb csh1;refine X1 ?_;refine(XV [1,2,3,7,8] (fun(z:Int)=>[(9,.v (li z))]) (fun(z:Int)=>[(3,.box [.c (.sl 5 (Xu vars)),.c (.sl 6 (Xv hats)),.c (.sl 10 (X8 body))]),(8,.box [.c (iC sd),.c (iC sc),.c (iC sv),.c (iC sn),.c (iC so),.c (iC stn),.c (.sl 3 (XI sks)),.c (.sl 10 (X8 sa)),.c (.sl 10 (X8 sb)),.c (.sl 1 (Xi sbs))])]) (fun(z:Int)=>z=X3F sd) ?_ ?_)
   ·
    refine X1 ?_;refine(Xc rfl (fun h13=>?_) fun h13=>?_)
    · (try simp only[BN]at h13);refine X2 ?_;exact⟨67108864,by simp[X3F,h13],X4 (fun n=>n) []⟩
    (try simp only[BN]at h13);exact⟨10000,by simp[X3F,h13],X4 (fun n=>n) []⟩
   rintro M hM;simp only[upS,X6,XB]
   try simp only[X6,KN,Nat.reduceBEq,if_true,if_false,ins,Nat.reduceLT]
   refine X0<|X0<|X2 ?_;refine(Xc rfl (fun h18=>?_) fun h18=>?_)
   · try simp only[BN]at h18
     have hz:NU=false:=by
      rw[←hNU];unfold X2w;rw[←hM];simp only[Bool.and_eq_false_iff,Bool.or_eq_true,Bool.and_eq_true,Bool.not_eq_false',decide_eq_true_eq];by_cases hn0:sn<0
      · have:=hs4 hn0;omega
      omega
     rw[if_pos hz]at hSC;subst hSC;rw[if_neg (by decide)]at hJ;subst hJ;refine X1 ?_;exact Xe
   try simp only[BN]at h18
   have hz:NU=(decide (sd≠6)||X4i sbs):=by
    rw[←hNU];unfold X2w;rw[←hM]
    rw[show(!(decide (sc<0)||decide (M<sc)||(decide (sd=4)&&(decide (sn<0)||decide (4096<sn)))))=true by
     simp only[Bool.or_eq_false_iff,Bool.and_eq_false_iff,Bool.not_eq_true',decide_eq_false_iff_not]
     omega]
    rfl
   clear h18 hNU hM hs4;rcases X9M sbs with h0|⟨b0,hb0⟩
   · subst h0;have hd6:sd≠6:=fun h=>hs6 h rfl;have hw3:IntKind.i64.wrap (-1)=-1:=by decide
     have hz2:NU=true:=by rw[hz];simp[hd6]
     rw[if_neg (by simp[hz2])]at hSC;clear hs6 hs5 hz;refine X0<|X0<|X2 ?_;refine(Xc rfl (fun h22=>?_) fun h22=>?_)
     · exact absurd h22 (by simp)
     (try simp only[BN]at h22);subst hSC;refine Xm [⟨true,.v (li TC),none⟩] ?_ ?_
     · first|exact ct _|exact trivial|simpa[*]using ct _
     refine X0<|X0<|X2 ?_;refine(Xc rfl (fun h27=>?_) fun h27=>?_)
     · (try simp only[BN]at h27);rw[if_neg h27]at hJ;subst hJ;refine X1 ?_;exact Xe
     (try simp only[BN]at h27);rw[if_pos (by simpa using h27)]at hJ;refine Xm [⟨true,.v (li SA),none⟩] ?_ ?_
     · first|exact ca _|exact trivial|simpa[*]using ca _
     refine X0<|X0<|X2 ?_;refine(Xc rfl (fun h32=>?_) fun h32=>?_)
     · (try simp only[BN]at h32);rw[if_neg h32]at hJ;subst hJ;refine X1 ?_;exact Xe
     (try simp only[BN]at h32);rw[if_pos (by simpa using h32)]at hJ;refine Xm [⟨true,.v (li SB),none⟩] ?_ ?_
     · first|exact cb _|exact trivial|simpa[*]using cb _
     refine X1 ?_;refine(Xc rfl (fun h37=>?_) fun h37=>?_)
     · (try simp only[BN]at h37);rw[if_neg h37]at hJ;subst hJ;refine X1 ?_;exact Xe
     (try simp only[BN]at h37);rw[if_pos (by simpa using h37)]at hJ;refine X2 ?_;exact⟨k+1,⟨hk1,hJ⟩,by omega,X4 (fun n=>n) []⟩
   have hpos:1≤sbs.length:=(List.getElem?_eq_some_iff.1 hb0).1;obtain⟨x,hx⟩:=X6l (show sbs.length - 1<sbs.length by omega);have hd6:sd=6:=Classical.byContradiction fun h=>by rw[hs5 h]at hpos;simp at hpos
   have hw3:IntKind.i64.wrap ((sbs.length:Int) - 1)=(sbs.length:Int) - 1:=Xa (by omega) (by omega);have hw4:0≤(sbs.length:Int) - 1:=by omega
   have hw5:((sbs.length:Int) - 1).toNat=sbs.length - 1:=by omega
   have hw6:1≤(sbs.length:Int):=by omega
   have hw7:decide (0<(sbs.length:Int))=true:=decide_eq_true (by omega);have hz2:NU=decide (x≤67108864):=by rw[hz];unfold X4i;rw[hx,hd6];simp
   have hne:sbs≠[]:=by intro h;rw[h]at hpos;simp at hpos
   clear hs6 hs5 hz hb0 hpos;refine X0<|X0<|X2 ?_;refine(Xc rfl (fun h22=>?_) fun h22=>?_)
   · try simp only[BN]at h22
     have hx2:67108864<x:=by
      omega
     rw[if_pos (by rw[hz2];exact decide_eq_false (by omega))]at hSC;subst hSC;rw[if_neg (by decide)]at hJ;subst hJ;refine X1 ?_;exact Xe
   try simp only[BN]at h22
   have hx2:x≤67108864:=by
    first
     |omega
     | (rcases h22 with h|h
        · exact absurd h (by simp[hne])
        omega)
   rw[if_neg (by rw[hz2,decide_eq_true hx2];decide)]at hSC;subst hSC;refine Xm [⟨true,.v (li TC),none⟩] ?_ ?_
   · first|exact ct _|exact trivial|simpa[*]using ct _
   refine X0<|X0<|X2 ?_;refine(Xc rfl (fun h27=>?_) fun h27=>?_)
   · (try simp only[BN]at h27);rw[if_neg h27]at hJ;subst hJ;refine X1 ?_;exact Xe
   (try simp only[BN]at h27);rw[if_pos (by simpa using h27)]at hJ;refine Xm [⟨true,.v (li SA),none⟩] ?_ ?_
   · first|exact ca _|exact trivial|simpa[*]using ca _
   refine X0<|X0<|X2 ?_;refine(Xc rfl (fun h32=>?_) fun h32=>?_)
   · (try simp only[BN]at h32);rw[if_neg h32]at hJ;subst hJ;refine X1 ?_;exact Xe
   (try simp only[BN]at h32);rw[if_pos (by simpa using h32)]at hJ;refine Xm [⟨true,.v (li SB),none⟩] ?_ ?_
   · first|exact cb _|exact trivial|simpa[*]using cb _
   refine X1 ?_;refine(Xc rfl (fun h37=>?_) fun h37=>?_)
   · (try simp only[BN]at h37);rw[if_neg h37]at hJ;subst hJ;refine X1 ?_;exact Xe
   (try simp only[BN]at h37);rw[if_pos (by simpa using h37)]at hJ;refine X2 ?_;exact⟨k+1,⟨hk1,hJ⟩,by omega,X4 (fun n=>n) []⟩
 (try simp only[BN]at h4);have hkl:k=l.length:=by omega
 rw[hkl,List.drop_length]at hJ;simp only[ssC]at hJ;subst hJ;refine(Xg ?_);refine X1 ?_;exact Xe
end Go.Proofs.YtdajceakaakdoaaGreat

namespace Go.Proofs.YtdajceakaakdoaaGreat
open Go Go.Hl
abbrev wr (x:Int):Int:=IntKind.i64.wrap x
def X3N (b:Bool):Int:=if b=true then 1 else 0
def divI (a b:Int):Int:=
 if b=0 then 0 else if(!decide (a.tmod b=0)&&(decide (a<0)!=decide (b<0)))=true then wr (wr (a.tdiv b) - 1)else wr (a.tdiv b)
def modI (a b:Int):Int:=if b=0 then 0 else wr (a - wr (b*divI a b))
def binI (o a b:Int):Int:=
 if o=8 then wr (a+b)else if o=9 then wr (a - b)else if o=10 then wr (a*b)else if o=11 then divI a b else if o=12 then modI a b
 else if o=13 then X3N (decide (a=b))else if o=14 then X3N (!decide (a=b))else if o=15 then X3N (decide (a<b))else if o=16 then X3N (decide (a≤b))
 else if o=17 then X3N (decide (b<a))else if o=18 then X3N (decide (b≤a))else if o=19 then X3N (!decide (a=0)&& !decide (b=0))
 else if o=20 then X3N (!decide (a=0)|| !decide (b=0))else if o=21 then mn a b else mx a b
end Go.Proofs.YtdajceakaakdoaaGreat

namespace Go.Proofs.YtdajceakaakdoaaGreat
open Go Go.Hl
def selI (k0:Int) (len:Nat):Int:=wr (1+W3 k0 0 (wr ((len:Int) - 2)))
def valN (vs:List Int) (o n:Int) (k:List Int):Int:=
 if o=0 then n else if o=24 then(vs[n.toNat]?).getD 0 else if o=6 then wr (-((k[0]?).getD 0))else if o=7 then X3N (decide ((k[0]?).getD 0=0))
 else if o=23 then(if(k[0]?).getD 0=0 then(k[2]?).getD 0 else(k[1]?).getD 0)
 else if o=25 then(k[(selI ((k[0]?).getD 0) k.length).toNat]?).getD 0
 else binI o ((k[0]?).getD 0) ((k[1]?).getD 0)
mutual
def vT (vs:List Int):Tm→Int
 | .mk o n ks=>valN vs o n (vTs vs ks)
def vTs (vs:List Int):List Tm→List Int
 |[]=>[]
 |t::l=>vT vs t::vTs vs l
end
end Go.Proofs.YtdajceakaakdoaaGreat

namespace Go.Proofs.YtdajceakaakdoaaGreat
open Go Go.Hl
def X8u (vs:List Int) (l:List Ht):List Int:=l.map fun h=>W3 (vT vs h.term) h.low h.high
end Go.Proofs.YtdajceakaakdoaaGreat
