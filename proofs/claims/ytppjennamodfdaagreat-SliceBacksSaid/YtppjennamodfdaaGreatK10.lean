/- Part 10: contracts of functions of the program and of the reference, and plain facts about what they compute; used by the proof of the claimed statement. Conditions: as each theorem states. -/
import Derived.Test.YtppjennamodfdaaGreatK9
import Derived.Test.YtppjennamodfdaaGreatK6
import Derived.Test.YtppjennamodfdaaGreatK3
import Derived.Test.YtppjennamodfdaaGreatK5
import Derived.Test.YtppjennamodfdaaGreatK8
set_option linter.unusedSimpArgs false
set_option linter.unusedVariables false
set_option linter.unnecessarySimpa false
set_option maxRecDepth 100000
set_option maxHeartbeats 2000000
namespace Go.Proofs.YtppjennamodfdaaGreat
open Go Go.Hl
theorem Xa0 (l:List St) (s:St):X8 (l++[s])=X8 l++[s.enc]:=by
 rw[QZ,QZ,List.map_append];rfl
theorem X7E (l:List St):Xj l≤1000000→Wj l=true→∀i:Int,-5000000≤i→i≤5000000→∀d:Nat,Con Tryz.prog 103 false [lS l,li i] (.v (lS (woL l i))) none d:=by
 revert l
 apply St.lists;intro l ih hn hbn i hi0 hi1 d;have hlen:=Q5 l;have hszl:=Qu l;obtain⟨res,hres⟩:∃r,woL l i=r:=⟨_,rfl⟩;rw[hres];refine X5 Tryz.func103 ?_;simp only[Tryz.f103];refine X2 ?_;refine X2 ?_;refine X0<|X0<|X1 ?_;refine X3<|(Xb [11,12] (fun(x:Nat×Int×List St)=>[(1,.v (li x.2.1)),(5,.v (.one (.own 1003))),(13,.v (li x.1))]) (fun x=>[(1003,.row 76 10 (X8 x.2.2))]) (fun x=>x.1≤l.length∧x.2.2++woL (l.drop x.1) x.2.1=res∧x.2.2.length≤x.1∧-6000000≤x.2.1 - szL (l.drop x.1)∧x.2.1≤5000000) (fun x=>l.length - x.1) (0,i,[]) ⟨Nat.zero_le _,by simpa using hres,Nat.le_refl _,by simp only[List.drop_zero];omega,hi1⟩ ?_ ?_)
 · exact X4 (fun n=>n) [1003]
 rintro⟨k,c,acc⟩ ⟨hk,hJ,hal,hc0,hc1⟩;simp only[upS,X6,Xw]
 try simp only[X6,KN,Nat.reduceBEq,if_true,if_false,ins,Nat.reduceLT]
 simp only at hk hJ hal hc0 hc1;clear hres hi0 hi1;refine X2 ?_;refine X0<|(X7 rfl (fun h5=>X9 ?_) (fun h5=>?_))
 · (try simp only[BN]at h5);have hlt:k<l.length:=by omega
   obtain⟨s,he,hd⟩:=Xo hlt;have hw1:=Xy hlt (by omega);have hk1:k+1≤l.length:=hlt;have hmem:s∈l:=List.mem_of_getElem? he;have hnm:=Qk hmem;have hbm:=X1Q hbn hmem
   have hsz:s.nodes≤1000000:=by
    obtain⟨sd,sc,sv,sn,t,sa,sb,sbs⟩:=s;simp only[St.then_,St.else_,St.term,St.nodes]at*;omega
   have cc:=XcC s hsz hbm;rw[hd]at hJ hc0;simp only[woL]at hJ;simp only[szL]at hc0;have he':=XX he;have iha:=(ih s hmem).1 (by omega);have ihb:=(ih s hmem).2 (by omega);have hroom:Q9 (acc.length+1) 144:=Xv (by omega) (by omega);obtain⟨sd,sc,sv,sn,⟨so,stn,sks⟩,sa,sb,sbs⟩:=s;simp only[X0G,Bool.and_eq_true,decide_eq_true_eq]at hbm;simp only[St.then_,St.else_,St.term]at iha ihb hnm;have iha:=iha hbm.2.1;have ihb:=ihb hbm.2.2;have ca:=X3Q sa (by omega);have cb:=X3Q sb (by omega);have hla:=Qu sa;have hlb:=Qu sb;have hida:=ZI sa;have hidb:=ZI sb;simp only[woS,szS]at hJ;simp only[szS]at hc0;simp only[St.enc,Tm.enc,List.cons_append,List.nil_append]at he';simp only[aS,St.enc,Tm.enc,List.map_cons,List.map_nil,List.cons_append,List.nil_append]at cc;generalize szL sa=na at*;generalize szL sb=nb at*;have hwa:IntKind.i64.wrap (c - 1)=c - 1:=Xa (by omega) (by omega);have hc:c - ((1+na+nb:Nat):Int)=c - 1 - ((na:Int)+(nb:Int)):=by omega
   rw[hc]at hJ;clear hlt h5 ih hmem hd he hbm hsz hc;refine X0<|X3<|X0<|X1 ?_;refine X0<|X0<|X1 ?_;refine(Xc rfl (fun h8=>?_) fun h8=>?_)
   · (try simp only[BN]at h8);have hw2:IntKind.i64.wrap ((na:Int)+(nb:Int))=(na:Int)+(nb:Int):=Xa (by omega) (by omega);have hw3:IntKind.i64.wrap (c - 1 - ((na:Int)+(nb:Int)))=c - 1 - ((na:Int)+(nb:Int)):=Xa (by omega) (by omega);rw[if_pos (by simpa using h8),List.nil_append]at hJ;clear h8 iha ihb hida hidb cc;refine X2 ?_;refine X0<|(Q7 [⟨true,.v (li (na:Int)),none⟩,⟨true,.v (li (nb:Int)),none⟩] (by kernel_rfl) (by kernel_rfl) (by rfl) (by simp[*];first|exact⟨rfl,Iff.rfl⟩|exact⟨rfl,trivial⟩|rfl) ?_ ?_)
     · first|exact⟨ca _,cb _⟩|exact trivial|(repeat' first|exact trivial|exact ca _|exact cb _|apply And.intro)
     refine(Xf ?_);refine X1 ?_;exact⟨(k+1,c - 1 - ((na:Int)+(nb:Int)),acc),⟨hk1,hJ,by simp only;omega,by simp only;omega,by simp only;omega⟩,by simp only;omega,X4 (fun n=>n) []⟩
   (try simp only[BN]at h8);have hne:¬c=0:=by simpa using h8
   rw[if_neg hne,←List.append_assoc]at hJ;have iha:=fun h0 h1=>iha (c - 1) h0 h1;have hida:=hida (c - 1);have ihb:=fun h0 h1=>ihb (c - 1 - (na:Int)) h0 h1;have hidb:=hidb (c - 1 - (na:Int));obtain⟨A,hA⟩:∃x,woL sa (c - 1)=x:=⟨_,rfl⟩;obtain⟨B,hB⟩:∃x,woL sb (c - 1 - (na:Int))=x:=⟨_,rfl⟩;rw[hA]at iha hida hJ;rw[hB]at ihb hidb hJ;have hw4:IntKind.i64.wrap (c - 1 - (na:Int))=c - 1 - (na:Int):=Xa (by omega) (by omega);have hw5:IntKind.i64.wrap (c - 1 - (na:Int) - (nb:Int))=c - 1 - (na:Int) - (nb:Int):=Xa (by omega) (by omega);have hsn:=Xa0 acc (.mk sd sc sv sn (.mk so stn sks) A B sbs);simp only[St.enc,Tm.enc,List.cons_append,List.nil_append]at hsn;clear h8 hA hB;refine X2 ?_;refine Xh [⟨false,.v (.agg [.c (iC sd),.c (iC sc),.c (iC sv),.c (iC sn),.c (iC so),.c (iC stn),.c (.sl 3 (Xn sks)),.c (.sl 10 (X8 sa)),.c (.sl 10 (X8 sb)),.c (.sl 1 (Xi sbs))]),none⟩] ?_ ?_
   · first|exact cc _|exact trivial|simpa[*]using cc _
   refine(XL [1,5,7,8,11,12,13] (fun(z:Unit)=>[]) (fun(z:Unit)=>[(7,.box [.c (iC sd),.c (iC sc),.c (iC sv),.c (iC sn),.c (iC so),.c (iC stn),.c (.sl 3 (Xn sks)),.c (.sl 10 (X8 sa)),.c (.sl 10 (X8 sb)),.c (.sl 1 (Xi sbs))]),(8,.box [.c (iC sd),.c (iC sc),.c (iC sv),.c (iC sn),.c (iC so),.c (iC stn),.c (.sl 3 (Xn sks)),.c (.sl 10 (X8 A)),.c (.sl 10 (X8 sb)),.c (.sl 1 (Xi sbs))]),(1003,.row 76 10 (X8 acc))]) (fun(z:Unit)=>True) ?_ ?_)
   ·
    refine Xh [⟨true,.v (li (na:Int)),none⟩] ?_ ?_
    · first|exact ca _|exact trivial|simpa[*]using ca _
    refine X2 ?_;refine(Xc rfl (fun h18=>?_) fun h18=>?_)
    · try simp only[BN]at h18
      have h18':1≤c∧c - 1<(na:Int):=by
       first|omega|(simp at h18;omega)
      have iha:=iha (by omega) (by omega);refine(Xm [⟨false,.v (lS A),none⟩] ?_ ?_)
      · first|exact iha _|exact trivial|simpa[*]using iha _
      exact⟨(),trivial,X4 (fun n=>n) []⟩
    try simp only[BN]at h18
    have hAs:A=sa:=hida (by
     first|omega|(simp at h18;omega))
    clear iha hida hsn hJ;subst hAs;exact⟨(),trivial,X4 (fun n=>n) []⟩
   rintro⟨⟩ hz;simp only[upS,X6,Xw]
   try simp only[X6,KN,Nat.reduceBEq,if_true,if_false,ins,Nat.reduceLT]
   refine Xh [⟨true,.v (li (na:Int)),none⟩] ?_ ?_
   · first|exact ca _|exact trivial|simpa[*]using ca _
   refine(XL [1,5,7,8,11,12,13] (fun(z:Unit)=>[]) (fun(z:Unit)=>[(7,.box [.c (iC sd),.c (iC sc),.c (iC sv),.c (iC sn),.c (iC so),.c (iC stn),.c (.sl 3 (Xn sks)),.c (.sl 10 (X8 sa)),.c (.sl 10 (X8 sb)),.c (.sl 1 (Xi sbs))]),(8,.box [.c (iC sd),.c (iC sc),.c (iC sv),.c (iC sn),.c (iC so),.c (iC stn),.c (.sl 3 (Xn sks)),.c (.sl 10 (X8 A)),.c (.sl 10 (X8 B)),.c (.sl 1 (Xi sbs))]),(1003,.row 76 10 (X8 acc))]) (fun(z:Unit)=>True) ?_ ?_)
   ·
    refine Xh [⟨true,.v (li (nb:Int)),none⟩] ?_ ?_
    · first|exact cb _|exact trivial|simpa[*]using cb _
    refine X2 ?_;refine(Xc rfl (fun h26=>?_) fun h26=>?_)
    · try simp only[BN]at h26
      have h26':0≤c - 1 - (na:Int)∧c - 1 - (na:Int)<(nb:Int):=by
       first|omega|(simp at h26;omega)
      have ihb:=ihb (by omega) (by omega);refine(Xm [⟨false,.v (lS B),none⟩] ?_ ?_)
      · first|exact ihb _|exact trivial|simpa[*]using ihb _
      exact⟨(),trivial,X4 (fun n=>n) []⟩
    try simp only[BN]at h26
    have hBs:B=sb:=hidb (by
     first|omega|(simp at h26;omega))
    clear ihb hidb hsn hJ;subst hBs;exact⟨(),trivial,X4 (fun n=>n) []⟩
   rintro⟨⟩ hz2;simp only[upS,X6,Xw]
   try simp only[X6,KN,Nat.reduceBEq,if_true,if_false,ins,Nat.reduceLT]
   refine Xh [⟨true,.v (li (nb:Int)),none⟩] ?_ ?_
   · first|exact cb _|exact trivial|simpa[*]using cb _
   refine X1 ?_;refine X1 ?_;exact⟨(k+1,c - 1 - (na:Int) - (nb:Int),acc++[.mk sd sc sv sn (.mk so stn sks) A B sbs]),⟨hk1,by simp only;rw[show c - 1 - (na:Int) - (nb:Int)=c - 1 - ((na:Int)+(nb:Int)) by omega];exact hJ,by simp only[List.length_append,List.length_singleton];omega,by simp only;omega,by simp only;omega⟩,by simp only;omega,X4 (fun n=>if n=1003 then 77 else n) []⟩
 (try simp only[BN]at h5);have hkl:k=l.length:=by omega
 rw[hkl,List.drop_length]at hJ;simp only[woL,List.append_nil]at hJ;subst hJ;refine(Xf ?_);refine X2 ?_;exact XR ⟨.inr rfl,_,XO 1003 rfl,⟨⟨_,by simp;rfl,by simp[XK]⟩,by simp,fun h=>by cases h⟩⟩
end Go.Proofs.YtppjennamodfdaaGreat

namespace Go.Proofs.YtppjennamodfdaaGreat
open Go Go.Hl
theorem X8j (f:Fl) (hv:f.vars.length≤1000000) (hh:f.hats.length≤1000000) (ht:∀h∈f.hats,h.term.nodes≤1000000) (hn:Xj f.body≤1000000) (hb:Wj f.body=true) (i:Int) (h0:0≤i) (h1:i<(szL f.body:Int)) (d:Nat):
  Con Tryz.prog 67 false [aF f,li i] (.tup [aF ⟨f.vars,f.hats,woL f.body i⟩,li 0]) none d:=by
 have cs:=XbS f (by omega);have cv:=X62 f.vars hv;have hsl:=Qu f.body;have cw:=X7E f.body hn hb i (by omega) (by omega);obtain⟨vars,hats,body⟩:=f;simp only at hv hh ht cs cv cw h1;obtain⟨G,hG⟩:∃x,woL body i=x:=⟨_,rfl⟩;obtain⟨N,hN⟩:∃x,szL body=x:=⟨_,rfl⟩;rw[hN]at cs h1;rw[hG]at cw⊢;have hneg:¬i<0:=by omega
 have hge:¬(N:Int)≤i:=by omega
 clear hG hN hsl hn hb;refine X5 Tryz.func67 ?_;simp only[Tryz.f67];simp only[aF,Fl.enc,List.map_cons,List.map_nil]at cs⊢;refine X2 ?_;refine X0<|X0<|(Xm [⟨true,.v (li (N:Int)),none⟩] ?_ ?_)
 · first|exact cs _|exact trivial|simpa[*]using cs _
 refine(Xc rfl (fun h2=>?_) fun h2=>?_)
 · exact Bool.noConfusion h2
 (try simp only[BN]at h2);refine X0<|(Q7 [⟨false,.v (lV vars),none⟩,⟨false,.v (lS G),none⟩] (by kernel_rfl) (by kernel_rfl) (by rfl) (by simp[*,XA,Qb,XN];first|exact⟨rfl,Iff.rfl⟩|exact⟨rfl,trivial⟩|rfl) ?_ ?_)
 · first|exact⟨cv _,cw _⟩|exact trivial|(repeat' first|exact trivial|exact cv _|exact cw _|apply And.intro)
 refine X0<|X0<|X1 ?_;refine X3<|(Xb [4,6,27,28] (fun(x:Nat)=>[(29,.v (li x))]) (fun x=>[(4,.box [.c (.lit XU),.c (.lit XU),.c (.lit XU)]),(6,.box [.c (.sl 5 (Xr vars)),.own 900001,.c (.sl 10 (X8 G))]),(900001,.row 99 6 (Xs (hats.take x)))]) (fun x=>x≤hats.length) (fun x=>hats.length - x) (0:Nat) (Nat.zero_le _) ?_ ?_)
 · exact X4 (fun n=>n) [900001]
 rintro k hk;simp only[upS,X6,Xw]
 try simp only[X6,KN,Nat.reduceBEq,if_true,if_false,ins,Nat.reduceLT]
 refine X2 ?_;refine X0<|(X7 rfl (fun h9=>X9 ?_) (fun h9=>?_))
 · (try simp only[BN]at h9);have hlt:k<hats.length:=by omega
   obtain⟨h,he,hd⟩:=Xo hlt;have hw1:=Xy hlt (by omega);have hk1:k+1≤hats.length:=hlt;have hmem:h∈hats:=List.mem_of_getElem? he;have ct:=X6Z h.term (ht h hmem);have htl:(hats.take k).length=k:=by rw[List.length_take];omega
   have hroom:Q9 (k+1) 72:=Xv (by omega) (by omega)
   have hsn:Xs (hats.take (k+1))=Xs (hats.take k)++[h.enc]:=by
    unfold Xs;rw[List.take_add_one,he,Option.toList_some,List.map_append];rfl
   have he':(Xs hats)[k]? =some h.enc:=by simp[he]
   obtain⟨hnm,hlo,hhi,⟨ho,htn,hks⟩⟩:=h;simp only[aT,Tm.enc,List.map_cons,List.map_nil]at ct;simp only[Ht.enc,Tm.enc,List.cons_append,List.nil_append]at hsn he';clear hlt h9 hmem hd he ht cs cv cw;refine X0<|X3<|X0<|X1 ?_;refine Xh [⟨false,.v (.agg [.c (iC ho),.c (iC htn),.c (.sl 3 (Xn hks))]),none⟩] ?_ ?_
   · first|exact ct _|exact trivial|simpa[*]using ct _
   refine X1 ?_;refine X1 ?_;exact⟨k+1,hk1,by omega,X4 (fun n=>if n=900001 then 41 else n) []⟩
 (try simp only[BN]at h9);have hkl:k=hats.length:=by omega
 subst hkl;simp only[List.take_length];refine(Xf ?_);refine Xz (XO 900001 rfl) ?_;refine X2 ?_;exact XR ⟨.inr rfl,_,le_refl _,⟨⟨_,by simp;rfl,by simp[XK]⟩,by simp,fun h=>by cases h⟩⟩
end Go.Proofs.YtppjennamodfdaaGreat

namespace Go.Proofs.YtppjennamodfdaaGreat
open Go Go.Hl
end Go.Proofs.YtppjennamodfdaaGreat

namespace Go.Proofs.YtppjennamodfdaaGreat
open Go Go.Hl
theorem X5a:∀(l:List St) (i:Int),i<0→X1o l i=none
 |[],i,h=>X3b i
 | .mk d c v n t a b bs::l,i,h=>by
   rw[X0T];rw[if_neg (by omega),X5a a _ (by omega)];simp only;rw[X5a b _ (by omega)];simp only;exact X5a l _ (by omega)
theorem X0Z:∀(l:List St) (i:Int),(szL l:Int)≤i→X1o l i=none
 |[],i,h=>X3b i
 | .mk d c v n t a b bs::l,i,h=>by
   simp only[szL,szS]at h;rw[X0T];rw[if_neg (by omega),X0Z a _ (by omega)];simp only;rw[X0Z b _ (by omega)];simp only;exact X0Z l _ (by omega)
theorem X0S:∀(l:List St) (i:Int),0≤i→i<(szL l:Int)→∃s,X1o l i=some s∧s.nodes≤Xj l∧(Wj l=true→X0G s=true)∧i+szS s≤szL l∧szL (woL l i)+szS s=szL l
 |[],i,h0,h=>by simp only[szL]at h;omega
 | .mk d c v n t a b bs::l,i,h0,h=>by
   simp only[szL,szS]at h;rw[X0T];split
   · rename_i e;subst e;refine⟨_,rfl,?_,?_,?_,?_⟩
     · simp only[Xj];omega
     · intro hb;simp only[Wj,Bool.and_eq_true]at hb;exact hb.1
     · simp only[szL,szS];omega
     simp only[woL,if_pos,List.nil_append,szL];rw[ZI l _ (by have:=X8b (.mk d c v n t a b bs);omega)];omega
   rename_i e;by_cases ha:i - 1<(szL a:Int)
   · obtain⟨s,h1,h2,h3,h4,h5⟩:=X0S a (i - 1) (by omega) ha;rw[h1];refine⟨s,rfl,?_,?_,?_,?_⟩
     · simp only[Xj,St.nodes];omega
     · intro hb;simp only[Wj,X0G,Bool.and_eq_true]at hb;exact h3 hb.1.2.1
     · simp only[szL,szS];omega
     simp only[woL,if_neg e,woS,List.cons_append,List.nil_append,szL,szS];rw[ZI b _ (by omega),ZI l _ (by omega)];omega
   rw[X0Z a _ (by omega)];simp only;by_cases hb:i - 1 - (szL a:Int)<(szL b:Int)
   · obtain⟨s,h1,h2,h3,h4,h5⟩:=X0S b (i - 1 - szL a) (by omega) hb;rw[h1];refine⟨s,rfl,?_,?_,?_,?_⟩
     · simp only[Xj,St.nodes];omega
     · intro hb;simp only[Wj,X0G,Bool.and_eq_true]at hb;exact h3 hb.1.2.2
     · simp only[szL,szS];omega
     simp only[woL,if_neg e,woS,List.cons_append,List.nil_append,szL,szS];rw[ZI a _ (by omega),ZI l _ (by omega)];omega
   rw[X0Z b _ (by omega)];simp only;obtain⟨s,h1,h2,h3,h4,h5⟩:=X0S l (i - 1 - szL a - szL b) (by omega) (by omega);rw[h1];refine⟨s,rfl,?_,?_,?_,?_⟩
   · simp only[Xj];omega
   · intro hb;simp only[Wj,Bool.and_eq_true]at hb;exact h3 hb.2
   · simp only[szL,szS];omega
   simp only[woL,if_neg e,woS,List.cons_append,List.nil_append,szL,szS];rw[ZI a _ (by omega),ZI b _ (by omega),show i - ((1+szL a+szL b:Nat):Int)=i - 1 - szL a - szL b by omega];omega
theorem X72 (l:List St):Xj l≤1000000→∀(i:Int) (s:St),0≤i→i≤5000000→X1o l i=some s→∀d:Nat,Con Tryz.prog 85 false [lS l,li i] (.tup [aS s,lb true]) none d:=by
 revert l
 apply St.lists;intro l ih hn i s hi0 hi1 hf d;have hlen:=Q5 l;have hneg:¬i<0:=by omega
 obtain⟨rd,rc,rv,rn,⟨ro,rtn,rks⟩,ra,rb,rbs⟩:=s;refine X5 Tryz.func85 ?_;simp only[Tryz.f85];simp only[aS,St.enc,Tm.enc,List.map_cons,List.map_nil,List.cons_append,List.nil_append];refine X2 ?_;refine X0<|X0<|X1 ?_;refine(Xc rfl (fun h2=>?_) fun h2=>?_)
 · exact absurd h2 (by simp[hneg])
 (try simp only[BN]at h2);refine X0<|X0<|X1 ?_;refine X3<|(Xb [0,4] (fun(x:Nat×Int)=>[(1,.v (li x.2)),(6,.v (li x.1))]) (fun x=>[(4,.box [.c (iC 0),.c (iC 0),.c (iC 0),.c (iC 0),.c (iC 0),.c (iC 0),.c (.lit XU),.c (.lit XU),.c (.lit XU),.c (.lit XU)])]) (fun x=>x.1≤l.length∧X1o (l.drop x.1) x.2=some (.mk rd rc rv rn (.mk ro rtn rks) ra rb rbs)∧0≤x.2∧x.2≤5000000) (fun x=>l.length - x.1) (0,i) ⟨Nat.zero_le _,hf,hi0,hi1⟩ ?_ ?_)
 · exact X4 (fun n=>n) []
 rintro⟨k,c⟩ ⟨hk,hJ,hc0,hc1⟩;simp only[upS,X6,Xw]
 try simp only[X6,KN,Nat.reduceBEq,if_true,if_false,ins,Nat.reduceLT]
 simp only at hk hJ hc0 hc1;clear hf hi0 hi1 hneg h2;refine X0<|X0<|X1 ?_;refine(X7 rfl (fun h8=>X9 ?_) (fun h8=>?_))
 · (try simp only[BN]at h8);have hlt:k<l.length:=by omega
   obtain⟨s,he,hd⟩:=Xo hlt;have hw1:=Xy hlt (by omega);have hk1:k+1≤l.length:=hlt;have hmem:s∈l:=List.mem_of_getElem? he;have hnm:=Qk hmem;rw[hd]at hJ;have he':=XX he;have iha:=(ih s hmem).1 (by omega);have ihb:=(ih s hmem).2 (by omega);obtain⟨sd,sc,sv,sn,⟨so,stn,sks⟩,sa,sb,sbs⟩:=s;simp only[St.then_,St.else_,St.term]at iha ihb hnm;have ca:=QO sa (by omega);have cb:=QO sb (by omega);have hga:=X0Z sa (c - 1);have hna:=X5a sa (c - 1);have hla:=Qu sa;have hlb:=Qu sb;have hsa:=X0S sa (c - 1);have hsb:=X0S sb (c - 1 - (szL sa:Int));have hgb:=X0Z sb (c - 1 - (szL sa:Int));rw[X0T]at hJ;simp only[St.enc,Tm.enc,List.cons_append,List.nil_append]at he';simp only[aS,St.enc,Tm.enc,List.map_cons,List.map_nil,List.cons_append,List.nil_append]at iha ihb;generalize szL sa=na at*;generalize szL sb=nb at*;clear hlt h8 ih hmem hd he;refine X0<|X3<|X0<|X0<|X1 ?_;refine(Xc rfl (fun h10=>?_) fun h10=>?_)
   · (try simp only[BN]at h10);rw[if_pos (by simpa using h10)]at hJ;cases hJ;clear h10;refine X2 ?_;exact XR ⟨.inr rfl,_,le_refl _,⟨⟨_,by simp;rfl,by simp[XK]⟩,by simp,fun h=>by cases h⟩⟩
   (try simp only[BN]at h10);have hne:¬c=0:=by simpa using h10
   rw[if_neg hne]at hJ;have hwa:IntKind.i64.wrap (c - 1)=c - 1:=Xa (by omega) (by omega);have hwb:IntKind.i64.wrap (c - 1 - (na:Int))=c - 1 - (na:Int):=Xa (by omega) (by omega);have hwc:IntKind.i64.wrap (c - 1 - (na:Int) - (nb:Int))=c - 1 - (na:Int) - (nb:Int):=Xa (by omega) (by omega);clear h10;refine X2 ?_;refine Xh [⟨true,.v (li (na:Int)),none⟩] ?_ ?_
   · first|exact ca _|exact trivial|simpa[*]using ca _
   refine X0<|X0<|X1 ?_;refine(Xc rfl (fun h16=>?_) fun h16=>?_)
   · try simp only[BN]at h16
     have h16':c - 1<(na:Int):=by
      first|omega|(simp at h16;omega)
     obtain⟨y,hy,_⟩:=hsa (by omega) h16';rw[hy]at hJ;simp only[Option.some.injEq]at hJ;subst hJ;have ci:=iha _ _ (by omega) (by omega) hy;clear h16 hna hga hgb hsb hsa hy iha ihb;refine Xh [⟨false,.tup [.agg [.c (iC rd),.c (iC rc),.c (iC rv),.c (iC rn),.c (iC ro),.c (iC rtn),.c (.sl 3 (Xn rks)),.c (.sl 10 (X8 ra)),.c (.sl 10 (X8 rb)),.c (.sl 1 (Xi rbs))],lb true],none⟩] ?_ ?_
     · first|exact ci _|exact trivial|simpa[*]using ci _
     exact XR ⟨.inr rfl,_,le_refl _,⟨⟨_,by simp;rfl,by simp[XK]⟩,by simp,fun h=>by cases h⟩⟩
   try simp only[BN]at h16
   have h16':(na:Int)≤c - 1:=by
    first|omega|(simp at h16;omega)
   rw[hga h16']at hJ;simp only at hJ;clear h16;refine X2 ?_;refine Xh [⟨true,.v (li (nb:Int)),none⟩] ?_ ?_
   · first|exact cb _|exact trivial|simpa[*]using cb _
   refine X0<|X0<|X1 ?_;refine(Xc rfl (fun h22=>?_) fun h22=>?_)
   · try simp only[BN]at h22
     have h22':c - 1 - (na:Int)<(nb:Int):=by
      first|omega|(simp at h22;omega)
     obtain⟨y,hy,_⟩:=hsb (by omega) h22';rw[hy]at hJ;simp only[Option.some.injEq]at hJ;subst hJ;have ci:=ihb _ _ (by omega) (by omega) hy;clear h22 hna hga hgb hsb hsa hy iha ihb;refine Xh [⟨false,.tup [.agg [.c (iC rd),.c (iC rc),.c (iC rv),.c (iC rn),.c (iC ro),.c (iC rtn),.c (.sl 3 (Xn rks)),.c (.sl 10 (X8 ra)),.c (.sl 10 (X8 rb)),.c (.sl 1 (Xi rbs))],lb true],none⟩] ?_ ?_
     · first|exact ci _|exact trivial|simpa[*]using ci _
     exact XR ⟨.inr rfl,_,le_refl _,⟨⟨_,by simp;rfl,by simp[XK]⟩,by simp,fun h=>by cases h⟩⟩
   try simp only[BN]at h22
   have h22':(nb:Int)≤c - 1 - (na:Int):=by
    first|omega|(simp at h22;omega)
   rw[hgb h22']at hJ;simp only at hJ;clear h22 hna hga hgb hsb hsa iha ihb;refine X1 ?_;refine X1 ?_;exact⟨(k+1,c - 1 - (na:Int) - (nb:Int)),⟨hk1,hJ,by simp only;omega,by simp only;omega⟩,by simp only;omega,X4 (fun n=>n) []⟩
 exfalso;simp only[BN]at h8;have hkl:k=l.length:=by omega
 rw[hkl,List.drop_length,X3b]at hJ;cases hJ
end Go.Proofs.YtppjennamodfdaaGreat

namespace Go.Proofs.YtppjennamodfdaaGreat
open Go Go.Hl
def pgL (q:List Int):Nat→List St→List St
 |0,b=>b
 |i+1,b=>pgL q i (if(i:Int)∈q then b else woL b i)
def pgF (f:Fl) (q:List Int):Fl:=⟨f.vars,f.hats,pgL q (szL f.body) f.body⟩
theorem woL_sz {l:List St} {i:Nat} (h:i<szL l):i≤szL (woL l i):=by
 obtain⟨s,_,_,_,h1,h2⟩:=X0S l i (by omega) (by omega);omega
set_option maxHeartbeats 16000000 in
theorem X9s (f:Fl) (h:Sm f) (q:List Int) (hq:q.length≤100000) (d:Nat):Con Tryz.prog 27 false [aF f,.one (.c (.sl 1 (Xi q)))] (.tup [if Wk f [q]=0 then aF (pgF f q)else .agg [.c (.lit XU),.c (.lit XU),.c (.lit XU)],li (Wk f [q])]) none d:=by
 have ca:=ZV f h [q] (by simp) (fun q' hq'=>by rw[List.mem_singleton.1 hq'];omega);have hv:=h.vars;have hh:=h.hats;have hno:=h.nodes;have hbd:=h.bnd;have hsz:=h.sz;have hfl:=XT f.body;obtain⟨C,hC⟩:∃x,Wk f [q]=x:=⟨_,rfl⟩;unfold askT at ca;simp only[X3O,List.map_cons,List.map_nil]at ca;rw[hC]at ca⊢;clear h hC;by_cases hz:C=0
 · subst hz;have hTab:X5I f=ZG f (flL f.body) (arL f.body (-1) 0) (rdT f):=rfl;rw[hTab]at ca;simp only[if_true]at ca⊢;obtain⟨S,hS⟩:∃x,flL f.body=x:=⟨_,rfl⟩;obtain⟨A,hA⟩:∃x,arL f.body (-1) 0=x:=⟨_,rfl⟩;obtain⟨Rd,hRd⟩:∃x,rdT f=x:=⟨_,rfl⟩;rw[hS,hA,hRd]at ca;rw[hS]at hfl;unfold pgF;obtain⟨vars,hats,body⟩:=f;simp only at hv hh hno hbd hsz hfl⊢;have hht:∀h∈hats,h.term.nodes≤1000000:=fun h hm=>by have:=X0b hm;omega
   have hcn:=fun i=>X55 q i (by omega);have crm:=fun(b:List St) (h1:Xj b≤Xj body) h2 (i:Nat) (h3:i+1≤szL b)=>X8j ⟨vars,hats,b⟩ (by simp only;omega) (by simp only;omega) hht (by simp only;omega) h2 i (by omega) (by simp only;omega);have cfr:=fun(b:List St) (h1:Xj b≤Xj body) h2=>Xc9 ⟨vars,hats,b⟩ ⟨hv,hh,by simp only;omega,h2⟩;simp only[aF,Fl.enc,List.map_cons,List.map_nil]at ca crm cfr⊢;obtain⟨res,hres⟩:∃x,pgL q (szL body) body=x:=⟨_,rfl⟩;rw[hres];rw[←hfl]at hres hsz;have hfl2:S.length≤szL body:=by omega
   clear hht hTab hS hA hRd hfl;refine X5 Tryz.func27 ?_;simp only[Tryz.f27];refine X2 ?_;refine X0<|(QN 3 [] [⟨false,.tup [.one (.c (ZG ⟨vars,hats,body⟩ S A Rd)),li 0],none⟩] (by simp[*];rfl) trivial (XO 13 rfl) (by simp[*];first|exact⟨rfl,Iff.rfl⟩|exact⟨rfl,trivial⟩|rfl) ?_ ?_)
   · first|exact ca _|simpa using ca _
   refine X0<|X0<|X1 ?_;refine(Xc rfl (fun h3=>?_) fun h3=>?_)
   · exact absurd h3 (by simp)
   (try simp only[BN]at h3);refine X2 ?_;have hw0:IntKind.i64.wrap ((S.length:Int) - 1)=(S.length:Int) - 1:=Xa (by omega) (by omega);refine X0<|X0<|X1 ?_;refine X3<|(Xb [1,4,8] (fun(u:Nat×List St)=>[(9,.v (li ((u.1:Int) - 1)))]) (fun u=>[(4,.box [.c (.lit XU),.c (.lit XU),.c (.lit XU)]),(8,.box [.c (.sl 5 (Xr vars)),.c (.sl 6 (Xs hats)),.c (.sl 10 (X8 u.2))])]) (fun u=>pgL q u.1 u.2=res∧Xj u.2≤Xj body∧Wj u.2=true∧u.1≤szL u.2∧u.1≤1000) (fun u=>u.1) (S.length,body) ⟨hres,Nat.le_refl _,hbd,by simp only;omega,by simp only;omega⟩ ?_ ?_)
   · exact X4 (fun n=>n) []
   rintro⟨k,b⟩ ⟨hJ,j1,j2,j3,j4⟩;simp only[upS,X6,Xw]
   try simp only[X6,KN,Nat.reduceBEq,if_true,if_false,ins,Nat.reduceLT]
   simp only at hJ j1 j2 j3 j4;clear hres ca hw0;obtain⟨x,hx⟩:∃x:Int,(k:Int) - 1=x:=⟨_,rfl⟩;rw[hx];refine X0<|X0<|X1 ?_;refine(X7 rfl (fun h10=>X9 ?_) (fun h10=>?_))
   · (try simp only[BN]at h10);have hx0:0≤x:=by simpa using h10
     obtain⟨i,rfl⟩:∃i:Nat,x=i:=⟨x.toNat,by omega⟩;obtain rfl:k=i+1:=by omega
     have cn:=hcn (i:Int);have hw1:IntKind.i64.wrap ((i:Int) - 1)=(i:Int) - 1:=Xa (by omega) (by omega);have cr:=crm b j1 j2 i j3;have g1:=Nat.le_trans (X27 b i) j1;have g2:=X2U b i j2;have g3:=woL_sz (l:=b) (i:=i) (by omega);simp only[pgL]at hJ;obtain⟨z,hz⟩:∃z,decide ((i:Int)∈q)=z:=⟨_,rfl⟩;rw[hz]at cn;obtain⟨b2,hb2⟩:∃x,woL b i=x:=⟨_,rfl⟩;rw[hb2]at cr g1 g2 g3 hJ;clear hx hx0 h10 hcn crm cfr hb2;refine X0<|X3<|X0<|X0<|(Xm [⟨true,.v (lb z),none⟩] ?_ ?_)
     · first|exact cn _|exact trivial|simpa[*]using cn _
     refine(Xc rfl (fun h12=>?_) fun h12=>?_)
     · (try simp only[BN]at h12);have hzt:z=true:=by simpa using h12
       rw[if_pos (of_decide_eq_true (hz.trans hzt))]at hJ;clear h12 hz cr cn;refine(Xf ?_);refine X1 ?_;exact⟨(i,b),⟨hJ,j1,j2,by simp only;omega,by simp only;omega⟩,by simp only;omega,X4 (fun n=>n) []⟩
     (try simp only[BN]at h12);have hzt:z=false:=by simpa using h12
     rw[if_neg (of_decide_eq_false (hz.trans hzt))]at hJ;clear h12 hz cn;refine X0<|(QS [⟨false,.tup [.agg [.c (.sl 5 (Xr vars)),.c (.sl 6 (Xs hats)),.c (.sl 10 (X8 b2))],li 0],none⟩] (by simp[*,XA,Qb,XN,cellsOf,Qc];first|exact⟨rfl,Iff.rfl⟩|exact⟨rfl,trivial⟩|rfl) ?_ ?_)
     · first|exact cr _|exact trivial|simpa[*,XA,Qb,XN,cellsOf,Qc]using cr _
     refine X2 ?_;refine(Xc rfl (fun h17=>?_) fun h17=>?_)
     · exact absurd h17 (by simp)
     (try simp only[BN]at h17);refine X1 ?_;exact⟨(i,b2),⟨hJ,g1,g2,g3,by simp only;omega⟩,by simp only;omega,X4 (fun n=>n) []⟩
   (try simp only[BN]at h10);have hx0:¬0≤x:=by simpa using h10
   obtain rfl:k=0:=by omega
   simp only[pgL]at hJ;subst hJ;have cf:=cfr b j1 j2;clear hx hx0 h10 hcn crm cfr;refine(Xf ?_);refine Xh [⟨false,.v (.agg [.c (.sl 5 (Xr vars)),.c (.sl 6 (Xs hats)),.c (.sl 10 (X8 b))]),none⟩] ?_ ?_
   · first|exact cf _|exact trivial|simpa[*]using cf _
   exact Xe
 simp only[if_neg hz]at ca⊢;clear hv hh hno hbd hsz hfl;obtain⟨vars,hats,body⟩:=f;simp only[aF,Fl.enc,List.map_cons,List.map_nil]at ca⊢;refine X5 Tryz.func27 ?_;simp only[Tryz.f27];refine X2 ?_;refine X0<|(QN 3 [] [⟨false,.tup [.one (.c (.lit (.pointer none))),li C],none⟩] (by simp[*];rfl) trivial (XO 13 rfl) (by simp[*];first|exact⟨rfl,Iff.rfl⟩|exact⟨rfl,trivial⟩|rfl) ?_ ?_)
 · first|exact ca _|simpa using ca _
 refine X0<|X0<|X1 ?_;refine(Xc rfl (fun h3=>?_) fun h3=>?_)
 · (try simp only[BN]at h3);refine X2 ?_;exact Xe
 exact absurd h3 (by simp[hz])
end Go.Proofs.YtppjennamodfdaaGreat

namespace Go.Proofs.YtppjennamodfdaaGreat
open Go Go.Hl
def ofK (vars:List Vr) (kind:Int):List Vr:=vars.filter fun v=>decide (v.kind=kind)
theorem ofK_good {vars:List Vr} (h:ZZ vars) (kind:Int):ZZ (ofK vars kind):=fun v hv=>h v (List.mem_filter.1 hv).1
theorem ofK_len (vars:List Vr) (kind:Int):(ofK vars kind).length≤vars.length:=List.length_filter_le _ _
theorem of13_con (vars:List Vr) (kind:Int) (hl:vars.length≤1000000) (d:Nat):Con Tryz.prog 121 false [lV vars,li kind] (.v (lV (ofK vars kind))) none d:=by
 obtain⟨S,hS⟩:∃S,ofK vars kind=S:=⟨_,rfl⟩;rw[hS];unfold ofK at hS;refine X5 Tryz.func121 ?_;simp only[Tryz.f121];refine X2 ?_;refine X2 ?_;refine X0<|X0<|X1 ?_;refine X3<|(Xb [0,1] (fun(x:Nat×List Vr)=>[(5,.v (.one (.own 1005))),(6,.v (li x.1))]) (fun x=>[(1005,.row 64 5 (Xr x.2))]) (fun x=>x.1≤vars.length∧x.2=(vars.take x.1).filter fun v=>decide (v.kind=kind)) (fun x=>vars.length - x.1) (0,[]) ⟨Nat.zero_le _,by simp⟩ ?_ ?_)
 · exact X4 (fun n=>if n=1005 then 7 else n) []
 rintro⟨k,acc⟩ ⟨hk,hJ⟩;simp only[upS,X6,Xw]
 try simp only[X6,KN,Nat.reduceBEq,if_true,if_false,ins,Nat.reduceLT]
 simp only at hk hJ;replace hJ:=hJ.symm;refine X0<|X0<|X1 ?_;refine(X7 rfl (fun h5=>X9 ?_) (fun h5=>?_))
 · (try simp only[BN]at h5);have hlt:k<vars.length:=by omega
   obtain⟨v,he,hd⟩:=Xo hlt;have hw1:=Xy hlt (by omega);have hk1:k+1≤vars.length:=hlt;have ht:=ZS he;generalize hT:(vars.take k).filter (fun v=>decide (v.kind=kind))=T at hJ
   have hal:acc.length≤k:=by
    rw[←hJ,←hT];exact Nat.le_trans (List.length_filter_le _ _) (by rw[List.length_take];omega)
   have hroom:Q9 (acc.length+1) 48:=Xv (by omega) (by omega);clear hlt h5 hS;refine X0<|X3<|X0<|X1 ?_;refine(Xc rfl (fun h7=>?_) fun h7=>?_)
   · (try simp only[BN]at h7);have hf:(vars.take (k+1)).filter (fun v=>decide (v.kind=kind))=acc++[v]:=by rw[ht,List.filter_append,hT,hJ,List.filter_cons_of_pos (by simpa using h7)];simp
     refine X1 ?_;refine X1 ?_;exact⟨(k+1,acc++[v]),⟨hk1,hf.symm⟩,by simp only;omega,X4 (fun n=>if n=1005 then 27 else n) []⟩
   (try simp only[BN]at h7);have hf:(vars.take (k+1)).filter (fun v=>decide (v.kind=kind))=acc:=by rw[ht,List.filter_append,hT,hJ,List.filter_cons_of_neg (by simpa using h7)];simp
   refine X1 ?_;exact⟨(k+1,acc),⟨hk1,hf.symm⟩,by simp only;omega,X4 (fun n=>n) []⟩
 (try simp only[BN]at h5);have hkl:k=vars.length:=by omega
 rw[hkl,List.take_length,hS]at hJ;subst hJ;clear hS;refine(Xf ?_);refine X2 ?_;exact XR ⟨.inr rfl,_,XO 1005 rfl,⟨⟨_,by simp;rfl,by simp[XK]⟩,by simp,fun h=>by cases h⟩⟩
theorem X9a (vars:List Vr) (kind:Int) (hkd:1≤kind∧kind≤3) (hv:ZZ vars) (hl:vars.length≤1000000) (hs:spc vars kind≤4096) (d:Nat):
  Con Tryz.prog 79 true [lV vars,li kind] (.tup [li (spc vars kind),li 0]) none d:=by
 have co:=of13_con vars kind hl;have hg:=ofK_good hv kind;have hn:=ofK_len vars kind;unfold spc at*;change prV (ofK vars kind) 1≤4096 at hs;change Con _ _ _ _ (.tup [li (prV (ofK vars kind) 1),li 0]) _ _;obtain⟨res,hres⟩:∃r,prV (ofK vars kind) 1=r:=⟨_,rfl⟩;rw[hres]at hs⊢;obtain⟨S,hS⟩:∃S,ofK vars kind=S:=⟨_,rfl⟩;rw[hS]at co hg hn hres;clear hS hv;refine X5 Tryz.func79 ?_;simp only[Tryz.f79];refine X2 ?_;refine X0<|X0<|X1 ?_;refine(Xc rfl (fun h2=>?_) fun h2=>?_)
 · exfalso;simp at h2;omega
 (try simp only[BN]at h2);refine Xh [⟨false,.v (lV S),none⟩] ?_ ?_
 · first|exact co _|exact trivial|simpa[*]using co _
 refine X0<|X0<|X1 ?_;refine X3<|(Xb [6] (fun(x:Nat)=>[(7,.v (li x))]) (fun x=>[]) (fun x=>x≤S.length) (fun x=>S.length - x) (0:Nat) (Nat.zero_le _) ?_ ?_)
 · exact X4 (fun n=>n) []
 rintro k hk;simp only[upS,X6,Xw]
 try simp only[X6,KN,Nat.reduceBEq,if_true,if_false,ins,Nat.reduceLT]
 clear co;refine X0<|X0<|X1 ?_;refine(X7 rfl (fun h9=>X9 ?_) (fun h9=>?_))
 · (try simp only[BN]at h9);have hlt:k<S.length:=by omega
   obtain⟨v,he,hd⟩:=Xo hlt;have hw1:=Xy hlt (by omega);have hk1:k+1≤S.length:=hlt;have hb:=hg v (List.mem_of_getElem? he);clear hlt h9 hg hres;refine X0<|X3<|X0<|(Q4 (by kernel_rfl) (by kernel_rfl) (by rfl) (by simp[*];rfl) ?_);refine(Xc rfl (fun h11=>?_) fun h11=>?_)
   · exfalso;simp at h11;omega
   (try simp only[BN]at h11);refine X1 ?_;exact⟨k+1,hk1,by omega,X4 (fun n=>n) []⟩
 (try simp only[BN]at h9);clear h9 hk;refine(Xf ?_);refine X2 ?_;refine X0<|X0<|X1 ?_;refine X3<|(Xb [6] (fun(x:Nat×Int)=>[(8,.v (li x.2)),(9,.v (li x.1))]) (fun x=>[]) (fun x=>x.1≤S.length∧prV (S.drop x.1) x.2=res∧1≤x.2∧x.2≤4096) (fun x=>S.length - x.1) (0,1) ⟨Nat.zero_le _,hres,by decide,by decide⟩ ?_ ?_)
 · exact X4 (fun n=>n) []
 rintro⟨k,n⟩ ⟨hk,hJ,hn1,hn2⟩;simp only[upS,X6,Xw]
 try simp only[X6,KN,Nat.reduceBEq,if_true,if_false,ins,Nat.reduceLT]
 simp only at hk hJ hn1 hn2;clear hres;refine X0<|X0<|X1 ?_;refine(X7 rfl (fun h20=>X9 ?_) (fun h20=>?_))
 · (try simp only[BN]at h20);have hlt:k<S.length:=by omega
   obtain⟨v,he,hd⟩:=Xo hlt;have hw1:=Xy hlt (by omega);have hk1:k+1≤S.length:=hlt;have hmem:v∈S:=List.mem_of_getElem? he;have hsz:=sz_in hg hmem;have hm:=X7C ⟨hn1,hn2⟩ hsz;have hb:=hg v hmem;have hw2:IntKind.i64.wrap (v.high - v.low)=v.high - v.low:=Xa (by omega) (by omega);have hw3:IntKind.i64.wrap (v.high - v.low+1)=sz v:=by rw[Xa (by omega) (by omega)];rfl
   have hw4:IntKind.i64.wrap (n*sz v)=n*sz v:=Xa (by omega) (by omega);rw[hd]at hJ;simp only[prV]at hJ;clear hlt h20 hg;refine X0<|X3<|X0<|(Q4 (by kernel_rfl) (by kernel_rfl) (by rfl) (by simp[*];rfl) ?_);refine X2 ?_;refine(Xc rfl (fun h23=>?_) fun h23=>?_)
   · exfalso;rw[if_pos (by simpa using h23)]at hJ;omega
   (try simp only[BN]at h23);rw[if_neg (by simpa using h23)]at hJ;refine X1 ?_;exact⟨(k+1,n*sz v),⟨hk1,hJ,hm.1,by simp only;omega⟩,by simp only;omega,X4 (fun n=>n) []⟩
 (try simp only[BN]at h20);have hkl:k=S.length:=by omega
 rw[hkl,List.drop_length]at hJ;simp only[prV]at hJ;subst hJ;refine(Xf ?_);refine X2 ?_;exact Xe
end Go.Proofs.YtppjennamodfdaaGreat

namespace Go.Proofs.YtppjennamodfdaaGreat
open Go Go.Hl
def Inp.enc (i:Inp):List CD:=[.sl 1 (Xi i.s),.sl 1 (Xi i.p),.sl 1 (Xi i.r)]
def X1B (l:List Inp):List (List CD):=l.map Inp.enc
@[simp] theorem encNms_app (a b:List Inp):X1B (a++b)=X1B a++X1B b:=by simp[X1B]
@[simp] theorem encNms_len (l:List Inp):(X1B l).length=l.length:=by simp[X1B]
@[simp] theorem get_encNm (l:List Inp) (i:Nat):(X1B l)[i]? =l[i]?.map Inp.enc:=by simp[X1B]
end Go.Proofs.YtppjennamodfdaaGreat

namespace Go.Proofs.YtppjennamodfdaaGreat
open Go Go.Hl
mutual
def tL:Tm→Int→Int
 | .mk _ _ ks,left=>tLs ks (left - 1)
def tLs:List Tm→Int→Int
 |[],left=>left
 |t::l,left=>if 0≤left then tLs l (tL t left)else left
end
def lo1 (x:Int):Int:=if x<0 then x else -1
mutual
theorem X67:∀(t:Tm) (left:Int),lo1 (left - 1)≤tL t left∧tL t left≤left - 1
 | .mk _ _ ks,left=>by
   simp only[tL];exact Xac ks (left - 1)
theorem Xac:∀(l:List Tm) (left:Int),lo1 left≤tLs l left∧tLs l left≤left
 | [],left=>by
   simp only[tLs,lo1];split<;>omega
 | t ::l,left=>by
   simp only[tLs];split
   · have h1:=X67 t left;have h2:=Xac l (tL t left);unfold lo1 at*;refine⟨?_,by omega⟩;split
     · omega
     refine Int.le_trans ?_ h2.1;split<;>(try split at h1)<;>omega
   unfold lo1;split<;>omega
end
theorem tLs_neg (l:List Tm) (left:Int) (h:left<0):tLs l left=left:=by
 cases l with
 |nil=>rfl
 |cons t l=>simp only[tLs];rw[if_neg (by omega)]
mutual
theorem XaR:∀(t:Tm) (left:Int),0≤tL t left→tL t left=left - t.nodes
 | .mk _ _ ks,left=>by
   simp only[tL,Tm.nodes];intro h;have:=Xbp ks (left - 1) h;omega
theorem Xbp:∀(l:List Tm) (left:Int),0≤tLs l left→tLs l left=left - Qp l
 |[],left=>by simp[tLs,Qp]
 | t::l,left=>by
   simp only[tLs,Qp];split
   · intro h;have h1:=Xbp l (tL t left) h;have h2:=Xac l (tL t left);have h3:=XaR t left (by omega);omega
   intro h;omega
end
def sL:List St→Int→Int
 |[],left=>left
 | .mk _ _ _ _ t a b bs::l,left=>
   if 0≤left then(if tL t (left - 1)<bs.length then -1 else sL l (sL b (sL a (tL t (left - 1) - bs.length))))else left
theorem sL_neg (l:List St) (left:Int) (h:left<0):sL l left=left:=by
 cases l with
 |nil=>simp[sL]
 |cons s l=>obtain⟨d,c,v,n,t,a,b,bs⟩:=s;simp only[sL];rw[if_neg (by omega)]
theorem X3E:∀(l:List St) (left:Int),lo1 left≤sL l left∧sL l left≤left
 | [],left=>by
   simp only[sL,lo1];split<;>omega
 | .mk _ _ _ _ t a b bs::l,left=>by
   simp only[sL];by_cases h0:0≤left
   · rw[if_pos h0];have e:lo1 left=-1:=by unfold lo1;rw[if_neg (by omega)]
     rw[e];split
     · omega
     have h1:=X67 t (left - 1);have ha:=X3E a (tL t (left - 1) - bs.length);have hb:=X3E b (sL a (tL t (left - 1) - bs.length));have hl:=X3E l (sL b (sL a (tL t (left - 1) - bs.length)));refine⟨?_,by omega⟩;generalize sL l (sL b (sL a (tL t (left - 1) - bs.length)))=z at*;generalize sL b (sL a (tL t (left - 1) - bs.length))=y at*;generalize sL a (tL t (left - 1) - bs.length)=x at*;generalize tL t (left - 1)=w at*;unfold lo1 at ha hb hl
     (repeat' split at ha)<;>(repeat' split at hb)<;>(repeat' split at hl)<;>omega
   rw[if_neg h0];unfold lo1;split<;>omega
theorem X7K:∀(l:List St) (left:Int),left≤1000000→0≤sL l left→sL l left≤left - Xj l∧Wj l=true
 |[],left,_,_=>by simp[sL,Xj,Wj]
 | .mk _ _ _ _ t a b bs::l,left,hle,h=>by
   simp only[sL]at h⊢;by_cases h0:0≤left
   · rw[if_pos h0]at h⊢;split at h
     · omega
     rename_i hbs;rw[if_neg hbs];have i0:=X67 t (left - 1);have ia:=X3E a (tL t (left - 1) - bs.length);have ib:=X3E b (sL a (tL t (left - 1) - bs.length));have il:=X3E l (sL b (sL a (tL t (left - 1) - bs.length)));have p3:=X7K l (sL b (sL a (tL t (left - 1) - bs.length))) (by omega) h;have p2:=X7K b (sL a (tL t (left - 1) - bs.length)) (by omega) (by omega);have p1:=X7K a (tL t (left - 1) - bs.length) (by omega) (by omega);have p0:=XaR t (left - 1) (by omega);simp only[Xj,St.nodes,Wj,X0G,p1.2,p2.2,p3.2,Bool.and_true,decide_eq_true_eq];omega
   rw[if_neg h0]at h;omega
def hL:List Ht→Int→Int
 |[],m=>m
 |h::l,m=>hL l (tL h.term m)
theorem hL_le:∀(l:List Ht) (m:Int),hL l m≤m
 |[],m=>by simp[hL]
 | h::l,m=>by
   have h1:=hL_le l (tL h.term m);have h2:=X67 h.term m;simp only[hL];omega
theorem hL_pos:∀(l:List Ht) (m:Int),0≤hL l m→hL l m=m - QE l
 |[],m,_=>by simp[hL,QE]
 | h::l,m,h0=>by
   simp only[hL,QE]at h0⊢;have h1:=hL_pos l _ h0;have h2:=hL_le l (tL h.term m);have h3:=XaR h.term m (by omega);omega
def X1l (f:Fl) (vars nodes:Int):Bool:=if vars<f.vars.length∨vars<f.hats.length then false else decide (0≤hL f.hats (sL f.body nodes))
theorem X7A {f:Fl} {vars nodes:Int} (hn:nodes≤1000000) (h:X1l f vars nodes=true):f.vars.length≤vars∧f.hats.length≤vars∧Xj f.body+QE f.hats≤nodes∧Wj f.body=true:=by
 unfold X1l at h;split at h
 · cases h
 rename_i h1;simp only[decide_eq_true_eq]at h;have e1:=hL_pos _ _ h;have e2:=hL_le f.hats (sL f.body nodes);have e3:=X7K f.body nodes hn (by omega);exact⟨by omega,by omega,by omega,e3.2⟩
theorem X6L (t:Tm):∀left:Int,-1000000≤left→left≤1000000→∀d:Nat,Con Tryz.prog 78 true [aT t,li left] (.v (li (tL t left))) none d:=by
 induction t using Tm.ind with
 |h o n ks ih=>
 intro left h1 h2 d;obtain⟨res,hres⟩:∃r,tL (.mk o n ks) left=r:=⟨_,rfl⟩;rw[hres];simp only[tL]at hres;have hw0:IntKind.i64.wrap (left - 1)=left - 1:=Xa (by omega) (by omega);refine X5 Tryz.func78 ?_;simp only[Tryz.f78];simp only[aT,Tm.enc];refine X2 ?_;refine X2 ?_;refine X0<|X0<|X1 ?_;refine X3<|(Xb [2] (fun(x:Nat×Int)=>[(1,.v (li x.2)),(5,.v (li x.1))]) (fun x=>[(2,.box [.c (iC o),.c (iC n),.c (.sl 3 (Xn ks))])]) (fun x=>x.1≤ks.length∧tLs (ks.drop x.1) x.2=res∧-1000001≤x.2∧x.2+x.1≤1000000) (fun x=>ks.length - x.1) (0,left - 1) ⟨Nat.zero_le _,by simpa using hres,by simp only;omega,by simp only;omega⟩ ?_ ?_)
 · exact X4 (fun n=>n) []
 rintro⟨k,m⟩ ⟨hk,hJ,hm,hm2⟩;simp only[upS,X6,Xw]
 try simp only[X6,KN,Nat.reduceBEq,if_true,if_false,ins,Nat.reduceLT]
 simp only at hk hJ hm hm2;refine X0<|X0<|X1 ?_;refine(X7 rfl (fun h5=>X9 ?_) (fun h5=>?_))
 · (try simp only[BN]at h5);have hlt:k<ks.length:=by omega
   have hm0:0≤m:=by omega
   obtain⟨⟨eo,en,ek⟩,he,hd⟩:=Xo hlt;have he':=Wn he;simp only[Tm.enc]at he';have hw1:IntKind.i64.wrap ((k:Int)+1)=(k:Int)+1:=Xa (by omega) (by omega);rw[hd]at hJ;simp only[tLs]at hJ;rw[if_pos hm0]at hJ;have hk1:k+1≤ks.length:=hlt;have c:=ih _ (List.mem_of_getElem? he) m (by omega) (by omega);have hti:=X67 (.mk eo en ek) m;have hlo:-1≤lo1 (m - 1):=by unfold lo1;split<;>omega
   obtain⟨M,hM⟩:∃x,tL (.mk eo en ek) m=x:=⟨_,rfl⟩;rw[hM]at c hJ hti;clear hlt h5 hM ih hd;refine X0<|X3<|(Xm [⟨true,.v (li M),none⟩] ?_ ?_)
   · first|exact c _|exact trivial|simpa[*]using c _
   refine X1 ?_;exact⟨(k+1,M),⟨hk1,hJ,by simp only;omega,by simp only;omega⟩,by simp only;omega,X4 (fun n=>n) []⟩
 try simp only[BN]at h5
 have hz:tLs (ks.drop k) m=m:=by
  by_cases hm0:m<0
  · exact tLs_neg _ _ hm0
  have hkl:k=ks.length:=by omega
  rw[hkl,List.drop_length];rfl
 rw[hz]at hJ;subst hJ;refine(Xf ?_);refine X2 ?_;exact Xe
theorem XbX (l:List St):∀left:Int,-1000000≤left→left≤1000000→∀d:Nat,Con Tryz.prog 77 true [lS l,li left] (.v (li (sL l left))) none d:=by
 revert l
 apply St.lists;intro l ih left h1 h2 d;obtain⟨res,hres⟩:∃r,sL l left=r:=⟨_,rfl⟩;rw[hres];refine X5 Tryz.func77 ?_;simp only[Tryz.f77];refine X2 ?_;refine X0<|X0<|X1 ?_;refine X3<|(Xb [0] (fun(x:Nat×Int)=>[(1,.v (li x.2)),(5,.v (li x.1))]) (fun x=>[]) (fun x=>x.1≤l.length∧sL (l.drop x.1) x.2=res∧-1000001≤x.2∧x.2+x.1≤1000000) (fun x=>l.length - x.1) (0,left) ⟨Nat.zero_le _,hres,by simp only;omega,by simp only;omega⟩ ?_ ?_)
 · exact X4 (fun n=>n) []
 rintro⟨k,m⟩ ⟨hk,hJ,hm,hm2⟩;simp only[upS,X6,Xw]
 try simp only[X6,KN,Nat.reduceBEq,if_true,if_false,ins,Nat.reduceLT]
 simp only at hk hJ hm hm2;clear hres;refine X0<|X0<|X1 ?_;refine(X7 rfl (fun h4=>X9 ?_) (fun h4=>?_))
 · (try simp only[BN]at h4);have hlt:k<l.length:=by omega
   have hm0:0≤m:=by omega
   obtain⟨s,he,hd⟩:=Xo hlt;have hmem:s∈l:=List.mem_of_getElem? he;have iha:=(ih s hmem).1;have ihb:=(ih s hmem).2;have hw1:IntKind.i64.wrap ((k:Int)+1)=(k:Int)+1:=Xa (by omega) (by omega);have hk1:k+1≤l.length:=hlt;have he':=XX he;obtain⟨sd,sc,sv,sn,⟨so,stn,sks⟩,sa,sb,sbs⟩:=s;simp only[St.then_,St.else_]at iha ihb;simp only[St.enc,Tm.enc,List.cons_append,List.nil_append]at he';rw[hd]at hJ;simp only[sL]at hJ;rw[if_pos hm0]at hJ;have hw2:IntKind.i64.wrap (m - 1)=m - 1:=Xa (by omega) (by omega);have c:=X6L (.mk so stn sks) (m - 1) (by omega) (by omega);have hti:=X67 (.mk so stn sks) (m - 1);have hlo:-2≤lo1 (m - 1 - 1):=by unfold lo1;split<;>omega
   obtain⟨M,hM⟩:∃x,tL (.mk so stn sks) (m - 1)=x:=⟨_,rfl⟩;rw[hM]at c hJ hti;simp only[aT,Tm.enc,List.map_cons,List.map_nil]at c;clear hlt h4 hM ih hd hmem;refine X0<|X3<|X0<|(Xm [⟨true,.v (li M),none⟩] ?_ ?_)
   · first|exact c _|exact trivial|simpa[*]using c _
   refine X0<|X0<|X1 ?_;refine(Xc rfl (fun h7=>?_) fun h7=>?_)
   · (try simp only[BN]at h7);rw[if_pos h7]at hJ;subst hJ;refine X2 ?_;exact Xe
   (try simp only[BN]at h7);rw[if_neg (by omega)]at hJ;have hw3:IntKind.i64.wrap (M - (sbs.length:Int))=M - (sbs.length:Int):=Xa (by omega) (by omega);have c1:=iha (M - sbs.length) (by omega) (by omega);have s1:=X3E sa (M - sbs.length);have hl1:-1≤lo1 (M - sbs.length):=by unfold lo1;split<;>omega
   obtain⟨M1,hM1⟩:∃x,sL sa (M - sbs.length)=x:=⟨_,rfl⟩;rw[hM1]at c1 s1 hJ;have c2:=ihb M1 (by omega) (by omega);have s2:=X3E sb M1;have hl2:-1≤lo1 M1:=by unfold lo1;split<;>omega
   obtain⟨M2,hM2⟩:∃x,sL sb M1=x:=⟨_,rfl⟩;rw[hM2]at c2 s2 hJ;clear iha ihb hM1 hM2 h7 c;refine(Q7 [⟨true,.v (li M1),none⟩,⟨true,.v (li M2),none⟩] (by kernel_rfl) (by kernel_rfl) (by rfl) (by simp[*];first|exact⟨rfl,Iff.rfl⟩|exact⟨rfl,trivial⟩|rfl) ?_ ?_)
   · first|exact⟨c1 _,c2 _⟩|exact trivial|(repeat' first|exact trivial|exact c1 _|exact c2 _|apply And.intro)
   refine X1 ?_;exact⟨(k+1,M2),⟨hk1,hJ,by simp only;omega,by simp only;omega⟩,by simp only;omega,X4 (fun n=>n) []⟩
 try simp only[BN]at h4
 have hz:sL (l.drop k) m=m:=by
  by_cases hm0:m<0
  · exact sL_neg _ _ hm0
  have hkl:k=l.length:=by omega
  rw[hkl,List.drop_length];simp[sL]
 rw[hz]at hJ;subst hJ;refine(Xf ?_);refine X2 ?_;exact Xe
theorem Xbv (f:Fl) (vars nodes:Int) (hv:0≤vars∧vars≤1000) (hn:0≤nodes∧nodes≤1000) (d:Nat):Con Tryz.prog 41 true [aF f,li vars,li nodes] (.v (lb (X1l f vars nodes))) none d:=by
 obtain⟨vs,hats,body⟩:=f;obtain⟨res,hres⟩:∃r,X1l ⟨vs,hats,body⟩ vars nodes=r:=⟨_,rfl⟩;rw[hres];unfold X1l at hres;simp only at hres;have cs:=XbX body nodes (by omega) (by omega);have hsi:=X3E body nodes;have hlo:-2≤lo1 nodes:=by unfold lo1;split<;>omega
 obtain⟨S,hS⟩:∃x,sL body nodes=x:=⟨_,rfl⟩;rw[hS]at hres cs hsi;clear hS;refine X5 Tryz.func41 ?_;simp only[Tryz.f41];simp only[aF,Fl.enc,List.map_cons,List.map_nil];refine X2 ?_;refine X0<|X0<|X1 ?_;refine(Xc rfl (fun h2=>?_) fun h2=>?_)
 · (try simp only[BN]at h2);rw[if_pos (by omega)]at hres;subst hres;refine X2 ?_;exact Xe
 (try simp only[BN]at h2);rw[if_neg (by omega)]at hres;obtain⟨E,hE⟩:∃x,hL hats S=x:=⟨_,rfl⟩;rw[hE]at hres;refine Xh [⟨true,.v (li S),none⟩] ?_ ?_
 · first|exact cs _|exact trivial|simpa[*]using cs _
 refine X0<|X0<|X1 ?_;refine X3<|(Xb [27,28] (fun(x:Nat×Int)=>[(7,.v (li x.2)),(29,.v (li x.1))]) (fun x=>[]) (fun x=>x.1≤hats.length∧hL (hats.drop x.1) x.2=E∧-2 - (x.1:Int)≤x.2∧x.2≤1000) (fun x=>hats.length - x.1) (0,S) ⟨Nat.zero_le _,hE,by simp only;omega,by simp only;omega⟩ ?_ ?_)
 · exact X4 (fun n=>n) []
 rintro⟨k,m⟩ ⟨hk,hJ,hm,hm2⟩;simp only[upS,X6,Xw]
 try simp only[X6,KN,Nat.reduceBEq,if_true,if_false,ins,Nat.reduceLT]
 simp only at hk hJ hm hm2;clear hE;refine X2 ?_;refine X0<|(X7 rfl (fun h9=>X9 ?_) (fun h9=>?_))
 · (try simp only[BN]at h9);have hlt:k<hats.length:=by omega
   obtain⟨h,he,hd⟩:=Xo hlt;have hw1:IntKind.i64.wrap ((k:Int)+1)=(k:Int)+1:=Xa (by omega) (by omega);have hk1:k+1≤hats.length:=hlt;have c:=X6L h.term m (by omega) (by omega);have hti:=X67 h.term m;have hl1:-3 - (k:Int)≤lo1 (m - 1):=by unfold lo1;split<;>omega
   rw[hd]at hJ;simp only[hL]at hJ;obtain⟨nm,lo,hi,⟨o,tn,ks⟩⟩:=h;simp only at c hti hJ;obtain⟨M,hM⟩:∃x,tL (.mk o tn ks) m=x:=⟨_,rfl⟩;rw[hM]at c hJ hti;simp only[aT,Tm.enc,List.map_cons,List.map_nil]at c;clear hlt h9 hM hd;refine X0<|X3<|X0<|X1 ?_;refine(Xm [⟨true,.v (li M),none⟩] ?_ ?_)
   · first|exact c _|exact trivial|simpa[*]using c _
   refine X1 ?_;exact⟨(k+1,M),⟨hk1,hJ,by simp only;omega,by simp only;omega⟩,by simp only;omega,X4 (fun n=>n) []⟩
 (try simp only[BN]at h9);have hkl:k=hats.length:=by omega
 rw[hkl,List.drop_length]at hJ;simp only[hL]at hJ;subst hJ;subst hres;refine(Xf ?_);refine X2 ?_;exact Xe
end Go.Proofs.YtppjennamodfdaaGreat

namespace Go.Proofs.YtppjennamodfdaaGreat
open Go Go.Hl
theorem XcJ {vars:List Vr} (h:ZF vars=0):∀k,1≤k→k≤3→spc vars k≤4096:=by
 intro k h1 h2;unfold ZF at h;split at h
 · split at h
   · cases h
   rename_i hb;simp only[List.any_cons,List.any_nil,Bool.or_false,Bool.or_eq_true,X2r,decide_eq_true_eq,not_or]at hb;have:k=1∨k=2∨k=3:=by omega
   rcases this with rfl|rfl|rfl<;>omega
 rename_i h0;exact absurd h h0
def fitB (f:Fl) (a b c:Int):Bool:=X1l f 10 80&&(decide (Qf f=0)&&(((decide (spc f.vars 1≤a)&&decide (spc f.vars 2≤b))&&decide (spc f.vars 3≤c))&&decide ((bdL CR f.body ⟨0,0,0⟩).s≤400)))
theorem Xcm (f:Fl) (a b c:Int) (d:Nat):Con Tryz.prog 42 true [aF f,li a,li b,li c] (.v (lb (fitB f a b c))) none d:=by
 have cf:=Xbv f 10 80 (by decide) (by decide)
 have hin:X1l f 10 80=true→f.vars.length≤1000000∧f.hats.length≤1000000∧Xj f.body+QE f.hats≤80∧Wj f.body=true:=by
  intro h;have:=X7A (nodes:=80) (by decide) h;exact⟨by omega,by omega,by omega,this.2.2.2⟩
 have hcc:X1l f 10 80=true→∀d,Con Tryz.prog 25 true [aF f] (.v (li (Qf f))) none d:=fun h=>X2F f (hin h).1 (hin h).2.1 (by have:=(hin h).2.2.1;omega) (hin h).2.2.2
 have hsp:X1l f 10 80=true→Qf f=0→∀k,1≤k→k≤3→∀d,Con Tryz.prog 79 true [lV f.vars,li k] (.tup [li (spc f.vars k),li 0]) none d:=fun h h0 k k1 k2=>
  X9a f.vars k ⟨k1,k2⟩ (X2s (Wz h0).2.1) (hin h).1 (XcJ (Wz h0).2.1 k k1 k2)
 have hbd:X1l f 10 80=true→Qf f=0→∀d,Con Tryz.prog 66 true [lS f.body] (.tup [li (bdL CR f.body ⟨0,0,0⟩).s,li (bdL CR f.body ⟨0,0,0⟩).o,li (bdL CR f.body ⟨0,0,0⟩).t]) none d:=fun h h0=>
  X4D f.body (by have:=(hin h).2.2.1;omega) (X2x _ _ (Wz h0).2.2.2.1)
 obtain⟨res,hres⟩:∃r,fitB f a b c=r:=⟨_,rfl⟩;rw[hres];unfold fitB at hres;obtain⟨vars,hats,body⟩:=f;simp only at hsp hbd hres;obtain⟨FW,hFW⟩:∃x,X1l ⟨vars,hats,body⟩ 10 80=x:=⟨_,rfl⟩;obtain⟨K,hK⟩:∃x,Qf ⟨vars,hats,body⟩=x:=⟨_,rfl⟩;obtain⟨S1,h1⟩:∃x,spc vars 1=x:=⟨_,rfl⟩;obtain⟨S2,h2⟩:∃x,spc vars 2=x:=⟨_,rfl⟩;obtain⟨S3,h3⟩:∃x,spc vars 3=x:=⟨_,rfl⟩;have q1:=fun h h0=>hsp h h0 1 (by decide) (by decide);have q2:=fun h h0=>hsp h h0 2 (by decide) (by decide);have q3:=fun h h0=>hsp h h0 3 (by decide) (by decide);obtain⟨⟨bs,bo,bt⟩,hB⟩:∃x,bdL CR body ⟨0,0,0⟩=x:=⟨_,rfl⟩;rw[hFW]at cf hcc q1 q2 q3 hbd hres;rw[hK]at hcc q1 q2 q3 hbd hres;rw[hB]at hbd hres;rw[h1]at q1 hres;rw[h2]at q2 hres;rw[h3]at q3 hres;simp only at hbd hres;clear hFW hK h1 h2 h3 hB hsp hin;refine X5 Tryz.func42 ?_;simp only[Tryz.f42];simp only[aF,Fl.enc,List.map_cons,List.map_nil]at cf hcc⊢;refine X2 ?_;rcases FW with _|_
 · clear hcc q1 q2 q3 hbd;subst hres;refine X0<|X0<|(X00 [some ⟨true,.v (lb false),none⟩,none] (by simp[*];first|exact⟨rfl,Iff.rfl⟩|exact⟨rfl,trivial⟩|rfl) ?_ ?_)
   · first|exact trivial|exact cf _|simpa using cf _
   refine(Xc rfl (fun h2=>?_) fun h2=>?_)
   · (try simp only[BN]at h2);refine X2 ?_;exact Xe
   exact absurd h2 (by simp)
 have hcc:=hcc rfl;simp only[Bool.true_and]at hres;refine X0<|X0<|(Xm [⟨true,.v (lb true),none⟩,⟨true,.v (li K),none⟩] ?_ ?_)
 · first|exact⟨cf _,hcc _⟩|exact trivial|(repeat' first|exact trivial|exact cf _|exact hcc _|apply And.intro)
 refine(Xc rfl (fun h2=>?_) fun h2=>?_)
 · (try simp only[BN]at h2);have hk:¬K=0:=by simpa using h2
   rw[decide_eq_false hk,Bool.false_and]at hres;subst hres;clear q1 q2 q3 hbd;refine X2 ?_;exact Xe
 (try simp only[BN]at h2);have hk:K=0:=by simpa using h2
 have q1:=q1 rfl hk;have q2:=q2 rfl hk;have q3:=q3 rfl hk;have hbd:=hbd rfl hk;rw[decide_eq_true hk,Bool.true_and]at hres;clear cf hcc h2 hk;refine Xh [⟨true,.tup [li S1,li 0],none⟩] ?_ ?_
 · first|exact q1 _|exact trivial|simpa[*]using q1 _
 refine Xh [⟨true,.tup [li S2,li 0],none⟩] ?_ ?_
 · first|exact q2 _|exact trivial|simpa[*]using q2 _
 refine Xh [⟨true,.tup [li S3,li 0],none⟩] ?_ ?_
 · first|exact q3 _|exact trivial|simpa[*]using q3 _
 refine Xh [⟨true,.tup [li bs,li bo,li bt],none⟩] ?_ ?_
 · first|exact hbd _|exact trivial|simpa[*]using hbd _
 refine X2 ?_;subst hres;exact Xe
structure Fit (f:Fl) (a b c:Int):Prop where
 hv:f.vars.length≤10
 hh:f.hats.length≤10
 hn:Xj f.body+QE f.hats≤80
 hb:Wj f.body=true
 code:Qf f=0
 good:ZZ f.vars
 s1:spc f.vars 1≤a
 s2:spc f.vars 2≤b
 s3:spc f.vars 3≤c
end Go.Proofs.YtppjennamodfdaaGreat

namespace Go.Proofs.YtppjennamodfdaaGreat
open Go Go.Hl
section
variable {keep k1 k2:Int→Bool}
end
end Go.Proofs.YtppjennamodfdaaGreat

namespace Go.Proofs.YtppjennamodfdaaGreat
open Go Go.Hl
theorem St.lind {P:List St→Prop} (nil:P []) (cons:∀d c v n t a b bs l,P a→P b→P l→P (.mk d c v n t a b bs::l)):∀l,P l:=by
 apply St.lists;intro l ih
 induction l with
 |nil=>exact nil
 | cons s l ihl=>
   have h:=ih s (List.mem_cons_self ..);have h2:=ihl fun s hs=>ih s (List.mem_cons_of_mem _ hs);obtain⟨d,c,v,n,t,a,b,bs⟩:=s;exact cons d c v n t a b bs l h.1 h.2 h2
def Sub {α:Type} (N:List α) (k:Nat) (l:List α):Prop:=∀i x,l[i]? =some x→N[k+i]? =some x
theorem Sub.cons {α:Type} {N:List α} {k:Nat} {x:α} {l:List α} (h:Sub N k (x::l)):N[k]? =some x∧Sub N (k+1) l:=
 ⟨h 0 x rfl,fun i y hy=>by have:=h (i+1) y (by simpa using hy);rwa [show k+(i+1)=k+1+i by omega]at this⟩
theorem Sub.app {α:Type} {N:List α} {k:Nat} {a b:List α} (h:Sub N k (a++b)):Sub N k a∧Sub N (k+a.length) b:=by
 refine⟨fun i x hx=>h i x ?_,fun i x hx=>?_⟩
 · have hi:=(List.getElem?_eq_some_iff.1 hx).1;rw[List.getElem?_append_left hi,hx]
 have:=h (a.length+i) x (by rw[List.getElem?_append_right (by omega),show a.length+i - a.length=i by omega,hx])
 rwa [show k+(a.length+i)=k+a.length+i by omega]at this
theorem Sub.of_self {α:Type} (l:List α):Sub l 0 l:=fun i x hx=>by rwa [Nat.zero_add]
def updD (D:Nat→Nat) (v o:Nat):Nat→Nat:=fun x=>if x=v then o else D x
section
variable {vars:List Vr} {hv:List Int} {kO:Nat→Bool}
def Qt (lo hi:Nat) (x y:Sta×(Nat→Nat)):Prop:=∀v:Nat,(y.2 v=x.2 v∧y.1.vals[v]? =x.1.vals[v]?)∨(lo≤y.2 v∧y.2 v<hi)
theorem Qt.refl (lo hi:Nat) (x:Sta×(Nat→Nat)):Qt lo hi x x:=fun _=>.inl ⟨rfl,rfl⟩
theorem Qt.trans {lo hi:Nat} {x y z:Sta×(Nat→Nat)} (h:Qt lo hi x y) (h2:Qt lo hi y z):Qt lo hi x z:=fun v=>by
 rcases h2 v with⟨h3,h4⟩|h3
 · rcases h v with⟨h5,h6⟩|h5
   · exact .inl ⟨h3.trans h5,h4.trans h6⟩
   exact .inr ⟨by omega,by omega⟩
 exact .inr h3
theorem Qt.tick {lo hi:Nat} {x y:Sta×(Nat→Nat)} {c:Int} (h:Qt lo hi (tick x.1 c,x.2) y):Qt lo hi x y:=h
end
end Go.Proofs.YtppjennamodfdaaGreat

namespace Go.Proofs.YtppjennamodfdaaGreat
open Go Go.Hl
def entN (l:List St) (k after:Nat):Nat:=if l=[] then after else k
structure Gd (N:List Nd) (steps:List St) (nv k:Nat) (D:Nat→Nat):Prop where
 all:∀v,v<nv→Rc N steps nv k (D v)∧QF steps (D v)=(v:Int)
section
variable {N:List Nd} {steps:List St} {nv:Nat} {vars:List Vr} {hv:List Int} {kO:Nat→Bool}
theorem Gd.pass {k to:Nat} {D:Nat→Nat} {x:Nd} (h:Gd N steps nv k D) (hx:N[k]? =some x) (h0:x.k≠0) (hs:ZK x to) (ha:Ql steps x=false):Gd N steps nv to D:=
 ⟨fun v hv=>⟨.pass hx h0 hs (h.all v hv).1 (by rw[ha];rfl),(h.all v hv).2⟩⟩
theorem Gd.asg {k to:Nat} {D:Nat→Nat} {x:Nd} {v:Int} (h:Gd N steps nv k D) (hx:N[k]? =some x) (h0:x.k≠0) (hs:ZK x to) (ha:Ql steps x=true) (hv0:0≤v) (hva:X0B steps x=v) (hvo:QF steps x.a.toNat=v):Gd N steps nv to (updD D v.toNat x.a.toNat):=by
 refine⟨fun y hy=>?_⟩;unfold updD;by_cases e:y=v.toNat
 · rw[if_pos e];exact⟨.gen hx h0 hs ha,by rw[hvo,e];omega⟩
 rw[if_neg e];obtain⟨h1,h2⟩:=h.all y hy;refine⟨.pass hx h0 hs h1 ?_,h2⟩;rw[h2,hva];have:(y:Int)≠v:=by omega
 simp[this]
structure Lies (N:List Nd) (steps:List St) (vars:List Vr) (nh:Nat) (l:List St) (o k after:Nat):Prop where
 g:gL l=true
 wf:wfL vars nh l=true
 nd:Sub N k (Ws l o k after)
 st:Sub steps o (flL l)
structure Lie1 (N:List Nd) (steps:List St) (vars:List Vr) (nh:Nat) (d c v n:Int) (t:Tm) (a b:List St) (bs:List Int) (o k mid:Nat):Prop where
 g:gS (.mk d c v n t a b bs)=true
 wf:wfS vars nh (.mk d c v n t a b bs)=true
 nd:Sub N k (X1p (.mk d c v n t a b bs) o k mid)
 st:steps[o]? =some (.mk d c v n t a b bs)
 sa:Sub steps (o+1) (flL a)
 sb:Sub steps (o+1+szL a) (flL b)
variable {nh:Nat}
theorem Lies.cons {d c v n:Int} {t:Tm} {a b:List St} {bs:List Int} {l:List St} {o k after:Nat} (h:Lies N steps vars nh (.mk d c v n t a b bs::l) o k after):
  Lie1 N steps vars nh d c v n t a b bs o k (entN l (k+wdS (.mk d c v n t a b bs)) after)∧Lies N steps vars nh l (o+(1+szL a+szL b)) (k+wdS (.mk d c v n t a b bs)) after:=by
 obtain⟨hg,hw,hn,hs⟩:=h;simp only[gL,Bool.and_eq_true]at hg;simp only[wfL,Bool.and_eq_true]at hw;simp only[Ws]at hn;simp only[flL]at hs;obtain⟨n1,n2⟩:=hn.app;obtain⟨s1,s2⟩:=hs.app;rw[X36 _ _ _ _ hg.1]at n2;rw[XaX]at s2;rw[X9V]at s1;simp only[szS,St.then_,St.else_]at s1 s2 n2;obtain⟨s3,s4⟩:=s1.cons;obtain⟨s5,s6⟩:=s4.app;rw[XT]at s6;refine⟨⟨hg.1,hw.1,n1,s3,s5,s6⟩,hg.2,hw.2,?_,s2⟩;have:((o:Int)+((1+szL a+szL b:Nat):Int))=((o+(1+szL a+szL b):Nat):Int):=by omega
 rw[←this];exact n2
theorem Lie1.loop {d c v n:Int} {t:Tm} {a b:List St} {bs:List Int} {o k mid:Nat} (h:Lie1 N steps vars nh d c v n t a b bs o k mid) (hd:d=4):
  (∃x,N[k]? =some x∧x.k=4∧ZK x (k+1))∧(∃x,N[k+1]? =some x∧x.k=5∧x.a=o∧ZK x (entN a (k+2) (k+1))∧ZK x mid)∧Lies N steps vars nh a (o+1) (k+2) (k+1)∧b=[]:=by
 obtain⟨hg,hw,hn,_,hsa,hsb⟩:=h;simp only[gS,Bool.and_eq_true,Bool.or_eq_true,decide_eq_true_eq,List.isEmpty_iff]at hg;simp only[wfS,Bool.and_eq_true]at hw;unfold X1p at hn;rw[if_neg (by omega),if_pos hd]at hn;obtain⟨h1,h2⟩:=hn.cons;obtain⟨h3,h4⟩:=h2.cons;refine⟨⟨_,h1,rfl,?_⟩,⟨_,h3,rfl,rfl,?_,?_⟩,⟨hg.2.1,hw.2.2.2.2.2.1,h4,hsa⟩,?_⟩
 · simp[ZK]
 · by_cases e:a=[]<;>simp[ZK,entN,e]
 · simp[ZK]
 rcases hg.1 with(h|h)|h
 · omega
 · exact h.2
 exact h.2
theorem Lie1.var {d c v n:Int} {t:Tm} {a b:List St} {bs:List Int} {o k mid:Nat} (h:Lie1 N steps vars nh d c v n t a b bs o k mid) (hd:d=0∨d=5):0≤v∧v.toNat<vars.length:=by
 have hw:=h.wf;simp only[wfS,Bool.and_eq_true,Bool.or_eq_true,decide_eq_true_eq]at hw;have hl:=hw.2.1.resolve_left fun h=>by omega
 obtain⟨h0,w,hw2⟩:=XbP hl;exact⟨h0,(List.getElem?_eq_some_iff.1 hw2).1⟩
end
theorem lay_nums:∀l:List St,gL l=true→∀(p k after:Nat),(((Ws l p k after).filter rdB).map (·.a)).Pairwise (· < ·)∧∀z∈((Ws l p k after).filter rdB).map (·.a),(p:Int)≤z∧z<p+szL l:=by
 apply St.lind
 · intro _ p k after;simp[Ws]
 intro d c v n t a b bs l ia ib il hg p k after;simp only[gL,gS,Bool.and_eq_true]at hg;obtain⟨⟨hs,ga,gb⟩,gl⟩:=hg;have e1:((p:Int)+1)=((p+1:Nat):Int):=by omega
 have e2:(((p+1:Nat):Int)+(szL a:Int))=((p+1+szL a:Nat):Int):=by omega
 have e3:((p:Int)+(szS (.mk d c v n t a b bs):Int))=((p+(1+szL a+szL b):Nat):Int):=by simp only[szS];omega
 have hst:∀after,(((X1p (.mk d c v n t a b bs) p k after).filter rdB).map (·.a)).Pairwise (· < ·)∧∀z∈((X1p (.mk d c v n t a b bs) p k after).filter rdB).map (·.a),(p:Int)≤z∧z<p+(1+szL a+szL b:Nat):=by
  intro after;unfold X1p;rw[e1,e2];split
  · obtain⟨a1,a2⟩:=ia ga (p+1) (k+1) after;obtain⟨b1,b2⟩:=ib gb (p+1+szL a) (k+1+wdL a) after;have hr:rdB ⟨3,p,if a=[] then after else k+1,if b=[] then after else k+1+wdL a⟩=true:=by simp[rdB]
    rw[List.filter_cons_of_pos hr];simp only[List.filter_append,List.map_cons,List.map_append];refine⟨List.pairwise_cons.2 ⟨fun z hz=>?_,List.pairwise_append.2 ⟨a1,b1,fun x hx y hy=>?_⟩⟩,fun z hz=>?_⟩
    · rcases List.mem_append.1 hz with h|h
      · have:=a2 z h;omega
      have:=b2 z h;omega
    · have:=a2 x hx;have:=b2 y hy;omega
    rcases List.mem_cons.1 hz with rfl|hz
    · omega
    rcases List.mem_append.1 hz with h|h
    · have:=a2 z h;omega
    have:=b2 z h;omega
  split
  · obtain⟨a1,a2⟩:=ia ga (p+1) (k+2) (k+1);have hr:¬rdB ⟨4,p,(k:Int)+1,-1⟩=true:=by simp[rdB]
    have hr2:rdB ⟨5,p,if a=[] then(k:Int)+1 else(k:Int)+2,after⟩=true:=by simp[rdB]
    rw[List.filter_cons_of_neg hr,List.filter_cons_of_pos hr2];simp only[List.map_cons];refine⟨List.pairwise_cons.2 ⟨fun z hz=>?_,a1⟩,fun z hz=>?_⟩
    · have:=a2 z hz;omega
    rcases List.mem_cons.1 hz with rfl|hz
    · omega
    have:=a2 z hz;omega
  have hr:rdB ⟨2,p,after,-1⟩=true:=by simp[rdB]
  rw[List.filter_cons_of_pos hr];simp only[List.filter_nil,List.map_cons,List.map_nil];refine⟨List.pairwise_singleton ..,fun z hz=>?_⟩;rw[List.mem_singleton.1 hz];omega
 obtain⟨s1,s2⟩:=hst (if l=[] then after else k+wdS (.mk d c v n t a b bs));obtain⟨l1,l2⟩:=il gl (p+(1+szL a+szL b)) (k+wdS (.mk d c v n t a b bs)) after;simp only[Ws];rw[e3];simp only[List.filter_append,List.map_append,szL,szS];refine⟨List.pairwise_append.2 ⟨s1,l1,fun x hx y hy=>?_⟩,fun z hz=>?_⟩
 · have:=s2 x hx;have:=l2 y hy;omega
 rcases List.mem_append.1 hz with h|h
 · have:=s2 z h;omega
 have:=l2 z h;omega
theorem grN_nums {l:List St} (hg:gL l=true):(((grN l).filter rdB).map (·.a)).Pairwise (· < ·):=by
 unfold grN;have h0:∀x:Int,¬rdB ⟨0,-1,x,-1⟩=true:=fun x=>by simp[rdB]
 have h1:¬rdB ⟨1,-1,-1,-1⟩=true:=by simp[rdB]
 rw[List.filter_cons_of_neg (h0 _),List.filter_append,List.filter_cons_of_neg h1,List.filter_nil,List.append_nil];exact(lay_nums l hg 0 1 (1+wdL l)).1
end Go.Proofs.YtppjennamodfdaaGreat

namespace Go.Proofs.YtppjennamodfdaaGreat
open Go Go.Hl
def rndB (N:List Nd) (steps:List St) (nv:Nat) (S:List (List Nat)) (to d:Nat):Bool:=
 (S[to]?.getD []).contains d||(List.range N.length).any fun i=>match N[i]?,S[i]? with
  |some x,some Si=>decide (ZK x to)&&(X4S steps nv Si x).contains d
  |_,_=>false
def rnd (N:List Nd) (steps:List St) (nv:Nat) (S:List (List Nat)):List (List Nat):=(List.range N.length).map fun to=>(List.range (steps.length+nv)).filter fun d=>rndB N steps nv S to d
def rndK (N:List Nd) (steps:List St) (nv:Nat):Nat→List (List Nat)→List (List Nat)
 |0,S=>S
 |k+1,S=>rndK N steps nv k (rnd N steps nv S)
theorem gs_zero (N:List Nd) (steps:List St) (nv:Nat):Gs N steps nv (List.replicate N.length []) where
 len:=by simp
 nod l hl:=by rw[(List.mem_replicate.1 hl).2];exact List.nodup_nil
 lt l hl d hd:=by rw[(List.mem_replicate.1 hl).2]at hd;cases hd
 snd to l d hl hd:=by
  have:=List.mem_of_getElem? hl;rw[(List.mem_replicate.1 this).2]at hd;cases hd
theorem rnd_gs {N:List Nd} {steps:List St} {nv:Nat} {S:List (List Nat)} (g:Gs N steps nv S):Gs N steps nv (rnd N steps nv S) where
 len:=by simp[rnd]
 nod l hl:=by
  obtain⟨to,_,rfl⟩:=List.mem_map.1 hl;exact List.Pairwise.filter _ List.nodup_range
 lt l hl d hd:=by
  obtain⟨to,_,rfl⟩:=List.mem_map.1 hl;simpa using(List.mem_filter.1 hd).1
 snd to l d hl hd:=by
  simp only[rnd,List.getElem?_map,Option.map_eq_some_iff]at hl;obtain⟨to',h1,rfl⟩:=hl;have h1':=List.getElem?_eq_some_iff.1 h1;obtain⟨h2,h3⟩:=h1';rw[List.getElem_range]at h3;subst h3;have h4:=(List.mem_filter.1 hd).2;unfold rndB at h4;rw[Bool.or_eq_true]at h4;rcases h4 with h4|h4
  · have h5:d∈S[to]?.getD []:=List.contains_iff_mem.1 h4;cases e:S[to]? with
    |none=>rw[e]at h5;cases h5
    |some l=>rw[e]at h5;exact g.snd to l d e h5
  obtain⟨i,_,h5⟩:=List.any_eq_true.1 h4;split at h5
  · rename_i x Si hx hS;rw[Bool.and_eq_true]at h5;exact XaG g hx hS (List.contains_iff_mem.1 h5.2) (of_decide_eq_true h5.1)
  cases h5
theorem Xbr {N:List Nd} {steps:List St} {nv:Nat}:∀(k:Nat) {S:List (List Nat)},Gs N steps nv S→Gs N steps nv (rndK N steps nv k S)
 |0,_,g=>g
 |k+1,_,g=>Xbr k (rnd_gs g)
open Classical in
theorem rcL_fix {N:List Nd} {steps:List St} {nv:Nat} {S:List (List Nat)} (ha:∀x∈N,Ql steps x=true→x.a.toNat<steps.length) (g:Gs N steps nv S) (hfix:rnd N steps nv S=S):rcL N steps nv=S:=by
 have hc:∀i,i<N.length→clo N steps nv S i:=by
  intro i hi x Si hx hS d hd to l ht hl;have hrc:=XaG g hx hS hd ht;have hlt:=rc_lt ha hrc;have hto:to<N.length:=by have:=(List.getElem?_eq_some_iff.1 hl).1;rw[g.len]at this;exact this
  have:S[to]? =some ((List.range (steps.length+nv)).filter fun d=>rndB N steps nv S to d):=by
   conv=>lhs;rw[←hfix]
   simp[rnd,hto]
  rw[this]at hl;cases hl;refine List.mem_filter.2 ⟨by simpa using hlt,?_⟩;unfold rndB;rw[Bool.or_eq_true];refine .inr (List.any_eq_true.2 ⟨i,by simpa using hi,?_⟩);simp only[hx,hS];rw[Bool.and_eq_true];exact⟨decide_eq_true ht,List.contains_iff_mem.2 hd⟩
 conv=>rhs;rw[←hfix]
 unfold rcL rnd;refine List.map_congr_left fun to hto=>?_;have hto:to<N.length:=by simpa using hto
 obtain⟨l,hl,_⟩:=Xo (show to<S.length by rw[g.len];exact hto);refine List.filter_congr fun d hd=>?_;show decide (Rc N steps nv to d)=rndB N steps nv S to d;rw[Bool.eq_iff_iff,decide_eq_true_eq];constructor
 · intro h;have:=X9T g hc hl h;unfold rndB;rw[Bool.or_eq_true,hl];exact .inl (List.contains_iff_mem.2 this)
 intro h
 have:d∈(rnd N steps nv S)[to]?.getD []:=by
  simp only[rnd,List.getElem?_map];rw[List.getElem?_range hto];exact List.mem_filter.2 ⟨hd,h⟩
 rw[hfix,hl]at this;exact g.snd to l d hl this
theorem rcL_run {N:List Nd} {steps:List St} {nv:Nat} {S:List (List Nat)} (k:Nat) (ha:∀x∈N,Ql steps x=true→x.a.toNat<steps.length) (h:rndK N steps nv k (List.replicate N.length [])=S) (hfix:rnd N steps nv S=S):rcL N steps nv=S:=
 rcL_fix ha (h▸Xbr k (gs_zero N steps nv)) hfix
end Go.Proofs.YtppjennamodfdaaGreat

namespace Go.Proofs.YtppjennamodfdaaGreat
open Go Go.Hl
def rfT (n:Int):Tm:=⟨24,n,[]⟩
def exF:Fl:=⟨[⟨⟨#[120]⟩,1,0,3,0⟩,⟨⟨#[121]⟩,0,0,3,0⟩,⟨⟨#[122]⟩,0,0,3,0⟩,⟨⟨#[119]⟩,0,0,3,0⟩],[],[.mk 0 0 1 0 (rfT 0) [] [] [],.mk 0 0 2 0 ⟨0,2,[]⟩ [] [] [],.mk 3 0 0 0 (rfT 1) [.mk 0 0 2 0 ⟨0,1,[]⟩ [] [] []] [] [],.mk 1 0 0 0 (rfT 2) [] [] [],.mk 1 0 0 0 (rfT 3) [] [] []]⟩
def exS:List (List Nat):=[[],[6,7,8,9],[0,6,8,9],[0,1,6,9],[0,1,6,9],[0,1,3,6,9],[0,1,3,6,9],[0,1,3,6,9]]
theorem exRc:rcL (grN exF.body) (flL exF.body) exF.vars.length=exS:=rcL_run 12 (by decide) (by kernel_rfl) (by kernel_rfl)
theorem exRd:rdT exF=rdF (szL exF.body) ((grN exF.body).zip exS):=by
 unfold rdT;rw[exRc]
theorem exDir:Q3 exF=[[],[],[0],[2],[1,3],[]]:=by
 unfold Q3;rw[exRd];kernel_rfl
theorem exCode:Qf exF=0:=by
 simp only[exF,rfT,Qf,X16,sdL,Ww,ssC];kernel_rfl
theorem exSm:Sm exF:=⟨by decide,by decide,by decide,by decide⟩
theorem X8P (q:List Int) (h:X4U 6 [q]=true):Wk exF [q]=0:=by
 unfold Wk;rw[if_pos exCode,show(flL exF.body).length=6 from rfl,if_pos h]
theorem exAsk2 (a b:List Int) (h:X4U 6 [a,b]=true):Wk exF [a,b]=0:=by
 unfold Wk;rw[if_pos exCode,show(flL exF.body).length=6 from rfl,if_pos h]
theorem exBw:bwL exF [4]=[0,1,2,3,4]:=by
 unfold bwL;rw[exDir];kernel_rfl
theorem exFw:fwL exF [0]=[0,2,3,4]:=by
 unfold fwL;rw[exDir];kernel_rfl
theorem exCh:chL exF [0] [4]=[0,2,3,4]:=by
 unfold chL;rw[exFw,exDir];kernel_rfl
theorem exClo:ZJ (Q3 exF) (QT [5])=[5]:=by
 rw[exDir];kernel_rfl
theorem exCl:clB exF [5]=true:=by
 unfold clB;rw[exClo];rfl
theorem exNeA:neA exF [5]=[3]:=by
 unfold neA;rw[exClo,exRd];kernel_rfl
theorem exNe:neL exF [5]=[3]:=by
 unfold neL;rw[exNeA];exact List.mergeSort_singleton _
theorem exPg:pgF exF [5]=⟨exF.vars,[],[.mk 1 0 0 0 (rfT 3) [] [] []]⟩:=by
 unfold pgF;have:pgL [5] (szL exF.body) exF.body=[.mk 1 0 0 0 (rfT 3) [] [] []]:=by kernel_rfl
 rw[this];rfl
end Go.Proofs.YtppjennamodfdaaGreat
