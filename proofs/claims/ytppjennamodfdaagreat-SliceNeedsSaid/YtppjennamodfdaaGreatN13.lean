/- Part 13: contracts of functions of the program and of the reference, and plain facts about what they compute; used by the proof of the claimed statement. Conditions: as each theorem states. -/
import Derived.Test.YtppjennamodfdaaGreatProg
import Derived.Test.YtppjennamodfdaaGreatNHmZ
import Derived.KernelRfl
import Derived.Test.YtppjennamodfdaaGreatNHmZI
import Derived.Test.YtppjennamodfdaaGreatNHmZJ
import Derived.Test.YtppjennamodfdaaGreatNHmZK
import Derived.Lib.SlicesCompact
import Derived.Shelf.Slices.CompactI
import Derived.Shelf.Sort.Plain
import Derived.Shelf.Slices.In.SortNone
import Derived.Test.YtppjennamodfdaaGreatNHmZL
import Derived.Test.YtppjennamodfdaaGreatN1
import Derived.Test.YtppjennamodfdaaGreatN2
import Derived.Test.YtppjennamodfdaaGreatN4
import Derived.Test.YtppjennamodfdaaGreatN6
import Derived.Test.YtppjennamodfdaaGreatN8
import Derived.Test.YtppjennamodfdaaGreatN3
import Derived.Test.YtppjennamodfdaaGreatN9
import Derived.Test.YtppjennamodfdaaGreatN7
import Derived.Test.YtppjennamodfdaaGreatN11
import Derived.Test.YtppjennamodfdaaGreatN5
import Derived.Test.YtppjennamodfdaaGreatNHmZM
set_option linter.unusedSimpArgs false
set_option linter.unusedVariables false
set_option linter.unnecessarySimpa false
set_option maxRecDepth 100000
set_option maxHeartbeats 2000000
namespace Go.Proofs.YtppjennamodfdaaGreat
open Go Go.Hl
section
variable {keep k1 k2:Int→Bool}
end
end Go.Proofs.YtppjennamodfdaaGreat

namespace Go.Proofs.YtppjennamodfdaaGreat
open Go Go.Hl
theorem encNs_if (acc:List Nd) (k a n o:Int) (A B:List Nd):XG (acc++⟨k,a,n,o⟩::(A++B))=XG acc++[iC k,iC a,iC n,iC o]::(XG A++XG B):=by simp[XG]
theorem encNs_lp (acc:List Nd) (k a n o k2 a2 n2 o2:Int) (A:List Nd):XG (acc++⟨k,a,n,o⟩::⟨k2,a2,n2,o2⟩::A)=XG acc++[iC k,iC a,iC n,iC o]::[iC k2,iC a2,iC n2,iC o2]::XG A:=by simp[XG]
theorem encNs_lf (acc:List Nd) (k a n o:Int):XG (acc++[⟨k,a,n,o⟩])=XG acc++[[iC k,iC a,iC n,iC o]]:=by simp[XG]
abbrev lNd (l:List Nd):TV:=.one (.c (.sl 4 (XG l)))
set_option maxHeartbeats 32000000 in
theorem Xc0 (l:List St):Xl l≤1000000→gL l=true→∀(p node after:Nat),p+szL l≤4000000→node+wdL l≤4000000→after≤4000000→∀d:Nat,Con Tryz.prog 154 false [lS l,li p,li node,li after] (.v (lNd (Wv l p node after))) none d:=by
 revert l
 apply St.lists;intro l ih hn hg p0 node0 after hp0 hn0 haft d;have hlen:=Q9 l;have hszl:=Qw l;have hwdl:=X74 l
 have hgall:∀s∈l,gS s=true:=by
  intro s hs;clear ih hn hp0 hn0 hlen hszl hwdl
  induction l with
  |nil=>cases hs
  | cons x l ihl=>
    simp only[gL,Bool.and_eq_true]at hg;rcases List.mem_cons.1 hs with rfl|h
    · exact hg.1
    exact ihl hg.2 h
 obtain⟨res,hres⟩:∃r,Wv l p0 node0 after=r:=⟨_,rfl⟩;rw[hres];have hz0:XG []=[]:=rfl;refine X7 Tryz.func154 ?_;simp only[Tryz.f154];refine X4 ?_;refine X4 ?_;refine X0<|X0<|X3 ?_;refine X5<|(Xd [0,3,17,18] (fun(x:Nat×Nat×Nat×List Nd)=>[(1,.v (li ((x.2.1:Nat):Int))),(2,.v (li ((x.2.2.1:Nat):Int))),(9,.v (.one (.own 1003))),(19,.v (li x.1))]) (fun x=>[(1003,.row 143 4 (XG x.2.2.2))]) (fun x=>x.1≤l.length∧x.2.2.2++Wv (l.drop x.1) x.2.1 x.2.2.1 after=res∧x.2.1+szL (l.drop x.1)=p0+szL l∧x.2.2.1+wdL (l.drop x.1)=node0+wdL l∧x.2.2.2.length+wdL (l.drop x.1)≤wdL l) (fun x=>l.length - x.1) (0,p0,node0,[]) ⟨Nat.zero_le _,by simpa using hres,by simp,by simp,by simp⟩ ?_ ?_)
 · exact X6 (fun n=>n) [1003]
 rintro⟨k,p,node,acc⟩ ⟨hk,hJ,hp,hnd,hal⟩;simp only[upS,X8,Xy]
 try simp only[X8,KN,Nat.reduceBEq,if_true,if_false,ins,Nat.reduceLT]
 simp only at hk hJ hp hnd hal;clear hres;refine X4 ?_;refine X0<|(X9 rfl (fun h5=>Xb ?_) (fun h5=>?_))
 · (try simp only[BN]at h5);have hlt:k<l.length:=by first|omega|simpa using h5
   obtain⟨s,he,hd⟩:=Xq hlt;have hw1:=XA hlt (by omega);have hk1:k+1≤l.length:=hlt;have hmem:s∈l:=List.mem_of_getElem? he;have hnm:=Qm hmem;have hgs:=hgall s hmem;rw[hd]at hJ hp hnd hal;simp only[Wv]at hJ;simp only[szL]at hp;simp only[wdL]at hnd hal;have he':=XX he;have iha:=(ih s hmem).1;have ihb:=(ih s hmem).2
   have hlast:(l.drop (k+1)=[])↔(k:Int)=(l.length:Int) - 1:=by
    rw[List.drop_eq_nil_iff];omega
   have cw1:=X4q [s] (by simp only[Xl];obtain⟨_,_,_,_,_,_,_,_⟩:=s;simp only[St.nodes,St.term,St.then_,St.else_]at hnm⊢;omega);have cs1:=W1 [s] (by simp only[Xl];obtain⟨_,_,_,_,_,_,_,_⟩:=s;simp only[St.nodes,St.term,St.then_,St.else_]at hnm⊢;omega);have hsl1:Xa [s]=[s.enc]:=by simp[Xa]
   simp only[wdL,szL,Nat.add_zero]at cw1 cs1;have h0k:0≤(k:Int)+1:=by omega
   have hslc:List.drop k (List.take (k+1) (Xa l))=[s.enc]:=by
    rw[List.take_add_one,he',List.drop_append_of_le_length (by rw[List.length_take,X49];omega),List.drop_eq_nil_of_le (by rw[List.length_take];omega)];rfl
   obtain⟨mid,hmid⟩:∃m,(if l.drop (k+1)=[] then after else node+wdS s)=m:=⟨_,rfl⟩;rw[hmid]at hJ;obtain⟨W,hW⟩:∃m,wdS s=m:=⟨_,rfl⟩;obtain⟨Z,hZ⟩:∃m,szS s=m:=⟨_,rfl⟩;rw[hW]at cw1 hmid hJ hnd hal;rw[hZ]at cs1 hJ hp;have hwW:IntKind.i64.wrap ((node:Int)+(W:Int))=(node:Int)+(W:Int):=Xc (by omega) (by omega);have hwZ:IntKind.i64.wrap ((p:Int)+(Z:Int))=(p:Int)+(Z:Int):=Xc (by omega) (by omega);have hwl:IntKind.i64.wrap ((l.length:Int) - 1)=(l.length:Int) - 1:=Xc (by omega) (by omega);have hmb:mid≤4000000:=by rw[←hmid];split<;>omega
   obtain⟨sd,sc,sv,sn,⟨so,stn,sks⟩,sa,sb,sbs⟩:=s;simp only[St.then_,St.else_,St.term]at iha ihb hnm;simp only[gS,Bool.and_eq_true,Bool.or_eq_true,decide_eq_true_eq,List.isEmpty_iff]at hgs;simp only[wdS]at hW;simp only[szS]at hZ;simp only[St.enc,Tm.enc,List.cons_append,List.nil_append]at he' hsl1 hslc;simp only[lS]at cw1 cs1;rw[hsl1]at cw1 cs1
   have hb0:sd=4→sb=[]:=fun h4=>by
    rcases hgs.1 with(h|h)|h
    · omega
    · exact h.2
    exact h.2
   have hlA:=W5 sa ((p:Int)+1);have hlB:=W5 sb ((p:Int)+1+szL sa);have hwa:=X74 sa;have hwb:=X74 sb;have hla:=Qw sa;have hlb:=Qw sb;have cwa:=X4q sa (by omega);have csa:=W1 sa (by omega);clear hlt h5 ih hmem hgall hd he hg hsl1;refine X0<|X5<|X0<|X3 ?_;refine Xk [⟨true,.v (li (W:Int)),none⟩] ?_ ?_
   · first|exact cw1 _|exact trivial|simpa[*]using cw1 _
   refine X4 ?_;refine(XO [0,1,2,3,9,10,11,12,17,18,19] (fun(z:Nat)=>[(13,.v (li z))]) (fun(z:Nat)=>[(11,.box [.c (iC sd),.c (iC sc),.c (iC sv),.c (iC sn),.c (iC so),.c (iC stn),.c (.sl 3 (Xo sks)),.c (.sl 10 (Xa sa)),.c (.sl 10 (Xa sb)),.c (.sl 1 (Xj sbs))]),(1003,.row 143 4 (XG acc))]) (fun(z:Nat)=>z=mid) ?_ ?_)
   ·
    refine X4 ?_;refine(Xe rfl (fun h11=>?_) fun h11=>?_)
    · (try simp only[BN]at h11);refine X3 ?_;exact⟨after,(by rw[←hmid,if_pos (hlast.2 (by simpa using h11))]),X6 (fun n=>n) []⟩
    (try simp only[BN]at h11);exact⟨node+W,(by rw[←hmid,if_neg fun h=>h11 (hlast.1 h)]),X6 (fun n=>n) []⟩
   rintro z hz;simp only[upS,X8,Xy]
   try simp only[X8,KN,Nat.reduceBEq,if_true,if_false,ins,Nat.reduceLT]
   subst hz;clear hmid hlast;obtain⟨SL,hSL⟩:∃x,X1o (.mk sd sc sv sn (.mk so stn sks) sa sb sbs) p node z=x:=⟨_,rfl⟩;rw[hSL]at hJ
   have hSLl:SL.length≤W:=by
    rw[←hSL,X2Y]
    · simp only[wdS];omega
    simp only[gS,Bool.and_eq_true,Bool.or_eq_true,decide_eq_true_eq,List.isEmpty_iff];exact hgs
   have hwp1:IntKind.i64.wrap ((p:Int)+1)=(p:Int)+1:=Xc (by omega) (by omega);have hwn1:IntKind.i64.wrap ((node:Int)+1)=(node:Int)+1:=Xc (by omega) (by omega);have hwn2:IntKind.i64.wrap ((node:Int)+2)=(node:Int)+2:=Xc (by omega) (by omega);have ep1:((p+1:Nat):Int)=(p:Int)+1:=by omega
   have en1:((node+1:Nat):Int)=(node:Int)+1:=by omega
   have en2:((node+2:Nat):Int)=(node:Int)+2:=by omega
   refine(XO [0,1,3,10,12,17,18,19] (fun(y:List Nd)=>[(9,.v (.one (.own 1003)))]) (fun(y:List Nd)=>[(1003,.row 143 4 (XG y))]) (fun(y:List Nd)=>y=acc++SL) ?_ ?_)
   ·
    refine X4 ?_;refine X5<|X0<|X3 ?_;refine(X9 rfl (fun h18=>?_) (fun h18=>?_))
    · (try simp only[BN]at h18);have h3:sd=3:=by simpa using h18
      subst h3;rw[if_neg (by decide)]at hW;have ca:=iha (by omega) hgs.2.1 (p+1) (node+1) z (by omega) (by omega) hmb;have cb:=ihb (by omega) hgs.2.2 (p+1+szL sa) (node+1+wdL sa) z (by omega) (by omega) hmb;have hAl:=W5 sa ((p+1:Nat):Int) (node+1) z hgs.2.1;have hBl:=W5 sb ((p+1+szL sa:Nat):Int) (node+1+wdL sa) z hgs.2.2
      have hS2:SL=⟨3,p,((if sa=[] then z else node+1:Nat):Int),((if sb=[] then z else node+1+wdL sa:Nat):Int)⟩::(Wv sa ((p+1:Nat):Int) (node+1) z++Wv sb ((p+1+szL sa:Nat):Int) (node+1+wdL sa) z):=by
       rw[←hSL];unfold X1o;rw[if_pos rfl];have e1:((p:Int)+1)=((p+1:Nat):Int):=by omega
       have e2:(((p+1:Nat):Int)+(szL sa:Int))=((p+1+szL sa:Nat):Int):=by omega
       rw[e1,e2];congr 1;by_cases ha:sa=[]<;>by_cases hb:sb=[]<;>simp[ha,hb]
      obtain⟨A,hA⟩:∃x,Wv sa ((p+1:Nat):Int) (node+1) z=x:=⟨_,rfl⟩;obtain⟨B,hB⟩:∃x,Wv sb ((p+1+szL sa:Nat):Int) (node+1+wdL sa) z=x:=⟨_,rfl⟩;rw[hA]at ca hAl hS2;rw[hB]at cb hBl hS2;have eps:((p+1+szL sa:Nat):Int)=(p:Int)+1+(szL sa:Int):=by omega
      have enw:((node+1+wdL sa:Nat):Int)=(node:Int)+1+(wdL sa:Int):=by omega
      rw[ep1,en1]at ca;rw[eps,enw]at cb;have hwps:IntKind.i64.wrap ((p:Int)+1+(szL sa:Int))=(p:Int)+1+(szL sa:Int):=Xc (by omega) (by omega);have hwnw:IntKind.i64.wrap ((node:Int)+1+(wdL sa:Int))=(node:Int)+1+(wdL sa:Int):=Xc (by omega) (by omega);have room1:Qa (acc.length+1) 32:=Xx (by omega) (by decide);have room2:Qa (acc.length+1+wdL sa) 32:=Xx (by omega) (by decide);have room2':Qa (acc.length+(wdL sa+1)) 32:=Xx (by omega) (by decide);have room3:Qa (acc.length+(wdL sa+1)+wdL sb) 32:=Xx (by omega) (by decide);have room3':Qa (acc.length+1+wdL sa+wdL sb) 32:=Xx (by omega) (by decide);clear hSL hSLl hA hB ep1 en1 en2 eps enw iha ihb h18;refine X4 ?_;refine(XO [0,1,2,3,9,10,11,12,13,15,17,18,19] (fun(y:Nat)=>[(14,.v (li y))]) (fun(y:Nat)=>[(11,.box [.c (iC 3),.c (iC sc),.c (iC sv),.c (iC sn),.c (iC so),.c (iC stn),.c (.sl 3 (Xo sks)),.c (.sl 10 (Xa sa)),.c (.sl 10 (Xa sb)),.c (.sl 1 (Xj sbs))]),(1003,.row 143 4 (XG acc))]) (fun(y:Nat)=>y=if sa=[] then z else node+1) ?_ ?_)
      ·
       refine X4 ?_;refine(Xe rfl (fun h22=>?_) fun h22=>?_)
       · (try simp only[BN]at h22);refine X3 ?_;exact⟨node+1,(by rw[if_neg fun h=>by rw[h]at h22;simp at h22]),X6 (fun n=>n) []⟩
       (try simp only[BN]at h22);exact⟨z,(by rw[if_pos (by cases sa with|nil=>rfl|cons _ _=>simp at h22)]),X6 (fun n=>n) []⟩
      rintro y1 hy1;simp only[upS,X8,Xy]
      try simp only[X8,KN,Nat.reduceBEq,if_true,if_false,ins,Nat.reduceLT]
      rw[←hy1]at hS2;clear hy1;refine(XO [0,1,2,3,9,10,11,12,13,14,17,18,19] (fun(y:Nat)=>[(15,.v (li y))]) (fun(y:Nat)=>[(11,.box [.c (iC 3),.c (iC sc),.c (iC sv),.c (iC sn),.c (iC so),.c (iC stn),.c (.sl 3 (Xo sks)),.c (.sl 10 (Xa sa)),.c (.sl 10 (Xa sb)),.c (.sl 1 (Xj sbs))]),(1003,.row 143 4 (XG acc))]) (fun(y:Nat)=>y=if sb=[] then z else node+1+wdL sa) ?_ ?_)
      ·
       refine X4 ?_;refine(Xe rfl (fun h28=>?_) fun h28=>?_)
       · (try simp only[BN]at h28);refine(Xp [⟨true,.v (li (wdL sa:Int)),none⟩] ?_ ?_)
         · first|exact cwa _|exact trivial|simpa[*]using cwa _
         exact⟨node+1+wdL sa,(by rw[if_neg fun h=>by rw[h]at h28;simp at h28]),X6 (fun n=>n) []⟩
       (try simp only[BN]at h28);exact⟨z,(by rw[if_pos (by cases sb with|nil=>rfl|cons _ _=>simp at h28)]),X6 (fun n=>n) []⟩
      rintro y2 hy2;simp only[upS,X8,Xy]
      try simp only[X8,KN,Nat.reduceBEq,if_true,if_false,ins,Nat.reduceLT]
      rw[←hy2]at hS2;have hsn:=encNs_if acc 3 p y1 y2 A B;rw[←hS2]at hsn;clear hy2 hS2;refine X0<|(Xn (by simp[*,XD,Qd,XQ,cellsOf,Qe];rfl) ?_);refine Xk [⟨false,.v (lNd A),none⟩] ?_ ?_
      · first|exact ca _|exact trivial|simpa[*]using ca _
      refine(Z8 [(85,11),(89,11),(95,11)] [⟨true,.v (li (szL sa:Int)),none⟩,⟨true,.v (li (wdL sa:Int)),none⟩,⟨false,.v (lNd B),none⟩] (by kernel_rfl) (by kernel_rfl) (by rfl) (by simp[X3d,X2h,Qq, *];first|exact⟨rfl,Iff.rfl⟩|exact⟨rfl,trivial⟩|rfl) ?_ ?_)
      · first|exact⟨csa _,cwa _,cb _⟩|exact trivial|(repeat' first|exact trivial|exact csa _|exact cwa _|exact cb _|apply And.intro)
      exact⟨acc++SL,rfl,X6 (fun n=>if n=1003 then 101 else n) []⟩
    (try simp only[BN]at h18);refine X4 ?_;refine(X9 rfl (fun h37=>?_) (fun h37=>?_))
    · (try simp only[BN]at h37);have h4:sd=4:=by simpa using h37
      subst h4;have hsb:=hb0 rfl;subst hsb;rw[if_pos rfl]at hW;simp only[wdL,Nat.add_zero]at hW;have ca:=iha (by omega) hgs.2.1 (p+1) (node+2) (node+1) (by omega) (by omega) (by omega);have hAl:=W5 sa ((p+1:Nat):Int) (node+2) (node+1) hgs.2.1
      have hS2:SL=⟨4,p,(node:Int)+1,-1⟩::⟨5,p,((if sa=[] then node+1 else node+2:Nat):Int),z⟩::Wv sa ((p+1:Nat):Int) (node+2) (node+1):=by
       rw[←hSL];unfold X1o;rw[if_neg (by decide),if_pos rfl];have e1:((p:Int)+1)=((p+1:Nat):Int):=by omega
       rw[e1];by_cases ha:sa=[]<;>simp[ha]
      obtain⟨A,hA⟩:∃x,Wv sa ((p+1:Nat):Int) (node+2) (node+1)=x:=⟨_,rfl⟩;rw[hA]at ca hAl hS2;rw[ep1,en1,en2]at ca;have room1:Qa (acc.length+2) 32:=Xx (by omega) (by decide);have room2:Qa (acc.length+2+wdL sa) 32:=Xx (by omega) (by decide);have room2':Qa (acc.length+(wdL sa+1+1)) 32:=Xx (by omega) (by decide);have room2'':Qa (acc.length+(wdL sa+2)) 32:=Xx (by omega) (by decide);clear hSL hSLl hA ep1 en1 en2 iha ihb h37;refine X4 ?_;refine(XO [0,1,2,3,9,10,11,12,13,17,18,19] (fun(y:Nat)=>[(16,.v (li y))]) (fun(y:Nat)=>[(11,.box [.c (iC 4),.c (iC sc),.c (iC sv),.c (iC sn),.c (iC so),.c (iC stn),.c (.sl 3 (Xo sks)),.c (.sl 10 (Xa sa)),.c (.sl 10 (Xa [])),.c (.sl 1 (Xj sbs))]),(1003,.row 143 4 (XG acc))]) (fun(y:Nat)=>y=if sa=[] then node+1 else node+2) ?_ ?_)
      ·
       refine X4 ?_;refine(Xe rfl (fun h41=>?_) fun h41=>?_)
       · (try simp only[BN]at h41);refine X3 ?_;exact⟨node+2,(by rw[if_neg fun h=>by rw[h]at h41;simp at h41]),X6 (fun n=>n) []⟩
       (try simp only[BN]at h41);exact⟨node+1,(by rw[if_pos (by cases sa with|nil=>rfl|cons _ _=>simp at h41)]),X6 (fun n=>n) []⟩
      rintro y1 hy1;simp only[upS,X8,Xy]
      try simp only[X8,KN,Nat.reduceBEq,if_true,if_false,ins,Nat.reduceLT]
      rw[←hy1]at hS2;have hsn:=encNs_lp acc 4 p ((node:Int)+1) (-1) 5 p y1 z A;rw[←hS2]at hsn;clear hy1 hS2;refine X0<|(Xn (by simp[*,XD,Qd,XQ,cellsOf,Qe];rfl) ?_);refine(Xp [⟨false,.v (lNd A),none⟩] ?_ ?_)
      · first|exact ca _|exact trivial|simpa[*]using ca _
      exact⟨acc++SL,rfl,X6 (fun n=>if n=1003 then 133 else n) []⟩
    (try simp only[BN]at h37);have h3:¬sd=3:=by simpa using h18
    have h4:¬sd=4:=by simpa using h37
    have hS2:SL=[⟨2,p,z,-1⟩]:=by
     rw[←hSL];unfold X1o;rw[if_neg h3,if_neg h4]
    have hsn:=encNs_lf acc 2 p z (-1);rw[←hS2]at hsn;have room1:Qa (acc.length+1) 32:=Xx (by omega) (by decide);clear hSL hS2 hSLl ep1 en1 en2 iha ihb;refine(Xn (by simp[*,XD,Qd,XQ,cellsOf,Qe];rfl) ?_);exact⟨acc++SL,rfl,X6 (fun n=>if n=1003 then 46 else n) []⟩
   rintro y hy;simp only[upS,X8,Xy]
   try simp only[X8,KN,Nat.reduceBEq,if_true,if_false,ins,Nat.reduceLT]
   rw[←List.append_assoc,←hy]at hJ;have hyl:y.length≤acc.length+W:=by rw[hy,List.length_append];omega
   refine Xk [⟨true,.v (li (Z:Int)),none⟩] ?_ ?_
   · first|exact cs1 _|exact trivial|simpa[*]using cs1 _
   refine X3 ?_;refine X3 ?_;exact⟨(k+1,p+Z,node+W,y),⟨hk1,hJ,by simp only;omega,by simp only;omega,by simp only;omega⟩,by simp only;omega,X6 (fun n=>n) []⟩
 (try simp only[BN]at h5);have hkl:k=l.length:=by first|omega|(have:¬k<l.length:=by simpa using h5;omega)
 rw[hkl,List.drop_length]at hJ;simp only[Wv,List.append_nil]at hJ;subst hJ;refine(Xg ?_);refine X4 ?_;exact XU ⟨.inr rfl,_,XR 1003 rfl,⟨⟨_,by simp;rfl,by simp[XN]⟩,by simp,fun h=>by cases h⟩⟩
end Go.Proofs.YtppjennamodfdaaGreat

namespace Go.Proofs.YtppjennamodfdaaGreat
open Go Go.Hl
set_option maxHeartbeats 8000000 in
theorem X4B (f:Fl) (hb:Xl f.body≤1000000) (hg:gL f.body=true) (d:Nat):Con Tryz.prog 126 false [aF f] (.v (.agg [.c (grC f.body)])) none d:=by
 have cw:=X4q f.body (by omega);have hs:=Qw f.body;have hw:=X74 f.body;have cl:=Xc0 f.body hb hg 0 1 (1+wdL f.body) (by omega) (by omega) (by omega);have hl:=W5 f.body ((0:Nat):Int) 1 (1+wdL f.body) hg
 have hgr:XG (grN f.body)=[iC 0,iC (-1),iC 1,iC (-1)]::(XG (Wv f.body ((0:Nat):Int) 1 (1+wdL f.body))++[[iC 1,iC (-1),iC (-1),iC (-1)]]):=by
  unfold grN;by_cases h:f.body=[]
  · rw[h];simp[XG,Wv,wdL]
  simp[XG,h]
 obtain⟨vars,hats,body⟩:=f;simp only at cw hs hw cl hl hgr hb⊢;simp only[grC];rw[hgr];obtain⟨W,hW⟩:∃x,wdL body=x:=⟨_,rfl⟩;rw[hW]at cw hw cl hl;rw[hW];obtain⟨L,hL⟩:∃x,Wv body ((0:Nat):Int) 1 (1+W)=x:=⟨_,rfl⟩;rw[hL]at cl hl;rw[hL];have e1:((1+W:Nat):Int)=1+(W:Int):=by omega
 have e0:((0:Nat):Int)=0:=rfl;have e2:((1:Nat):Int)=1:=rfl;rw[e1,e0,e2]at cl;have hw1:IntKind.i64.wrap (1+(W:Int))=1+(W:Int):=Xc (by omega) (by omega);have room1:Qa (1+W) 32:=Xx (by omega) (by decide);have room2:Qa (1+W+1) 32:=Xx (by omega) (by decide);have room1':Qa (W+1) 32:=Xx (by omega) (by decide);have room2':Qa (W+1+1) 32:=Xx (by omega) (by decide);clear hgr hL hW e1 e0 e2 hg;simp only[aF,Fl.enc,List.map_cons,List.map_nil];refine X7 Tryz.func126 ?_;simp only[Tryz.f126];refine X4 ?_;refine Xk [⟨true,.v (li W),none⟩] ?_ ?_
 · first|exact cw _|exact trivial|simpa[*]using cw _
 refine X0<|(Xn (by simp[*,XD,Qd,XQ,cellsOf,Qe];rfl) ?_);refine Xk [⟨false,.v (lNd L),none⟩] ?_ ?_
 · first|exact cl _|exact trivial|simpa[*]using cl _
 refine X0<|(Xn (by simp[*,XD,Qd,XQ,cellsOf,Qe];rfl) ?_);exact XU ⟨.inr rfl,_,XR 20 rfl,⟨⟨_,by simp;rfl,by simp[XN]⟩,by simp,fun h=>by cases h⟩⟩
theorem X8g (f:Fl) (hb:Xl f.body≤1000000) (hg:gL f.body=true) (d:Nat):Con Tryz.prog 87 false [aF f] (.v (.agg [.c (grC f.body)])) none d:=by
 have cb:=X4B f hb hg;obtain⟨vars,hats,body⟩:=f;simp only at cb⊢;simp only[grC]at cb⊢;obtain⟨G,hG⟩:∃x,XG (grN body)=x:=⟨_,rfl⟩;rw[hG]at cb⊢;clear hG;simp only[aF,Fl.enc,List.map_cons,List.map_nil]at cb⊢;refine X7 Tryz.func87 ?_;simp only[Tryz.f87];refine X4 ?_;refine Xk [⟨false,.v (.agg [.c (.sl 4 G)]),none⟩] ?_ ?_
 · first|exact cb _|exact trivial|simpa[*]using cb _
 exact Xh
theorem X2r (f:Fl) (h:Sm f) (hg:gL f.body=true) (hR:∀d,Con Tryz.prog 86 false [aF f] (.v (.one (.c (.sl 1 (Q7 (rcL (grN f.body) (flL f.body) f.vars.length)))))) none d) (d:Nat):
  Con Tryz.prog 58 false [aF f] (.v (.one (.c (.sl 1 (Q7 (rdT f)))))) none d:=by
 have cs:=W1 f.body (by have:=h.nodes;omega);have cg:=X8g f (by have:=h.nodes;omega) hg;have hok:∀x∈grN f.body,ndOK (grN f.body).length (szL f.body) x:=X5S hg;have hLl:(rcL (grN f.body) (flL f.body) f.vars.length).length=(grN f.body).length:=by simp[rcL]
 have hnl:szL f.body≤1000:=by have:=Qw f.body;have:=h.nodes;omega
 have hNl:(grN f.body).length≤100000:=by
  simp only[grN,List.length_cons,List.length_append,W5 f.body _ _ _ hg,List.length_nil];have:=X74 f.body;omega
 have hT:rdF (szL f.body) ((grN f.body).zip (rcL (grN f.body) (flL f.body) f.vars.length))=rdT f:=rfl;obtain⟨N,hN⟩:∃x,grN f.body=x:=⟨_,rfl⟩;obtain⟨L,hL⟩:∃x,rcL N (flL f.body) f.vars.length=x:=⟨_,rfl⟩;obtain⟨n,hn⟩:∃x,szL f.body=x:=⟨_,rfl⟩;rw[hN,hL]at hR hLl hT;rw[hN]at hok hNl;simp only[grC]at cg;rw[hN]at cg;rw[hn]at cs hok hnl hT;rw[←hT];obtain⟨vars,hats,body⟩:=f;simp only at cs;clear h hN hL hn hT hg;simp only[aF,Fl.enc,List.map_cons,List.map_nil]at hR cg⊢;have hbig:(24:Int)*n≤281474976710656:=by omega
 have hmx:n≤maxLen:=by unfold maxLen;omega
 refine X7 Tryz.func58 ?_;simp only[Tryz.f58];refine X4 ?_;refine Xk [⟨true,.v (li n),none⟩] ?_ ?_
 · first|exact cs _|exact trivial|simpa[*]using cs _
 refine Xk [⟨false,.v (.one (.c (.sl 1 (Q7 L)))),none⟩] ?_ ?_
 · first|exact hR _|exact trivial|simpa[*]using hR _
 refine XC (X6P (e:=27) (k:=n) 10 (by simp)) ?_;simp only[rwO,Nat.reduceEqDiff,if_true,if_false];refine X0<|X0<|(Xp [⟨false,.v (.agg [.c (.sl 4 (XG N))]),none⟩] ?_ ?_)
 · first|exact cg _|exact trivial|simpa[*]using cg _
 refine X5<|(Xd [3,4,15,16] (fun(y:Nat)=>[(17,.v (li y))]) (fun y=>[(10,.row 27 1 (Q7 (rdF n ((N.zip L).take y))))]) (fun y=>y≤N.length) (fun y=>N.length - y) (0:Nat) (Nat.zero_le _) ?_ ?_)
 · exact Xu (fun n=>n) [] rfl (by simp[*,upS,X8]) (by simp[*,upS,rdF,X6w]) (by simp[upS])
 rintro y hy;simp only[upS,X8,Xy]
 try simp only[X8,KN,Nat.reduceBEq,if_true,if_false,ins,Nat.reduceLT]
 refine X4 ?_;refine X0<|(X9 rfl (fun h6=>Xb ?_) (fun h6=>?_))
 · (try simp only[BN]at h6);have hlt:y<N.length:=by first|omega|simpa using h6
   obtain⟨x,hx,_⟩:=Xq hlt;obtain⟨Li,hLi,_⟩:=Xq (show y<L.length by omega);have hwd:=hok x (List.mem_of_getElem? hx);have hxe:=ZK hx;have hle:=WL hLi
   have hsn:rdF n ((N.zip L).take (y+1))=if rdB x=true then(rdF n ((N.zip L).take y)).set x.a.toNat Li else rdF n ((N.zip L).take y):=by
    rw[List.take_add_one,show(N.zip L)[y]? =some (x,Li) by rw[List.getElem?_zip_eq_some];exact⟨hx,hLi⟩,Option.toList_some,X8z]
   have hrdl:=X0q n ((N.zip L).take y);obtain⟨RD,hRD⟩:∃z,rdF n ((N.zip L).take y)=z:=⟨_,rfl⟩;rw[hRD]at hsn hrdl⊢;have hk1:y+1≤N.length:=hlt;have hyb:N.length≤1000000000:=by omega
   have hw1:=XA hlt hyb;obtain⟨xk,xa,xn,xo⟩:=x;simp only[Nd.enc]at hxe;clear hlt h6 hx hLi hRD;refine X0<|X5<|X0<|X3 ?_;refine XO [3,4,5,6,15,16,17] (fun(q:Bool)=>[(29,.v (lb q))]) (fun(q:Bool)=>[(6,.box [.c (iC xk),.c (iC xa),.c (iC xn),.c (iC xo)]),(10,.row 27 1 (Q7 RD))]) (fun(q:Bool)=>q=rdB ⟨xk,xa,xn,xo⟩) ?_ ?_
   · refine Xn (by simp[*];rfl) ?_;exact⟨_,rfl,Xu (fun n=>n) [] rfl (by simp[upS,X8,rdB]<;>rfl) (by simp[upS]) (by simp[upS])⟩
   rintro q hq;simp only[upS,X8,Xy]
   try simp only[X8,KN,Nat.reduceBEq,if_true,if_false,ins,Nat.reduceLT]
   refine(Xe rfl (fun h9=>?_) fun h9=>?_)
   · (try simp only[BN]at h9);have hqt:q=true:=by simpa using h9
     subst hqt;rw[if_pos hq.symm]at hsn
     obtain⟨m,hm,hmn⟩:∃m:Nat,xa=m∧m<n:=by
      rcases hwd.ha with⟨_,h⟩|h
      · simp only at h;rw[h]at hq;simp[rdB]at hq
      exact h
     subst hm;simp only[Int.toNat_natCast]at hsn;obtain⟨o,ho,_⟩:=Xq (show m<RD.length by omega);have ho':=WL ho;have hset:=X6W RD m Li;rw[←hsn]at hset;have hml:m+1≤RD.length:=by omega
     clear hq h9 hwd hsn ho hmn hrdl;refine(X5f [(31,6)] (by kernel_rfl) (by kernel_rfl) (by rfl) (by simp[evsH,X2h,Qq, *,setRow];rfl) ?_);refine X3 ?_;exact⟨y+1,hk1,by omega,X6 (fun n=>n) []⟩
   (try simp only[BN]at h9);have hqt:q=false:=by simpa using h9
   subst hqt;rw[if_neg (by rw[←hq];simp)]at hsn;clear hq h9 hwd hrdl;refine X3 ?_;exact⟨y+1,hk1,by omega,X6 (fun n=>n) []⟩
 (try simp only[BN]at h6);have hyn:y=N.length:=by first|omega|(have:¬y<N.length:=by simpa using h6;omega)
 subst hyn;have htk:(N.zip L).take N.length=N.zip L:=List.take_of_length_le (by rw[List.length_zip];omega);rw[htk];obtain⟨RD,hRD⟩:∃z,rdF n (N.zip L)=z:=⟨_,rfl⟩;rw[hRD]at*;clear hRD htk h6;refine(Xg ?_);refine X4 ?_;exact XU ⟨.inr rfl,_,XR 10 rfl,⟨⟨_,by simp;rfl,by simp[XN]⟩,by simp,fun h=>by cases h⟩⟩
end Go.Proofs.YtppjennamodfdaaGreat

namespace Go.Proofs.YtppjennamodfdaaGreat
open Go Go.Hl
def d0B (L:List St) (ar:List Int) (rd:List (List Nat)) (t s:Nat):Bool:=
 decide (s=t)||(match L[t]?,ar[t]?,rd[t]? with
  | some q,some a,some r=>decide (a=(s:Int))||(match L[s]? with
    |some w=>((decide (w.do_=0)||decide (w.do_=5))&&rvB w.var q.term)&&decide ((s:Int)∈r.map Int.ofNat)
    |none=>false)
  |_,_,_=>false)
noncomputable def d0F (f:Fl):Nat→Nat→Bool:=d0B (flL f.body) (arL f.body (-1) 0) (rdT f)
theorem rc_asg {N:List Nd} {steps:List St} {nv to d:Nat} (h:Rc N steps nv to d):∀w,steps[d]? =some w→w.do_=0∨w.do_=5:=by
 induction h with
 | entry _ _ _ hv=>
   intro w hw;have:=(List.getElem?_eq_some_iff.1 hw).1;omega
 |pass _ _ _ _ _ ih=>exact ih
 | gen hx h0 ht ha=>
   intro w hw;unfold Qp at ha;rw[hw]at ha;simpa using(by simpa using ha:_∧_).2
theorem rdT_asg {f:Fl}:∀r∈rdT f,∀d∈r,∀w,(flL f.body)[d]? =some w→w.do_=0∨w.do_=5:=by
 have key:=XbD (P:=fun r=>∀d∈r,∀w,(flL f.body)[d]? =some w→w.do_=0∨w.do_=5) (fun d hd=>by cases hd) (szL f.body) ((grN f.body).zip (rcL (grN f.body) (flL f.body) f.vars.length)) (fun p hp=>by
  have h2:=(List.of_mem_zip hp).2;simp only[rcL,List.mem_map]at h2;obtain⟨to,_,h3⟩:=h2;intro d hd;rw[←h3]at hd;have:=(List.mem_filter.1 hd).2
  exact rc_asg (N:=grN f.body) (steps:=flL f.body) (nv:=f.vars.length) (to:=to) (by simpa using this))
 exact key
theorem X7z {f:Fl} (h0:Qb f=0) {t:Nat} {q:St} (h:(flL f.body)[t]? =some q) (hb:Wm f.body=true):QS f.vars false q.term=true:=by
 have hw:=(X86 hb h0).1
 have key:∀l:List St,wfL f.vars f.hats.length l=true→∀q∈flL l,QS f.vars false q.term=true:=by
  apply St.lind
  · intro _ q hq;simp[flL]at hq
  intro d c v n t a b bs l ia ib il hw q hq;simp only[wfL,wfS,Bool.and_eq_true]at hw;simp only[flL,flS,List.cons_append,List.mem_cons,List.mem_append]at hq;rcases hq with rfl|(hq|hq)|hq
  · exact hw.1.1
  · exact ia hw.1.2.2.2.2.2.1 q hq
  · exact ib hw.1.2.2.2.2.2.2 q hq
  exact il hw.2 q hq
 exact key _ hw q (List.mem_of_getElem? h)
theorem Xat {f:Fl} (h:Sm f) (h0:Qb f=0) (t s:Nat):d0F f t s=true↔s=t∨s∈(Q5 f)[t]?.getD []:=by
 have hlen:=XK f.body;have har:=Zg f.body (-1) 0;have hrl:(rdT f).length=szL f.body:=X0q _ _;unfold d0F d0B;by_cases ht:t<szL f.body
 · have e1:(flL f.body)[t]? =some ((flL f.body)[t]'(by omega)):=List.getElem?_eq_getElem _;have e2:(arL f.body (-1) 0)[t]? =some ((arL f.body (-1) 0)[t]'(by omega)):=List.getElem?_eq_getElem _;have e3:(rdT f)[t]? =some ((rdT f)[t]'(by omega)):=List.getElem?_eq_getElem _;have hf:=X7z h0 e1 h.bnd;have hasg:=rdT_asg (f:=f) _ (List.mem_of_getElem? e3);rw[dir_mem e1 e2 e3];simp only[e1,e2,e3];obtain⟨q,hq⟩:∃x,(flL f.body)[t]'(by omega)=x:=⟨_,rfl⟩;obtain⟨a,ha⟩:∃x,(arL f.body (-1) 0)[t]'(by omega)=x:=⟨_,rfl⟩;obtain⟨r,hr⟩:∃x,(rdT f)[t]'(by omega)=x:=⟨_,rfl⟩;simp only[hq,ha,hr]at hf hasg⊢;have hbnd:=X5n f.body (-1) 0 (by omega) a (by rw[←ha];exact List.getElem_mem _)
   have hmr:((s:Int)∈r.map Int.ofNat)↔s∈r:=by
    rw[List.mem_map];constructor
    · rintro⟨x,hx,he⟩;have:x=s:=Int.ofNat.inj he
      rwa [←this]
    exact fun hx=>⟨s,hx,rfl⟩
   simp only[Bool.or_eq_true,decide_eq_true_eq];refine or_congr Iff.rfl (or_congr ⟨fun h=>⟨by omega,by omega⟩,fun⟨h1,h2⟩=>by omega⟩ ?_);by_cases hs:s<szL f.body
   · have e4:(flL f.body)[s]? =some ((flL f.body)[s]'(by omega)):=List.getElem?_eq_getElem _;obtain⟨w,hw⟩:∃x,(flL f.body)[s]'(by omega)=x:=⟨_,rfl⟩;rw[hw]at e4;have hvo:Qx (flL f.body) s=w.var:=by unfold Qx;rw[e4]
     rw[e4,hvo];simp only[Bool.and_eq_true,Bool.or_eq_true,decide_eq_true_eq];rw[X52 w.var q.term hf,hmr];exact⟨fun⟨⟨_,h2⟩,h3⟩=>⟨by omega,h3,h2⟩,fun⟨_,h3,h2⟩=>⟨⟨hasg s h3 w e4,h2⟩,h3⟩⟩
   rw[List.getElem?_eq_none (by omega)];simp only[Bool.false_eq_true,false_iff,not_and];intro h1;omega
 rw[List.getElem?_eq_none (by omega),List.getElem?_eq_none (l:=Q5 f) (by rw[Qy];omega)];simp
theorem cl_one {L:List (List Nat)} (l:List Nat) (d:Nat):Cl L l d↔∃t,t∈l∧Cl L [t] d:=by
 constructor
 · intro h
   induction h with
   |base h=>exact⟨_,h,.base (by simp)⟩
   | step _ h2 ih=>
     obtain⟨t,h3,h4⟩:=ih;exact⟨t,h3,.step h4 h2⟩
 rintro⟨t,h1,h2⟩;exact Cl.mono (fun d hd=>by rw[List.mem_singleton.1 hd];exact .base h1) h2
theorem Xbs {f:Fl} (h:Sm f) (h0:Qb f=0) {t s:Nat} (ht:t<szL f.body) (hs:s<szL f.body):fwM (szL f.body) (d0F f) (szL f.body) t s=true↔Cl (Q5 f) [t] s:=by
 have hn:(Q5 f).length=szL f.body:=by rw[Qy,XK]
 constructor
 · intro hm;refine X6Q (Q:=fun a b=>Cl (Q5 f) [a] b) (fun a b c h1 h2=>Cl.mono (fun d hd=>by rw[List.mem_singleton.1 hd];exact h1) h2) (fun a b hab=>?_) _ t s hm;rcases(Xat h h0 a b).1 hab with rfl|hab
   · exact .base (by simp)
   exact .step (.base (by simp)) hab
 intro hc
 have key:∀s,Cl (Q5 f) [t] s→s<szL f.body∧fwM (szL f.body) (d0F f) (szL f.body) t s=true:=by
  intro s hc
  induction hc with
  | base hb=>
    rw[List.mem_singleton.1 hb];exact⟨ht,X61 _ _ _ _ _ ((Xat h h0 t t).2 (.inl rfl))⟩
  | step _ h2 ih=>
    rename_i d x _;obtain⟨i1,i2⟩:=ih
    have hx:x<szL f.body:=by
     have e:(Q5 f)[d]? =some ((Q5 f)[d]'(by omega)):=List.getElem?_eq_getElem _;rw[e]at h2;have:=(X0k h _ (List.mem_of_getElem? e)).2 x h2;omega
    exact⟨hx,X7i _ _ _ (Nat.le_refl _) t x d ht hx i1 i2 (X61 _ _ _ _ _ ((Xat h h0 d x).2 (.inr h2)))⟩
 exact(key s hc).2
theorem X9s (n:Nat) (p:Nat→Bool) (t:List Nat) (h:∀d,d<n→(p d=true↔d∈t)):(List.range n).filter p=X4o n t:=by
 unfold X4o;refine List.filter_congr fun d hd=>?_;rw[Bool.eq_iff_iff,decide_eq_true_eq];exact h d (List.mem_range.1 hd)
theorem back_eq {f:Fl} (h:Sm f) (h0:Qb f=0) {q:List Int} (hq:okQ (szL f.body) q):((List.range (szL f.body)).filter fun s=>q.any fun t=>fwM (szL f.body) (d0F f) (szL f.body) t.toNat s)=bwL f q:=by
 have hn:(Q5 f).length=szL f.body:=by rw[Qy,XK]
 unfold bwL;rw[hn];refine X9s _ _ _ fun d hd=>?_;have hc:=(We (X10 h) (l0:=QL q) (by rw[hn];exact hq.nat)).2 d;rw[hc,cl_one,List.any_eq_true];constructor
 · rintro⟨t,h1,h2⟩;have:=hq t h1;exact⟨t.toNat,List.mem_map.2 ⟨t,h1,rfl⟩,(Xbs h h0 (by omega) hd).1 h2⟩
 rintro⟨t,h1,h2⟩;obtain⟨x,hx,rfl⟩:=List.mem_map.1 h1;have:=hq x hx;exact⟨x,hx,(Xbs h h0 (by omega) hd).2 h2⟩
end Go.Proofs.YtppjennamodfdaaGreat

namespace Go.Proofs.YtppjennamodfdaaGreat
open Go Go.Hl
def cutM (D:Nat→Nat→Bool) (b:Nat):Nat→Nat→Bool:=fun x y=>if y<b then D x y else false
def X2O (n:Nat) (D:Nat→Nat→Bool) (k b:Nat):List (List CD):=WS n (cutM D b) k
def X0n (n:Nat) (D:Nat→Nat→Bool) (k:Nat):List (Option (List (List CD))):=(List.range n).map fun a=>if a<k then some (WS n D a)else none
theorem X98 (n:Nat) (D:Nat→Nat→Bool) (k b:Nat):(X2O n D k b).length=n:=X5w _ _ _
theorem Xck (n:Nat) (D:Nat→Nat→Bool) (k:Nat):List.replicate n [bC false]=X2O n D k 0:=by
 apply List.ext_getElem?;intro i;by_cases h:i<n<;>simp[X2O,WS,cutM,List.getElem?_replicate,h]
theorem rowH_set {n k b:Nat} {D:Nat→Nat→Bool} (h:b<n):(X2O n D k b).set b [bC (D k b)]=X2O n D k (b+1):=by
 apply List.ext_getElem?;intro i;rw[List.getElem?_set,X98];by_cases e:b=i
 · subst e;simp[X2O,WS,cutM,h]
 rw[if_neg e];by_cases hi:i<n
 · have:(i<b+1)↔(i<b):=by omega
   simp[X2O,WS,cutM,hi,this]
 simp[X2O,WS,hi]
theorem XbR {n k:Nat} {D:Nat→Nat→Bool}:X2O n D k n=WS n D k:=by
 apply List.ext_getElem?;intro i;by_cases hi:i<n<;>simp[X2O,WS,cutM,hi]
theorem X6D (n:Nat) (D:Nat→Nat→Bool) (k:Nat):(X0n n D k).length=n:=by simp[X0n]
theorem XaO (n:Nat) (D:Nat→Nat→Bool):X0n n D 0=List.replicate n none:=by
 apply List.ext_getElem?;intro i;by_cases h:i<n<;>simp[X0n,List.getElem?_replicate,h]
theorem Xav (n:Nat) (D:Nat→Nat→Bool):X0n n D n=Zi n D:=by
 apply List.ext_getElem?;intro i;by_cases h:i<n<;>simp[X0n,Zi,h]
theorem XaT {n k:Nat} {D:Nat→Nat→Bool} (h:k<n):ZO (X0n n D k) k=true:=by simp[ZO,X0n,h]
theorem XcV {n k:Nat} {D:Nat→Nat→Bool} (h:k<n):(X0n n D k).set k (some (WS n D k))=X0n n D (k+1):=by
 apply List.ext_getElem?;intro i;rw[List.getElem?_set,X6D];by_cases e:k=i
 · subst e;simp[X0n,h]
 rw[if_neg e];by_cases hi:i<n
 · have e2:(i<k)↔(i<k+1):=by omega
   simp[X0n,hi,e2]
 simp[X0n,hi]
set_option maxHeartbeats 64000000 in
theorem X8w (f:Fl) (h:Sm f) (h0:Qb f=0) (hR:∀d,Con Tryz.prog 86 false [aF f] (.v (.one (.c (.sl 1 (Q7 (rcL (grN f.body) (flL f.body) f.vars.length)))))) none d) (d:Nat):
  Con Tryz.prog 49 false [aF f] (.v (.one (.c (matB (szL f.body) (fwM (szL f.body) (d0F f) (szL f.body)))))) none d:=by
 have hg:=(X7k h h0).g;have cst:=X4A f (by have:=h.nodes;omega);have cre:=X2r f h hg hR;have car:=Xac f.body (by have:=h.nodes;omega) 0 (-1) (by have:=h.nodes;have:=Qw f.body;omega);have hnl:szL f.body≤1000:=by have:=Qw f.body;have:=h.nodes;omega
 have hLl:=XK f.body;have hAl:=Zg f.body (-1) 0;have hRl:(rdT f).length=szL f.body:=X0q _ _;have hrow:∀r∈rdT f,r.length≤5000:=fun r hr=>((Wl h).rdl r hr).1;have hnod:∀q∈flL f.body,q.term.nodes≤1000000:=(Wl h).nod;have hd0:∀t s,d0F f t s=d0B (flL f.body) (arL f.body (-1) 0) (rdT f) t s:=fun _ _=>rfl;obtain⟨D,hD⟩:∃x,d0F f=x:=⟨_,rfl⟩;rw[hD]at hd0⊢;obtain⟨RD,hRD⟩:∃x,rdT f=x:=⟨_,rfl⟩;rw[hRD]at cre hRl hrow hd0;obtain⟨vars,hats,body⟩:=f;simp only at car hnl hLl hAl hRl hnod hd0 cst⊢;obtain⟨n,hn⟩:∃x,szL body=x:=⟨_,rfl⟩;obtain⟨L,hL⟩:∃x,flL body=x:=⟨_,rfl⟩;obtain⟨AR,hAR⟩:∃x,arL body (-1) 0=x:=⟨_,rfl⟩;have e0:((0:Nat):Int)=0:=rfl;rw[hAR,e0]at car;rw[hn]at hnl hLl hAl hRl⊢;rw[hL]at hLl hnod cst hd0;rw[hAR]at hAl hd0;clear h h0 hR hg hD hRD hn hL hAR e0;simp only[aF,Fl.enc,List.map_cons,List.map_nil]at cst cre⊢;have hmx:n≤maxLen:=by unfold maxLen;omega
 have hmx2:(n:Int)≤maxLen:=by unfold maxLen;omega
 have hbig:(24:Int)*n≤281474976710656:=by omega
 have hbig2:(n:Int)≤281474976710656:=by omega
 have hz:=XaO n D;refine X7 Tryz.func49 ?_;simp only[Tryz.f49];refine X4 ?_;refine X0<|(Z8 [(18,1)] [⟨false,.v (lS L),none⟩,⟨false,.v (.one (.c (.sl 1 (Q7 RD)))),none⟩,⟨false,.v (lI AR),none⟩] (by kernel_rfl) (by kernel_rfl) (by rfl) (by simp[X3d,X2h,Qq, *];first|exact⟨rfl,Iff.rfl⟩|exact⟨rfl,trivial⟩|rfl) ?_ ?_)
 · first|exact⟨cst _,cre _,car _⟩|exact trivial|(repeat' first|exact trivial|exact cst _|exact cre _|exact car _|apply And.intro)
 refine X4 ?_;refine X4 ?_;refine XC (X5T (k:=n) 24 4 1 (by decide) (by decide) (by simp;rfl) (by simp[RV.menA,TV.menA,CV.menA]) (by simp[Ob.menA,CV.menA])) ?_;refine X0<|X0<|X3 ?_;refine X5<|(Xd [3,4,5,6,7,25] (fun(k:Nat)=>[(26,.v (li k))]) (fun k=>[(24,.mat 92 4 1 (X0n n D k))]) (fun k=>k≤n) (fun k=>n - k) (0:Nat) (Nat.zero_le _) ?_ ?_)
 · exact X6 (fun n=>n) []
 rintro k hk;simp only[upS,X8,Xy]
 try simp only[X8,KN,Nat.reduceBEq,if_true,if_false,ins,Nat.reduceLT]
 refine X4 ?_;refine X0<|(X9 rfl (fun h7=>Xb ?_) (fun h7=>?_))
 · (try simp only[BN]at h7);have hlt:k<n:=by first|omega|simpa using h7
   have hw1:IntKind.i64.wrap ((k:Int)+1)=(k:Int)+1:=Xc (by omega) (by omega);have hk1:k+1≤n:=hlt;have hKl:=X6D n D k;have hKf:=@XaT n k D hlt;have hH0:=Xck n D k;have hHf:=@XbR n k D;have hKs:=@XcV n k D hlt;have hbc:∀x:Bool,(CD.lit (.bool x))=bC x:=fun _=>rfl;obtain⟨KM,hKM⟩:∃x,X0n n D k=x:=⟨_,rfl⟩;rw[hKM]at hKl hKf hKs⊢;clear h7 hKM hz;refine X0<|X5<|X0<|X3 ?_;refine X4 ?_;refine X4 ?_;refine X5<|(Xd [3,4,5,6,7,8,25,26,34] (fun(b:Nat)=>[(35,.v (li b))]) (fun b=>[(24,.mat 92 4 1 (KM.set k (some (X2O n D k b))))]) (fun b=>b≤n) (fun b=>n - b) (0:Nat) (Nat.zero_le _) ?_ ?_)
   · exact X6 (fun n=>n) []
   rintro b hb;simp only[upS,X8,Xy]
   try simp only[X8,KN,Nat.reduceBEq,if_true,if_false,ins,Nat.reduceLT]
   refine X4 ?_;refine X0<|(X9 rfl (fun h13=>Xb ?_) (fun h13=>?_))
   · (try simp only[BN]at h13);have hltb:b<n:=by first|omega|simpa using h13
     have hwb:IntKind.i64.wrap ((b:Int)+1)=(b:Int)+1:=Xc (by omega) (by omega);have hb1:b+1≤n:=hltb;obtain⟨w,hew,_⟩:=Xq (show b<L.length by omega);obtain⟨q,heq,_⟩:=Xq (show k<L.length by omega);obtain⟨ark,hea,_⟩:=Xq (show k<AR.length by omega);obtain⟨r,her,_⟩:=Xq (show k<RD.length by omega);have hew':=XX hew;have heq':=XX heq;have hea':=X4i hea;have her':=WL her;have crd:=X3V w.var q.term (by have:=hnod q (List.mem_of_getElem? heq);omega);have chd:=X5K r b (by have:=hrow r (List.mem_of_getElem? her);omega);have hdv:=hd0 k b;unfold d0B at hdv;rw[heq,hea,her]at hdv;simp only at hdv;rw[hew]at hdv;simp only[X9N]at hdv;have hset:=@rowH_set n k b D hltb;have hRHl:=X98 n D k b;obtain⟨RH,hRH,hRt⟩:∃x,X2O n D k b=x∧∀h:b<x.length,(x[b]'h).tail=[]:=⟨_,rfl,fun h=>by simp[X2O]⟩;rw[hRH]at hset hRHl;have hK2l:(KM.set k (some RH)).length=n:=by rw[List.length_set];exact hKl
     have hK2g:(KM.set k (some RH))[k]? =some (some RH):=by rw[List.getElem?_set_self (by omega)]
     have hK2s:(KM.set k (some RH)).set k (some (X2O n D k (b+1)))=KM.set k (some (X2O n D k (b+1))):=List.set_set ..;rw[hRH];obtain⟨K2,hK2⟩:∃x,KM.set k (some RH)=x:=⟨_,rfl⟩;rw[hK2]at hK2l hK2g hK2s⊢;have hK2e:∀h:k<K2.length,K2[k]'h=some RH:=fun h=>by rw[List.getElem?_eq_getElem h]at hK2g;exact Option.some.inj hK2g
     obtain⟨wd,wc,wv,wn,⟨wo,wtn,wks⟩,wa,wb,wbs⟩:=w;obtain⟨qd,qc,qv,qn,⟨qo,qtn,qks⟩,qa,qb,qbs⟩:=q;simp only[St.enc,Tm.enc,List.cons_append,List.nil_append]at hew' heq';simp only[St.var,St.term,St.do_,aT,Tm.enc,List.map_cons,List.map_nil]at crd hdv;obtain⟨R,hR⟩:∃x,rvB wv (.mk qo qtn qks)=x:=⟨_,rfl⟩;rw[hR]at crd hdv;obtain⟨G,hG⟩:∃x,decide (b∈r)=x:=⟨_,rfl⟩;rw[hG]at chd hdv;have hdv:D k b=(decide (b=k)||(decide (ark=(b:Int))||(((decide (wd=0)||decide (wd=5))&&R)&&G))):=hdv;clear h13 hew heq hea her hRH hK2 hR hG hKf hH0 hHf hKs hKl hd0 hnod hrow hLl hAl hRl;refine X0<|X5<|X0<|X3 ?_;refine XO [3,4,5,6,7,8,9,25,26,34,35] (fun(W:Bool)=>[(10,.v (lb W))]) (fun(W:Bool)=>[(24,.mat 92 4 1 K2)]) (fun(W:Bool)=>W=(decide (wd=0)||decide (wd=5))) ?_ ?_
     · refine Xn (by simp[*];rfl) ?_;exact⟨_,rfl,Xu (fun n=>n) [] rfl (by simp[upS,X8]<;>rfl) (by simp[upS]) (by simp[upS])⟩
     rintro W hW;simp only[upS,X8,Xy]
     try simp only[X8,KN,Nat.reduceBEq,if_true,if_false,ins,Nat.reduceLT]
     rw[←hW]at hdv;clear hW;rcases W with _|_
     · by_cases hbk:b=k
       · subst hbk;rw[decide_eq_true rfl,Bool.true_or]at hdv;rw[hdv]at hset;refine(Wu [none,none] (by kernel_rfl) (by kernel_rfl) (by rfl) (by simp[*];first|exact⟨rfl,Iff.rfl⟩|exact⟨rfl,trivial⟩|rfl) ?_ ?_)
         · first|exact trivial|simp
         refine X3 ?_;exact⟨b+1,hb1,by omega,X6 (fun n=>n) []⟩
       by_cases hab:ark=(b:Int)
       · have hbi:¬(b:Int)=(k:Int):=by omega
         rw[decide_eq_true hab,Bool.true_or,Bool.or_true]at hdv;rw[hdv]at hset;refine(Wu [none,none] (by kernel_rfl) (by kernel_rfl) (by rfl) (by simp[*];first|exact⟨rfl,Iff.rfl⟩|exact⟨rfl,trivial⟩|rfl) ?_ ?_)
         · first|exact trivial|simp
         refine X3 ?_;exact⟨b+1,hb1,by omega,X6 (fun n=>n) []⟩
       have hbi:¬(b:Int)=(k:Int):=by omega
       rw[decide_eq_false hbk,decide_eq_false hab,Bool.false_or,Bool.false_or,Bool.false_and,Bool.false_and]at hdv;rw[hdv]at hset;refine(Wu [none,none] (by kernel_rfl) (by kernel_rfl) (by rfl) (by simp[*];first|exact⟨rfl,Iff.rfl⟩|exact⟨rfl,trivial⟩|rfl) ?_ ?_)
       · first|exact trivial|simp
       refine X3 ?_;exact⟨b+1,hb1,by omega,X6 (fun n=>n) []⟩
     by_cases hbk:b=k
     · subst hbk;rw[decide_eq_true rfl,Bool.true_or]at hdv;rw[hdv]at hset;refine(Wu [none,none] (by kernel_rfl) (by kernel_rfl) (by rfl) (by simp[*];first|exact⟨rfl,Iff.rfl⟩|exact⟨rfl,trivial⟩|rfl) ?_ ?_)
       · first|exact trivial|simp
       refine X3 ?_;exact⟨b+1,hb1,by omega,X6 (fun n=>n) []⟩
     by_cases hab:ark=(b:Int)
     · have hbi:¬(b:Int)=(k:Int):=by omega
       rw[decide_eq_true hab,Bool.true_or,Bool.or_true]at hdv;rw[hdv]at hset;refine(Wu [none,none] (by kernel_rfl) (by kernel_rfl) (by rfl) (by simp[*];first|exact⟨rfl,Iff.rfl⟩|exact⟨rfl,trivial⟩|rfl) ?_ ?_)
       · first|exact trivial|simp
       refine X3 ?_;exact⟨b+1,hb1,by omega,X6 (fun n=>n) []⟩
     have hbi:¬(b:Int)=(k:Int):=by omega
     rw[decide_eq_false hbk,decide_eq_false hab,Bool.false_or,Bool.false_or,Bool.true_and]at hdv;rcases R with _|_
     · rw[Bool.false_and]at hdv;rw[hdv]at hset;refine(Wu [some ⟨true,.v (lb false),none⟩,none] (by kernel_rfl) (by kernel_rfl) (by rfl) (by simp[*];first|exact⟨rfl,Iff.rfl⟩|exact⟨rfl,trivial⟩|rfl) ?_ ?_)
       · first|exact crd _|simpa using crd _
       refine X3 ?_;exact⟨b+1,hb1,by omega,X6 (fun n=>n) []⟩
     rw[Bool.true_and]at hdv;rw[hdv]at hset;refine(Wu [some ⟨true,.v (lb true),none⟩,some ⟨true,.v (lb G),none⟩] (by kernel_rfl) (by kernel_rfl) (by rfl) (by simp[*];first|exact⟨rfl,Iff.rfl⟩|exact⟨rfl,trivial⟩|rfl) ?_ ?_)
     · first|exact⟨crd _,chd _⟩|simpa using⟨crd _,chd _⟩
     refine X3 ?_;exact⟨b+1,hb1,by omega,X6 (fun n=>n) []⟩
   (try simp only[BN]at h13);have hbn:b=n:=by first|omega|(have:¬b<n:=by simpa using h13;omega)
   subst hbn;rw[hHf,hKs];clear h13;refine(Xg ?_);refine X3 ?_;exact⟨k+1,hk1,by omega,X6 (fun n=>n) []⟩
 (try simp only[BN]at h7);have hkn:k=n:=by first|omega|(have:¬k<n:=by simpa using h7;omega)
 subst hkn;rw[Xav];clear h7 hz;refine(Xg ?_);refine X0<|X0<|X3 ?_;refine X5<|(Xd [6,7,95] (fun(m:Nat)=>[(96,.v (li m))]) (fun m=>[(24,.mat 92 4 1 (Zi k (fwM k D m)))]) (fun m=>m≤k) (fun m=>k - m) (0:Nat) (Nat.zero_le _) ?_ ?_)
 · exact Xu (fun n=>n) [] rfl (by simp[*,upS,X8]) (by simp[*,upS,fwM]) (by simp[upS])
 rintro m hm;simp only[upS,X8,Xy]
 try simp only[X8,KN,Nat.reduceBEq,if_true,if_false,ins,Nat.reduceLT]
 refine X4 ?_;refine X0<|(X9 rfl (fun h24=>Xb ?_) (fun h24=>?_))
 · (try simp only[BN]at h24);have hltm:m<k:=by first|omega|simpa using h24
   have hwm:IntKind.i64.wrap ((m:Int)+1)=(m:Int)+1:=Xc (by omega) (by omega);have hm1:m+1≤k:=hltm;have hsm:=X3I k D m;obtain⟨M1,hM1⟩:∃x,fwM k D m=x:=⟨_,rfl⟩;rw[hM1]at hsm⊢;clear h24 hM1;refine X0<|X5<|X0<|X3 ?_;refine X4 ?_;refine X5<|(Xd [6,7,11,95,96,99] (fun(a:Nat)=>[(100,.v (li a))]) (fun a=>[(24,.mat 92 4 1 (Zi k (fwA k M1 m a)))]) (fun a=>a≤k) (fun a=>k - a) (0:Nat) (Nat.zero_le _) ?_ ?_)
   · exact Xu (fun n=>n) [] rfl (by simp[*,upS,X8]) (by simp[*,upS,fwA]) (by simp[upS])
   rintro a ha;simp only[upS,X8,Xy]
   try simp only[X8,KN,Nat.reduceBEq,if_true,if_false,ins,Nat.reduceLT]
   refine X4 ?_;refine X0<|(X9 rfl (fun h29=>Xb ?_) (fun h29=>?_))
   · (try simp only[BN]at h29);have hlta:a<k:=by first|omega|simpa using h29
     have hwa:IntKind.i64.wrap ((a:Int)+1)=(a:Int)+1:=Xc (by omega) (by omega);have ha1:a+1≤k:=hlta;have hsa:=X8l k M1 m a;obtain⟨M2,hM2⟩:∃x,fwA k M1 m a=x:=⟨_,rfl⟩;rw[hM2]at hsa⊢;clear h29 hM2;refine X0<|X5<|X0<|X3 ?_;refine X4 ?_;refine X5<|(Xd [6,7,11,12,95,96,99,100,103] (fun(b:Nat)=>[(104,.v (li b))]) (fun b=>[(24,.mat 92 4 1 (Zi k (fwB M2 m a b)))]) (fun b=>b≤k) (fun b=>k - b) (0:Nat) (Nat.zero_le _) ?_ ?_)
     · exact Xu (fun n=>n) [] rfl (by simp[*,upS,X8]) (by simp[*,upS,fwB]) (by simp[upS])
     rintro b hb;simp only[upS,X8,Xy]
     try simp only[X8,KN,Nat.reduceBEq,if_true,if_false,ins,Nat.reduceLT]
     refine X4 ?_;refine X0<|(X9 rfl (fun h34=>Xb ?_) (fun h34=>?_))
     · (try simp only[BN]at h34);have hltb:b<k:=by first|omega|simpa using h34
       have hwb:IntKind.i64.wrap ((b:Int)+1)=(b:Int)+1:=Xc (by omega) (by omega);have hb1:b+1≤k:=hltb;have hsb:=Xa2 M2 m a b;obtain⟨M3,hM3⟩:∃x,fwB M2 m a b=x:=⟨_,rfl⟩;rw[hM3]at hsb⊢;have hst:stM M3 m a b=up M3 a b (M3 a b||(M3 a m&&M3 m b)):=rfl;rw[hst]at hsb;have hset:=@rowB_set k a b M3 (M3 a b||(M3 a m&&M3 m b));have hsr:=@XbO k a b M3 (M3 a b||(M3 a m&&M3 m b));clear h34 hM3;refine X0<|X5<|X0<|X3 ?_;refine(Q6 (by kernel_rfl) (by kernel_rfl) (by rfl) (by simp[*,X72,X6v hlta,X6v hltm,X5w,X6d hltb,X6d hltm];rfl) ?_);refine X3 ?_;exact⟨b+1,hb1,by omega,X6 (fun n=>n) []⟩
     (try simp only[BN]at h34);have hbk:b=k:=by first|omega|(have:¬b<k:=by simpa using h34;omega)
     subst hbk;rw[←hsa];clear h34;refine(Xg ?_);refine X3 ?_;exact⟨a+1,ha1,by omega,X6 (fun n=>n) []⟩
   (try simp only[BN]at h29);have hak:a=k:=by first|omega|(have:¬a<k:=by simpa using h29;omega)
   subst hak;rw[←hsm];clear h29;refine(Xg ?_);refine X3 ?_;exact⟨m+1,hm1,by omega,X6 (fun n=>n) []⟩
 (try simp only[BN]at h24);have hmk:m=k:=by first|omega|(have:¬m<k:=by simpa using h24;omega)
 subst hmk;clear h24;refine(Xg ?_);refine X4 ?_;exact XU ⟨.inr rfl,_,le_frzM 24 rfl,⟨⟨_,by simp;rfl,by simp[XN,←Xc5]⟩,by simp,fun h=>by cases h⟩⟩
end Go.Proofs.YtppjennamodfdaaGreat

namespace Go.Proofs.YtppjennamodfdaaGreat
open Go Go.Hl
def RcC:Prop:=∀f:Fl,Sm f→Qb f=0→∀d,Con Tryz.prog 86 false [aF f] (.v (.one (.c (.sl 1 (Q7 (rcL (grN f.body) (flL f.body) f.vars.length)))))) none d
theorem bk_con (hR:RcC) (f:Fl) (h:Sm f) (h0:Qb f=0) (q:List Int) (hq:okQ (szL f.body) q) (hql:q.length≤1000000) (d:Nat):Con Tryz.prog 16 false [aF f,lI q] (.v (lI (toI (bwL f q)))) none d:=by
 have:=X5I f h _ (X8w f h h0 (hR f h h0)) q hq hql d;rw[back_eq h h0 hq,X9x]at this;exact this
theorem X22 {f:Fl} {qs:List (List Int)} (h:WN f qs=0):Qb f=0∧∀q∈qs,okQ (szL f.body) q:=by
 obtain⟨h1,h2⟩:=X5P h;refine⟨h1,fun q hq x hx=>?_⟩;have:=h2 q hq x hx
 rwa [XK]at this
end Go.Proofs.YtppjennamodfdaaGreat

namespace Go.Proofs.YtppjennamodfdaaGreat
open Go Go.Hl
def neP (hats:List Ht) (L:List St) (rd:List (List Nat)) (u v:Nat):Bool:=match L[u]?,rd[u]? with
 |some q,some r=>(rvB v q.term&&decide ((L.length+v:Nat)∈r))||(decide (q.do_=5)&&(match hats[q.n.toNat]? with|some h=>rvB v h.term|none=>false))
 |_,_=>false
noncomputable def neB (f:Fl) (BL:List Nat) (v:Nat):Bool:=BL.any fun u=>neP f.hats (flL f.body) (rdT f) u v
theorem X8I {f:Fl} (h0:Qb f=0) (hb:Wm f.body=true) {g:Ht} (hg:g∈f.hats):QS f.vars true g.term=true:=(X86 hb h0).2.2 g hg
theorem Xb6 {f:Fl} (h:Sm f) (h0:Qb f=0) {u:Nat} (hu:u<szL f.body) (v:Nat):neP f.hats (flL f.body) (rdT f) u v=true↔(v:Int)∈ndA f (flL f.body) (rdT f) u:=by
 have hlen:=XK f.body;have hrl:(rdT f).length=szL f.body:=X0q _ _;have e1:(flL f.body)[u]? =some ((flL f.body)[u]'(by omega)):=List.getElem?_eq_getElem _;have e2:(rdT f)[u]? =some ((rdT f)[u]'(by omega)):=List.getElem?_eq_getElem _;obtain⟨q,hq⟩:∃x,(flL f.body)[u]'(by omega)=x:=⟨_,rfl⟩;obtain⟨r,hr⟩:∃x,(rdT f)[u]'(by omega)=x:=⟨_,rfl⟩;rw[hq]at e1;rw[hr]at e2;have hf:=X7z h0 e1 h.bnd;unfold neP ndA;rw[e1,e2];simp only[Bool.or_eq_true,Bool.and_eq_true,decide_eq_true_eq,List.mem_append];rw[X52 _ _ hf];refine or_congr ?_ ?_
 · unfold X2x X1s;simp only[List.mem_map,List.mem_filter,decide_eq_true_eq];rw[X5J];simp only[Zx,List.not_mem_nil,false_or];constructor
   · rintro⟨h1,h2⟩;refine⟨(flL f.body).length+v,⟨⟨h2,?_⟩,by omega⟩,by omega⟩;unfold Qx;rw[List.getElem?_eq_none (by omega)];simp only
     rwa [show(((flL f.body).length+v:Nat):Int) - (flL f.body).length=(v:Int) by omega]
   rintro⟨d,⟨⟨h1,h2⟩,h3⟩,h4⟩;have hd:d=(flL f.body).length+v:=by omega
   subst hd;refine⟨?_,h1⟩;unfold Qx at h2;rw[List.getElem?_eq_none (by omega)]at h2;simp only at h2
   rwa [show(((flL f.body).length+v:Nat):Int) - (flL f.body).length=(v:Int) by omega]at h2
 by_cases h5:q.do_=5
 · rw[if_pos h5];unfold hatV;cases hh:f.hats[q.n.toNat]? with
   |none=>simp
   | some g=>
     simp only[h5,true_and];exact X52 _ _ (X8I h0 h.bnd (List.mem_of_getElem? hh))
 rw[if_neg h5];simp[h5]
theorem ndA_in {f:Fl} (h:Sm f) (h0:Qb f=0) {u:Nat} (hu:u<szL f.body) {v:Int} (hv:v∈ndA f (flL f.body) (rdT f) u):0≤v∧v.toNat<f.vars.length:=by
 have hlen:=XK f.body;have hrl:(rdT f).length=szL f.body:=X0q _ _;have e1:(flL f.body)[u]? =some ((flL f.body)[u]'(by omega)):=List.getElem?_eq_getElem _;have e2:(rdT f)[u]? =some ((rdT f)[u]'(by omega)):=List.getElem?_eq_getElem _;obtain⟨q,hq⟩:∃x,(flL f.body)[u]'(by omega)=x:=⟨_,rfl⟩;obtain⟨r,hr⟩:∃x,(rdT f)[u]'(by omega)=x:=⟨_,rfl⟩;rw[hq]at e1;rw[hr]at e2;unfold ndA at hv;rw[e1,e2]at hv;simp only at hv;rcases List.mem_append.1 hv with hv|hv
 · unfold X2x X1s at hv;simp only[List.mem_map,List.mem_filter,decide_eq_true_eq]at hv;obtain⟨d,⟨⟨h1,h2⟩,h3⟩,h4⟩:=hv;rw[X5J]at h2;simp only[Zx,List.not_mem_nil,false_or]at h2;have:=X7V q.term (X7z h0 e1 h.bnd) _ h2;unfold Qx at this;rw[List.getElem?_eq_none (by omega)]at this;simp only at this;rw[h4]at this;exact this
 split at hv
 · unfold hatV at hv;split at hv
   · rename_i g hh;exact X7V g.term (X8I h0 h.bnd (List.mem_of_getElem? hh)) _ hv
   cases hv
 cases hv
theorem neL_eq {f:Fl} (h:Sm f) (h0:Qb f=0) {q:List Int} (hq:okQ (szL f.body) q):neL f q=toI ((List.range f.vars.length).filter (neB f (bwL f q))):=by
 have hn:(Q5 f).length=szL f.body:=by rw[Qy,XK]
 have hc:=We (X10 h) (l0:=QL q) (by rw[hn];exact hq.nat)
 have hb:∀o,o∈Zh (Q5 f) (QL q)↔o∈bwL f q:=fun o=>by
  rw[bwL,X3B];exact⟨fun h=>⟨hc.1.lt o h,h⟩,fun h=>h.2⟩
 refine X5j ?_ ?_ fun v=>?_
 · have h1:=XcU (neA f q);have h2:(neL f q).Nodup:=(List.mergeSort_perm _ _).nodup_iff.2 (X3t _ List.nodup_nil);refine(List.pairwise_and_iff.2 ⟨h1,h2⟩).imp fun {a b} ⟨h3,h4⟩=>?_;have h4:a≠b:=h4;omega
 · unfold toI;rw[List.pairwise_map];exact(List.pairwise_lt_range.filter _).imp fun h=>by simpa using h
 rw[mem_neL,mem_toI,List.mem_filter,List.mem_range];unfold neB;rw[List.any_eq_true];constructor
 · rintro⟨o,h1,h2⟩;have ho:o<szL f.body:=by have:=hc.1.lt o h1;omega
   have h3:=ndA_in h h0 ho h2;refine⟨h3.1,h3.2,o,(hb o).1 h1,?_⟩;rw[Xb6 h h0 ho]
   rwa [show((v.toNat:Nat):Int)=v by omega]
 rintro⟨h1,h2,o,h3,h4⟩;have h5:=(hb o).2 h3;have ho:o<szL f.body:=by have:=hc.1.lt o h5;omega
 rw[Xb6 h h0 ho,show((v.toNat:Nat):Int)=v by omega]at h4;exact⟨o,h5,h4⟩
end Go.Proofs.YtppjennamodfdaaGreat

namespace Go.Proofs.YtppjennamodfdaaGreat
open Go Go.Hl
def oL (E:List Nat) (v:Nat) (A:Bool):List Nat:=E++(if A=true then [v] else [])
theorem oL_mem {E:List Nat} {v:Nat} (h:∀x∈E,x<v) (A:Bool):decide (v∈oL E v A)=A:=by
 have:v∉E:=fun hv=>Nat.lt_irrefl _ (h v hv);cases A<;>simp[oL,this]
theorem oL_add (E:List Nat) (v:Nat):XB (oL E v false)++[[iC v]]=XB (oL E v true):=by simp[oL,XB]
theorem oL_end (P:Nat→Bool) (v:Nat):oL ((List.range v).filter P) v (P v)=(List.range (v+1)).filter P:=by
 rw[List.range_succ,List.filter_append];simp only[oL,List.filter_cons,List.filter_nil]
theorem oL_len (E:List Nat) (v:Nat) (A:Bool):(oL E v A).length≤E.length+1:=by
 cases A<;>simp[oL]
set_option maxHeartbeats 32000000 in
theorem X9X (hR:RcC) (f:Fl) (h:Sm f) (h0:Qb f=0) (q:List Int) (hq:okQ (szL f.body) q) (hql:q.length≤1000000) (d:Nat):Con Tryz.prog 24 false [aF f,lI q] (.v (lI (neL f q))) none d:=by
 have hg:=(X7k h h0).g;have cst:=X4A f (by have:=h.nodes;omega);have cre:=X2r f h hg (hR f h h0);have cbk:=bk_con hR f h h0 q hq hql;have eI:∀l:List Nat,lI (toI l)=.one (.c (.sl 1 (XB l))):=fun l=>by show TV.one (.c (.sl 1 (Xj (toI l))))=_;rw[←X9x]
 rw[neL_eq h h0 hq,eI];have hnl:szL f.body≤1000:=by have:=Qw f.body;have:=h.nodes;omega
 have hLl:=XK f.body;have hRl:(rdT f).length=szL f.body:=X0q _ _;have hrow:∀r∈rdT f,r.length≤5000:=fun r hr=>((Wl h).rdl r hr).1;have hnod:∀s∈flL f.body,s.term.nodes≤1000000:=(Wl h).nod;have hhat:∀g∈f.hats,g.term.nodes≤1000000:=fun g hg=>by have:=Z5 hg;have:=h.nodes;omega
 have hnv:=h.vars;have hsh:=X4a f.body true (Wn h0).2.2.2.1
 have hBl:∀u∈bwL f q,u<szL f.body:=fun u hu=>by
  have:=((X3B _ _ _).1 (by unfold bwL at hu;exact hu)).1
  rwa [Qy,XK]at this
 have hBn:(bwL f q).length≤1000:=by
  have:=sl_len (Q5 f).length (Q5 f) q;rw[←bwL_sl,Xbg,Qy,XK]at this;omega
 have hPd:∀v,neB f (bwL f q) v=(bwL f q).any fun u=>neP f.hats (flL f.body) (rdT f) u v:=fun _=>rfl;obtain⟨P,hP⟩:∃x,neB f (bwL f q)=x:=⟨_,rfl⟩;rw[hP]at hPd⊢;obtain⟨BL,hBL⟩:∃x,bwL f q=x:=⟨_,rfl⟩;rw[hBL]at cbk hBl hBn hPd;obtain⟨RD,hRD⟩:∃x,rdT f=x:=⟨_,rfl⟩;rw[hRD]at cre hRl hrow hPd;obtain⟨L,hL⟩:∃x,flL f.body=x:=⟨_,rfl⟩;rw[hL]at cst hLl hnod hsh hPd;obtain⟨n,hn⟩:∃x,szL f.body=x:=⟨_,rfl⟩;rw[hn]at hnl hLl hRl hBl;rw[eI]at cbk;clear h h0 hR hg hP hBL hRD hL hn hq hql;obtain⟨vars,hats,body⟩:=f;simp only at hhat hnv hsh hPd;simp only[aF,Fl.enc,List.map_cons,List.map_nil]at cst cre cbk⊢;have hz0:XB ((List.range 0).filter P)=[]:=rfl;refine X7 Tryz.func24 ?_;simp only[Tryz.f24];refine X4 ?_;refine X4 ?_;refine X0<|(Qk [⟨false,.v (lS L),none⟩,⟨false,.v (.one (.c (.sl 1 (Q7 RD)))),none⟩,⟨false,.v (.one (.c (.sl 1 (XB BL)))),none⟩] (by kernel_rfl) (by kernel_rfl) (by rfl) (by simp[*];first|exact⟨rfl,Iff.rfl⟩|exact⟨rfl,trivial⟩|rfl) ?_ ?_)
 · first|exact⟨cst _,cre _,cbk _⟩|exact trivial|(repeat' first|exact trivial|exact cst _|exact cre _|exact cbk _|apply And.intro)
 refine X0<|X0<|X3 ?_;refine X5<|(Xd [2,6,7,8,23] (fun(v:Nat)=>[(5,.v (.one (.own 1003))),(24,.v (li v))]) (fun v=>[(2,.box [.c (.sl 5 (Xs vars)),.c (.sl 6 (Xt hats)),.c (.sl 10 (Xa body))]),(1003,.row 3 1 (XB ((List.range v).filter P)))]) (fun v=>v≤vars.length) (fun v=>vars.length - v) (0:Nat) (Nat.zero_le _) ?_ ?_)
 · exact X6 (fun n=>n) [1003]
 rintro v hv;simp only[upS,X8,Xy]
 try simp only[X8,KN,Nat.reduceBEq,if_true,if_false,ins,Nat.reduceLT]
 refine X4 ?_;refine X0<|(X9 rfl (fun h6=>Xb ?_) (fun h6=>?_))
 · (try simp only[BN]at h6);have hlt:v<vars.length:=by first|omega|simpa using h6
   have hw1:=XA hlt (by omega);have hv1:v+1≤vars.length:=hlt;have hend:=oL_end P v;have hEv:∀x∈(List.range v).filter P,x<v:=fun x hx=>List.mem_range.1 (List.mem_filter.1 hx).1;have hEl:((List.range v).filter P).length≤v:=Nat.le_trans (List.length_filter_le _ _) (by simp);obtain⟨E,hE⟩:∃x,(List.range v).filter P=x:=⟨_,rfl⟩;rw[hE]at hend hEv hEl⊢;have hE0:oL E v false=E:=by simp[oL]
   obtain⟨AJ,hAJ⟩:∃AJ:Nat→Bool,∀j,((BL.take j).any fun u=>neP hats L RD u v)=AJ j:=⟨_,fun _=>rfl⟩;have hA0:AJ 0=false:=by rw[←hAJ];simp
   have hAe:AJ BL.length=P v:=by rw[←hAJ,List.take_length,hPd]
   rw[←hE0];clear hlt h6 hE;refine X0<|X5<|X0<|X3 ?_;refine X4 ?_;refine X5<|(Xd [2,6,7,8,9,23,24,27,28] (fun(j:Nat)=>[(5,.v (.one (.own 1003))),(29,.v (li j))]) (fun j=>[(2,.box [.c (.sl 5 (Xs vars)),.c (.sl 6 (Xt hats)),.c (.sl 10 (Xa body))]),(1003,.row 3 1 (XB (oL E v (AJ j))))]) (fun j=>j≤BL.length) (fun j=>BL.length - j) (0:Nat) (Nat.zero_le _) ?_ ?_)
   · exact X6 (fun n=>n) []
   rintro j hj;simp only[upS,X8,Xy]
   try simp only[X8,KN,Nat.reduceBEq,if_true,if_false,ins,Nat.reduceLT]
   refine X4 ?_;refine X0<|(X9 rfl (fun h11=>Xb ?_) (fun h11=>?_))
   · (try simp only[BN]at h11);have hltj:j<BL.length:=by first|omega|simpa using h11
     obtain⟨u,heu,_⟩:=Xq hltj;have hwj:=XA hltj (by omega);have hj1:j+1≤BL.length:=hltj;have hun:=hBl u (List.mem_of_getElem? heu);have heu':(XB BL)[j]? =some [iC u]:=by simp[XB,heu]
     obtain⟨s,hes,_⟩:=Xq (show u<L.length by omega);obtain⟨r,her,_⟩:=Xq (show u<RD.length by omega);have hes':=XX hes;have her':=WL her;have crd:=X3V v s.term (by have:=hnod s (List.mem_of_getElem? hes);omega);have chd:=X5K r (L.length+v) (by have:=hrow r (List.mem_of_getElem? her);omega);have hA1:AJ (j+1)=(AJ j||neP hats L RD u v):=by rw[←hAJ,←hAJ,List.take_add_one,heu];simp
     have hneP:neP hats L RD u v=((rvB v s.term&&decide (L.length+v∈r))||(decide (s.do_=5)&&(match hats[s.n.toNat]? with|some h=>rvB v h.term|none=>false))):=by
      unfold neP;rw[hes,her];try rfl
     obtain⟨last,hsh1⟩:=hsh s (List.mem_of_getElem? hes);have hsat:=fun h5=>sh_hat hsh1 h5;have hwv:IntKind.i64.wrap ((L.length:Int)+(v:Int))=(L.length:Int)+(v:Int):=Xc (by omega) (by omega);have elv:((L.length+v:Nat):Int)=(L.length:Int)+(v:Int):=by omega
     rw[elv]at chd;have hom:=oL_mem hEv (AJ j);have cho:=X5K (oL E v (AJ j)) v (by have:=oL_len E v (AJ j);omega);rw[hom]at cho;have hadd:=oL_add E v;rw[hE0]at hadd;have hol:=oL_len E v false;obtain⟨C1,hC1⟩:∃x,decide (L.length+v∈r)=x:=⟨_,rfl⟩;rw[hC1]at chd hneP;obtain⟨NP,hNP⟩:∃x,neP hats L RD u v=x:=⟨_,rfl⟩;rw[hNP]at hA1 hneP;obtain⟨sd,sc,sv,sn,⟨so,stn,sks⟩,sa,sb,sbs⟩:=s;simp only[St.enc,Tm.enc,List.cons_append,List.nil_append]at hes';simp only[St.term,St.do_,St.n,aT,Tm.enc,List.map_cons,List.map_nil]at crd hneP hsat;obtain⟨R1,hR1⟩:∃x,rvB v (.mk so stn sks)=x:=⟨_,rfl⟩;rw[hR1]at crd hneP;obtain⟨A,hA⟩:∃x,AJ j=x:=⟨_,rfl⟩;rw[hA]at hA1 cho⊢;replace hneP:NP=((R1&&C1)||(decide (sd=5)&&(match hats[sn.toNat]? with|some h=>rvB v h.term|none=>false))):=hneP;have hroom:Qa (E.length+1) 8:=Xx (by omega) (by decide);have hE0l:(oL E v false).length=E.length:=by rw[hE0]
     have hroom2:Qa ((oL E v false).length+1) 8:=by rw[hE0l];exact hroom
     clear hltj h11 heu hes her hsh1 hC1 hNP hR1 hA hom hAJ hsh hPd hBl elv hLl hRl hend hAe;refine X0<|X5<|X0<|X3 ?_;refine XO [2,6,7,8,9,11,23,24,27,28,29,5] (fun(X1:Bool)=>[(12,.v (lb X1))]) (fun(X1:Bool)=>[(2,.box [.c (.sl 5 (Xs vars)),.c (.sl 6 (Xt hats)),.c (.sl 10 (Xa body))]),(1003,.row 3 1 (XB (oL E v A)))]) (fun(X1:Bool)=>(R1&&C1)=X1) ?_ ?_
     · rcases R1 with _|_
       · refine Zl [some ⟨true,.v (lb false),none⟩,none] (by simp[*];first|exact⟨rfl,Iff.rfl⟩|exact⟨rfl,trivial⟩|rfl) ?_ ?_
         · first|exact crd _|simpa using crd _
         exact⟨false,by simp,Xu (fun n=>n) [] rfl (by simp[upS,X8]) (by simp[upS]) (by simp[upS])⟩
       refine QR [⟨true,.v (lb true),none⟩,⟨true,.v (lb C1),none⟩] (by simp[*];first|exact⟨rfl,Iff.rfl⟩|exact⟨rfl,trivial⟩|rfl) ?_ ?_
       · first|exact⟨crd _,chd _⟩|simpa using⟨crd _,chd _⟩
       exact⟨C1,by simp,Xu (fun n=>n) [] rfl (by simp[upS,X8]) (by simp[upS]) (by simp[upS])⟩
     rintro X1 hX1;simp only[upS,X8,Xy]
     try simp only[X8,KN,Nat.reduceBEq,if_true,if_false,ins,Nat.reduceLT]
     refine XO [2,6,7,8,9,11,12,23,24,27,28,29,5] (fun(X2:Bool)=>[(13,.v (lb X2))]) (fun(X2:Bool)=>[(2,.box [.c (.sl 5 (Xs vars)),.c (.sl 6 (Xt hats)),.c (.sl 10 (Xa body))]),(1003,.row 3 1 (XB (oL E v A)))]) (fun(X2:Bool)=>(decide (sd=5)&&(match hats[sn.toNat]? with|some h=>rvB v h.term|none=>false))=X2) ?_ ?_
     · by_cases h5:sd=5
       · obtain⟨hn0,hn1⟩:=hsat h5;obtain⟨m,rfl⟩:∃m:Nat,sn=m:=⟨sn.toNat,by omega⟩;obtain⟨g,hgm,_⟩:=Xq (show m<hats.length by omega);have crg:=X3V v g.term (by have:=hhat g (List.mem_of_getElem? hgm);omega);rw[Int.toNat_natCast,hgm];obtain⟨gn,gl,gh,⟨go,gtn,gks⟩⟩:=g;simp only[aT,Tm.enc,List.map_cons,List.map_nil]at crg;obtain⟨R2,hR2⟩:∃x,rvB v (.mk go gtn gks)=x:=⟨_,rfl⟩;rw[hR2]at crg;simp only[hR2];subst h5;refine Z8 [(58,2)] [⟨true,.v (lb R2),none⟩] (by kernel_rfl) (by kernel_rfl) (by rfl) (by simp[*,X3d,X2h,Qq];first|exact⟨rfl,Iff.rfl⟩|exact⟨rfl,trivial⟩|rfl) ?_ ?_
         · first|exact crg _|simpa using crg _
         exact⟨R2,by simp,Xu (fun n=>n) [] rfl (by simp[upS,X8]) (by simp[upS]) (by simp[upS])⟩
       have key:0≤sn∧(∃g,hats[sn.toNat]? =some g)∨0≤sn∧hats[sn.toNat]? =none∨¬0≤sn:=by
        by_cases e:0≤sn
        · cases hats[sn.toNat]? with
          |none=>exact .inr (.inl ⟨e,rfl⟩)
          |some g=>exact .inl ⟨e,g,rfl⟩
        exact .inr (.inr e)
       rcases key with⟨e1,⟨gn,gl,gh,⟨go,gtn,gks⟩⟩,e2⟩|⟨e1,e2⟩|e1
       all_goals
        refine Wu [none] (by kernel_rfl) (by kernel_rfl) (by rfl) (by simp[*];first|exact⟨rfl,Iff.rfl⟩|exact⟨rfl,trivial⟩|rfl) ?_ ?_
        · first|exact trivial|simp
        exact⟨false,by simp[h5],Xu (fun n=>n) [] rfl (by simp[upS,X8]) (by simp[upS]) (by simp[upS])⟩
     rintro X2 hX2;simp only[upS,X8,Xy]
     try simp only[X8,KN,Nat.reduceBEq,if_true,if_false,ins,Nat.reduceLT]
     rw[hX1,hX2]at hneP;subst hneP;clear hX1 hX2 hsat;rcases X1 with _|_
     · rcases X2 with _|_
       · refine X0<|(Zl [none] (by simp[*];first|exact⟨rfl,Iff.rfl⟩|exact⟨rfl,trivial⟩|rfl) ?_ ?_)
         · first|exact trivial|exact trivial|simpa using trivial
         refine(Xe rfl (fun h16=>?_) fun h16=>?_)
         · exact absurd h16 (by simp)
         (try simp only[BN]at h16);have hA2:AJ (j+1)=A:=by rw[hA1];simp
         clear hA1;refine X3 ?_;exact⟨j+1,hj1,by omega,X6 (fun n=>n) []⟩
       refine Xk [⟨true,.v (lb A),none⟩] ?_ ?_
       · first|exact cho _|exact trivial|simpa[*]using cho _
       refine(Xe rfl (fun h16=>?_) fun h16=>?_)
       · (try simp only[BN]at h16);have hAf:A=false:=by simpa using h16
         subst hAf;have hA2:AJ (j+1)=true:=by rw[hA1];rfl
         clear hA1;refine X3 ?_;refine X3 ?_;exact⟨j+1,hj1,by omega,X6 (fun n=>if n=1003 then 84 else n) []⟩
       (try simp only[BN]at h16);have hAt:A=true:=by simpa using h16
       subst hAt;have hA2:AJ (j+1)=true:=by rw[hA1];rfl
       clear hA1;refine X3 ?_;exact⟨j+1,hj1,by omega,X6 (fun n=>n) []⟩
     refine Xk [⟨true,.v (lb A),none⟩] ?_ ?_
     · first|exact cho _|exact trivial|simpa[*]using cho _
     refine(Xe rfl (fun h16=>?_) fun h16=>?_)
     · (try simp only[BN]at h16);have hAf:A=false:=by simpa using h16
       subst hAf;have hA2:AJ (j+1)=true:=by rw[hA1];rfl
       clear hA1;refine X3 ?_;refine X3 ?_;exact⟨j+1,hj1,by omega,X6 (fun n=>if n=1003 then 84 else n) []⟩
     (try simp only[BN]at h16);have hAt:A=true:=by simpa using h16
     subst hAt;have hA2:AJ (j+1)=true:=by rw[hA1];rfl
     clear hA1;refine X3 ?_;exact⟨j+1,hj1,by omega,X6 (fun n=>n) []⟩
   (try simp only[BN]at h11);have hjb:j=BL.length:=by first|omega|(have:¬j<BL.length:=by simpa using h11;omega)
   rw[hjb,hAe,hend];clear h11;refine(Xg ?_);refine X3 ?_;exact⟨v+1,hv1,by omega,X6 (fun n=>n) []⟩
 (try simp only[BN]at h6);have hkl:v=vars.length:=by first|omega|(have:¬v<vars.length:=by simpa using h6;omega)
 subst hkl;clear h6;refine(Xg ?_);refine X4 ?_;exact XU ⟨.inr rfl,_,XR 1003 rfl,⟨⟨_,by simp;rfl,by simp[XN]⟩,by simp,fun h=>by cases h⟩⟩
end Go.Proofs.YtppjennamodfdaaGreat
