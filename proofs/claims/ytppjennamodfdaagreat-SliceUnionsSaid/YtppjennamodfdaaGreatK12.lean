/- Part 12: contracts of functions of the program and of the reference, and plain facts about what they compute; used by the proof of the claimed statement. Conditions: as each theorem states. -/
import Derived.Test.YtppjennamodfdaaGreatK6
import Derived.Test.YtppjennamodfdaaGreatK7
import Derived.Test.YtppjennamodfdaaGreatK11
import Derived.Test.YtppjennamodfdaaGreatK3
set_option linter.unusedSimpArgs false
set_option linter.unusedVariables false
set_option linter.unnecessarySimpa false
set_option maxRecDepth 100000
set_option maxHeartbeats 2000000
namespace Go.Proofs.YtppjennamodfdaaGreat
open Go Go.Hl
theorem X4k (l:List St):Xk l≤1000000000→∀d:Nat,Con Tryz.prog 132 true [lS l] (.v (li (szL l))) none d:=by
 revert l
 apply St.lists;intro l ih hn d;have hlen:=Qg l;have hsl:=QV l;obtain⟨res,hres⟩:∃r,szL l=r:=⟨_,rfl⟩;rw[hres]at hsl⊢;refine X5 Tryz.func132 ?_;simp only[Tryz.f132];refine X3 ?_;refine X3 ?_;refine X1<|X1<|X2 ?_;refine X4<|(Xf [8,9] (fun(x:Nat×Nat)=>[(3,.v (li ((x.2:Nat):Int))),(10,.v (li x.1))]) (fun x=>[]) (fun x=>x.1≤l.length∧x.2+szL (l.drop x.1)=res+(l.drop x.1).length) (fun x=>l.length - x.1) (0,l.length) ⟨Nat.zero_le _,by simp only[List.drop_zero,hres];omega⟩ ?_ ?_)
 · exact X6 (fun n=>n) []
 rintro⟨k,m⟩ ⟨hk,hJ⟩;simp only[upS,X8,Xw]
 try simp only[X8,KN,Nat.reduceBEq,if_true,if_false,ins,Nat.reduceLT]
 simp only at hk hJ;refine X3 ?_;refine X1<|(X7 rfl (fun h5=>Xb ?_) (fun h5=>?_))
 · (try simp only[BN]at h5);have hlt:k<l.length:=by omega
   obtain⟨s,he,hd⟩:=Xs hlt;have hmem:s∈l:=List.mem_of_getElem? he;have hnm:=Qj hmem;have iha:=fun h=>(ih s hmem).1 h;have ihb:=fun h=>(ih s hmem).2 h;have hw1:=XA hlt (by omega);have hk1:k+1≤l.length:=hlt;rw[hd]at hJ;have hrl:=X5n (l.drop (k+1));obtain⟨sd,sc,sv,sn,⟨so,stn,sks⟩,sa,sb,sbs⟩:=s;simp only[St.then_,St.else_,St.term]at iha ihb hnm;simp only[szL,szS,List.length_cons]at hJ;have ca:=iha (by omega);have cb:=ihb (by omega);have hla:=QV sa;have hlb:=QV sb;have he':=Q1 he;simp only[St.enc,Tm.enc,List.cons_append,List.nil_append]at he';generalize szL sa=na at*;generalize szL sb=nb at*;have hw2:IntKind.i64.wrap ((na:Int)+(nb:Int))=(na:Int)+(nb:Int):=Xd (by omega) (by omega);have hw3:IntKind.i64.wrap ((m:Int)+((na:Int)+(nb:Int)))=(m:Int)+((na:Int)+(nb:Int)):=Xd (by omega) (by omega);clear hlt h5 ih hmem iha ihb;refine X1<|X4<|X1<|X2 ?_;refine(XS [⟨true,.v (li (na:Int)),none⟩,⟨true,.v (li (nb:Int)),none⟩] (by kernel_rfl) (by kernel_rfl) (by rfl) (by simp[*];first|exact⟨rfl,Iff.rfl⟩|exact⟨rfl,trivial⟩|rfl) ?_ ?_)
   · first|exact⟨ca _,cb _⟩|exact trivial|(repeat' first|exact trivial|exact ca _|exact cb _|apply And.intro)
   refine X2 ?_;exact⟨(k+1,m+(na+nb)),⟨hk1,by simp only;omega⟩,by simp only;omega,X6 (fun n=>n) []⟩
 (try simp only[BN]at h5);have hkl:k=l.length:=by omega
 rw[hkl,List.drop_length]at hJ;simp only[szL,List.length_nil]at hJ;have hm:m=res:=by omega
 refine(Xi ?_);refine X3 ?_;exact Xc
theorem Xcz (f:Fl) (hn:Xk f.body≤1000000000) (d:Nat):Con Tryz.prog 101 true [aF f] (.v (li (szL f.body))) none d:=by
 have cs:=X4k f.body hn;obtain⟨vars,hats,body⟩:=f;simp only at cs⊢;obtain⟨n,hn⟩:∃x,szL body=x:=⟨_,rfl⟩;rw[hn]at cs⊢;clear hn;refine X5 Tryz.func101 ?_;simp only[Tryz.f101];simp only[aF,Fl.enc,List.map_cons,List.map_nil];refine X3 ?_;refine Xj [⟨true,.v (li (n:Int)),none⟩] ?_ ?_
 · first|exact cs _|exact trivial|simpa[*]using cs _
 exact Xc
theorem Zt (l:List St):Xk l≤1000000000→∀d:Nat,Con Tryz.prog 26 true [lS l] (.v (li (szL l))) none d:=by
 revert l
 apply St.lists;intro l ih hn d;have hlen:=Qg l;have hsl:=QV l;obtain⟨res,hres⟩:∃r,szL l=r:=⟨_,rfl⟩;rw[hres]at hsl⊢;refine X5 Tryz.func26 ?_;simp only[Tryz.f26];refine X3 ?_;refine X3 ?_;refine X1<|X1<|X2 ?_;refine X4<|(Xf [0] (fun(x:Nat×Nat)=>[(3,.v (li ((x.2:Nat):Int))),(4,.v (li x.1))]) (fun x=>[]) (fun x=>x.1≤l.length∧x.2+szL (l.drop x.1)=res) (fun x=>l.length - x.1) (0,0) ⟨Nat.zero_le _,by simp[hres]⟩ ?_ ?_)
 · exact X6 (fun n=>n) []
 rintro⟨k,m⟩ ⟨hk,hJ⟩;simp only[upS,X8,Xw]
 try simp only[X8,KN,Nat.reduceBEq,if_true,if_false,ins,Nat.reduceLT]
 simp only at hk hJ;refine X1<|X1<|X2 ?_;refine(X7 rfl (fun h5=>Xb ?_) (fun h5=>?_))
 · (try simp only[BN]at h5);have hlt:k<l.length:=by omega
   obtain⟨s,he,hd⟩:=Xs hlt;have hmem:s∈l:=List.mem_of_getElem? he;have hnm:=Qj hmem;have iha:=fun h=>(ih s hmem).1 h;have ihb:=fun h=>(ih s hmem).2 h;have hw1:=XA hlt (by omega);have hk1:k+1≤l.length:=hlt;rw[hd]at hJ;obtain⟨sd,sc,sv,sn,⟨so,stn,sks⟩,sa,sb,sbs⟩:=s;simp only[St.then_,St.else_,St.term]at iha ihb hnm;simp only[szL,szS]at hJ;have ca:=iha (by omega);have cb:=ihb (by omega);have he':=Q1 he;simp only[St.enc,Tm.enc,List.cons_append,List.nil_append]at he';generalize szL sa=na at*;generalize szL sb=nb at*;have hw2:IntKind.i64.wrap ((m:Int)+1)=(m:Int)+1:=Xd (by omega) (by omega);have hw3:IntKind.i64.wrap ((m:Int)+1+(na:Int))=(m:Int)+1+(na:Int):=Xd (by omega) (by omega);have hw4:IntKind.i64.wrap ((m:Int)+1+(na:Int)+(nb:Int))=(m:Int)+1+(na:Int)+(nb:Int):=Xd (by omega) (by omega);clear hlt h5 ih hmem iha ihb;refine X1<|X4<|(XS [⟨true,.v (li (na:Int)),none⟩,⟨true,.v (li (nb:Int)),none⟩] (by kernel_rfl) (by kernel_rfl) (by rfl) (by simp[*];first|exact⟨rfl,Iff.rfl⟩|exact⟨rfl,trivial⟩|rfl) ?_ ?_)
   · first|exact⟨ca _,cb _⟩|exact trivial|(repeat' first|exact trivial|exact ca _|exact cb _|apply And.intro)
   refine X2 ?_;exact⟨(k+1,m+1+na+nb),⟨hk1,by simp only;omega⟩,by simp only;omega,X6 (fun n=>n) []⟩
 (try simp only[BN]at h5);have hkl:k=l.length:=by omega
 rw[hkl,List.drop_length]at hJ;simp only[szL]at hJ;have hm:m=res:=by omega
 refine(Xi ?_);refine X3 ?_;exact Xc
end Go.Proofs.YtppjennamodfdaaGreat

namespace Go.Proofs.YtppjennamodfdaaGreat
open Go Go.Hl
theorem X7r (t:Tm):t.nodes≤1000000→∀d:Nat,Con Tryz.prog 104 false [aT t] (.v (aT t)) none d:=by
 revert t
 refine Tm.ind ?_;intro o n ks ih hn d;simp only[Tm.nodes]at hn;have hlen:=Wg ks;refine X5 Tryz.func104 ?_;simp only[Tryz.f104];simp only[aT,Tm.enc,List.map_cons,List.map_nil];refine X3 ?_;refine X3 ?_;refine X1<|X1<|X2 ?_;refine X4<|(Xf [2,3,12,13] (fun(x:Nat)=>[(14,.v (li x))]) (fun x=>[(2,.box [.c (iC 0),.c (iC 0),.c (.lit XP)]),(3,.box [.c (iC o),.c (iC n),.own 900001]),(900001,.row 74 3 (Xo (ks.take x)))]) (fun x=>x≤ks.length) (fun x=>ks.length - x) (0:Nat) (Nat.zero_le _) ?_ ?_)
 · exact X6 (fun n=>n) [900001]
 rintro k hk;simp only[upS,X8,Xw]
 try simp only[X8,KN,Nat.reduceBEq,if_true,if_false,ins,Nat.reduceLT]
 refine X3 ?_;refine X1<|(X7 rfl (fun h5=>Xb ?_) (fun h5=>?_))
 · (try simp only[BN]at h5);have hlt:k<ks.length:=by omega
   obtain⟨t,he,hd⟩:=Xs hlt;have hw1:=XA hlt (by omega);have hk1:k+1≤ks.length:=hlt;have hmem:t∈ks:=List.mem_of_getElem? he;have hnm:=X1z hmem;have ct:=ih t hmem (by omega);have htl:(ks.take k).length=k:=by rw[List.length_take];omega
   have hroom:Qq (k+1) 40:=XB (by omega) (by omega)
   have hsn:Xo (ks.take (k+1))=Xo (ks.take k)++[t.enc]:=by
    rw[X0Q,X0Q,List.take_add_one,he,Option.toList_some,List.map_append];rfl
   have he':=Wd he;obtain⟨so,stn,sks⟩:=t;simp only[Tm.enc]at he' hsn;simp only[aT,Tm.enc,List.map_cons,List.map_nil]at ct;clear hlt h5 ih hmem hnm he hd;refine X1<|X4<|X1<|X2 ?_;refine(X4q [(18,3),(24,3)] [⟨false,.v (.agg [.c (iC so),.c (iC stn),.c (.sl 3 (Xo sks))]),none⟩] (by kernel_rfl) (by kernel_rfl) (by rfl) (by simp[X4d,X5a,Qy, *];first|exact⟨rfl,Iff.rfl⟩|exact⟨rfl,trivial⟩|rfl) ?_ ?_)
   · first|exact ct _|exact trivial|simpa[*]using ct _
   refine X2 ?_;exact⟨k+1,hk1,by omega,X6 (fun n=>if n=900001 then 23 else n) []⟩
 (try simp only[BN]at h5);have hkl:k=ks.length:=by omega
 subst hkl;simp only[List.take_length];refine(Xi ?_);refine XC (XJ 900001 rfl) ?_;refine X3 ?_;exact XF ⟨.inr rfl,_,le_refl _,⟨⟨_,by simp;rfl,by simp[XD]⟩,by simp,fun h=>by cases h⟩⟩
end Go.Proofs.YtppjennamodfdaaGreat

namespace Go.Proofs.YtppjennamodfdaaGreat
open Go Go.Hl
theorem Xa3 (s:St) (hn:s.nodes≤1000000) (hb:X0o s=true) (ca:∀d:Nat,Con Tryz.prog 157 false [lS s.then_] (.v (lS s.then_)) none d) (cb:∀d:Nat,Con Tryz.prog 157 false [lS s.else_] (.v (lS s.else_)) none d) (d:Nat):
  Con Tryz.prog 133 false [aS s] (.v (aS s)) none d:=by
 have ct:=X7r s.term;have cc:=X6G s.bounds;obtain⟨sd,sc,sv,sn,⟨so,stn,sks⟩,sa,sb,sbs⟩:=s;simp only[St.then_,St.else_,St.term,St.bounds]at ca cb ct cc;simp only[X0o,Bool.and_eq_true,decide_eq_true_eq]at hb;have cc:=cc hb.1;simp only[St.nodes]at hn;have ct:=ct (by omega);simp only[aT,Tm.enc,List.map_cons,List.map_nil]at ct;clear hn hb;refine X5 Tryz.func133 ?_;simp only[Tryz.f133];simp only[aS,St.enc,Tm.enc,List.map_cons,List.map_nil,List.cons_append,List.nil_append];refine X3 ?_;refine X1<|(XS [⟨false,.v (.agg [.c (iC so),.c (iC stn),.c (.sl 3 (Xo sks))]),none⟩,⟨false,.v (lS sa),none⟩,⟨false,.v (lS sb),none⟩,⟨false,.v (lI sbs),none⟩] (by kernel_rfl) (by kernel_rfl) (by rfl) (by simp[*,XI,Qp,XX];first|exact⟨rfl,Iff.rfl⟩|exact⟨rfl,trivial⟩|rfl) ?_ ?_)
 · first|exact⟨ct _,ca _,cb _,cc _⟩|exact trivial|(repeat' first|exact trivial|exact ct _|exact ca _|exact cb _|exact cc _|apply And.intro)
 exact XF ⟨.inr rfl,_,le_refl _,⟨⟨_,by simp;rfl,by simp[XD]⟩,by simp,fun h=>by cases h⟩⟩
theorem X60 (l:List St):Xk l≤1000000→QX l=true→∀d:Nat,Con Tryz.prog 157 false [lS l] (.v (lS l)) none d:=by
 revert l
 apply St.lists;intro l ih hn hbn d;have hlen:=Qg l;refine X5 Tryz.func157 ?_;simp only[Tryz.f157];refine X3 ?_;refine X3 ?_;refine X1<|X1<|X2 ?_;refine X4<|(Xf [6,7] (fun(x:Nat)=>[(3,.v (.one (.own 1003))),(8,.v (li x))]) (fun x=>[(1003,.row 76 10 (X9 (l.take x)))]) (fun x=>x≤l.length) (fun x=>l.length - x) (0:Nat) (Nat.zero_le _) ?_ ?_)
 · exact X6 (fun n=>n) [1003]
 rintro k hk;simp only[upS,X8,Xw]
 try simp only[X8,KN,Nat.reduceBEq,if_true,if_false,ins,Nat.reduceLT]
 refine X3 ?_;refine X1<|(X7 rfl (fun h5=>Xb ?_) (fun h5=>?_))
 · (try simp only[BN]at h5);have hlt:k<l.length:=by omega
   obtain⟨s,he,hd⟩:=Xs hlt;have hw1:=XA hlt (by omega);have hk1:k+1≤l.length:=hlt;have hmem:s∈l:=List.mem_of_getElem? he;have hnm:=Qj hmem;have hbm:=X1C hbn hmem
   have hsz:s.nodes≤1000000:=by
    obtain⟨sd,sc,sv,sn,t,sa,sb,sbs⟩:=s;simp only[St.then_,St.else_,St.term,St.nodes]at*;omega
   have hbab:QX s.then_=true∧QX s.else_=true:=by
    obtain⟨sd,sc,sv,sn,t,sa,sb,sbs⟩:=s;simp only[X0o,Bool.and_eq_true,decide_eq_true_eq]at hbm;exact hbm.2
   have cs:=Xa3 s hsz hbm ((ih s hmem).1 (by omega) hbab.1) ((ih s hmem).2 (by omega) hbab.2);have htl:(l.take k).length=k:=by rw[List.length_take];omega
   have hroom:Qq (k+1) 144:=XB (by omega) (by omega)
   have hsn:X9 (l.take (k+1))=X9 (l.take k)++[s.enc]:=by
    rw[W0,W0,List.take_add_one,he,Option.toList_some,List.map_append];rfl
   have he':=Q1 he;obtain⟨sd,sc,sv,sn,⟨so,stn,sks⟩,sa,sb,sbs⟩:=s;simp only[St.enc,Tm.enc,List.cons_append,List.nil_append]at he' hsn;simp only[aS,St.enc,Tm.enc,List.map_cons,List.map_nil,List.cons_append,List.nil_append]at cs;clear hlt h5 ih hmem hnm he hd hbm hsz hbab;refine X1<|X4<|X1<|X2 ?_;refine(Xm [⟨false,.v (aS (.mk sd sc sv sn (.mk so stn sks) sa sb sbs)),none⟩] ?_ ?_)
   · first|exact cs _|exact trivial|simpa[*]using cs _
   refine X2 ?_;exact⟨k+1,hk1,by omega,X6 (fun n=>if n=1003 then 16 else n) []⟩
 (try simp only[BN]at h5);have hkl:k=l.length:=by omega
 subst hkl;simp only[List.take_length];refine(Xi ?_);refine X3 ?_;exact XF ⟨.inr rfl,_,XJ 1003 rfl,⟨⟨_,by simp;rfl,by simp[XD]⟩,by simp,fun h=>by cases h⟩⟩
theorem Xcu (s:St) (hn:s.nodes≤1000000) (hb:X0o s=true) (d:Nat):Con Tryz.prog 133 false [aS s] (.v (aS s)) none d:=by
 have hx:Xk s.then_≤1000000∧Xk s.else_≤1000000∧QX s.then_=true∧QX s.else_=true:=by
  obtain⟨sd,sc,sv,sn,t,sa,sb,sbs⟩:=s;simp only[St.then_,St.else_,St.nodes,X0o,Bool.and_eq_true,decide_eq_true_eq]at*;exact⟨by omega,by omega,hb.2⟩
 exact Xa3 s hn hb (X60 _ hx.1 hx.2.2.1) (X60 _ hx.2.1 hx.2.2.2) d
mutual
def woS:St→Int→St
 | .mk d c v n t a b bs,i=>.mk d c v n t (woL a i) (woL b (i - szL a)) bs
def woL:List St→Int→List St
 |[],_=>[]
 |s::l,i=>(if i=0 then [] else [woS s (i - 1)])++woL l (i - szS s)
end
mutual
theorem woS_id:∀(s:St) (i:Int),i<0∨(szS s:Int) - 1≤i→woS s i=s
 | .mk d c v n t a b bs,i,h=>by
   simp only[szS]at h;simp only[woS];rw[WL a i (by omega),WL b _ (by omega)]
theorem WL:∀(l:List St) (i:Int),i<0∨(szL l:Int)≤i→woL l i=l
 |[],i,h=>rfl
 | s::l,i,h=>by
   have hp:=X0t s;simp only[szL]at h;simp only[woL];rw[if_neg (by omega),woS_id s _ (by omega),WL l _ (by omega)];rfl
end
mutual
theorem XcG:∀(s:St) (i:Int),(woS s i).nodes≤s.nodes
 | .mk d c v n t a b bs,i=>by
   have:=X2h a i;have:=X2h b (i - szL a);simp only[woS,St.nodes];omega
theorem X2h:∀(l:List St) (i:Int),Xk (woL l i)≤Xk l
 |[],i=>Nat.le_refl _
 | s::l,i=>by
   have:=XcG s (i - 1);have:=X2h l (i - szS s);simp only[woL];split
   · simp only[List.nil_append,Xk];omega
   simp only[List.cons_append,List.nil_append,Xk];omega
end
mutual
theorem woS_bnd:∀(s:St) (i:Int),X0o s=true→X0o (woS s i)=true
 | .mk d c v n t a b bs,i,h=>by
   simp only[X0o,Bool.and_eq_true]at h;simp only[woS,X0o,Bool.and_eq_true];exact⟨h.1,X39 a _ h.2.1,X39 b _ h.2.2⟩
theorem X39:∀(l:List St) (i:Int),QX l=true→QX (woL l i)=true
 |[],i,h=>rfl
 | s::l,i,h=>by
   simp only[QX,Bool.and_eq_true]at h;simp only[woL];split
   · exact X39 l _ h.2
   simp only[List.cons_append,List.nil_append,QX,Bool.and_eq_true];exact⟨woS_bnd s _ h.1,X39 l _ h.2⟩
end
mutual
def fndS:St→Int→Option St
 | .mk d c v n t a b bs,i=>if i=0 then some (.mk d c v n t a b bs)else
   match Zx a (i - 1)with
   |some x=>some x
   |none=>Zx b (i - 1 - szL a)
def Zx:List St→Int→Option St
 |[],_=>none
 | s::l,i=>match fndS s i with
   |some x=>some x
   |none=>Zx l (i - szS s)
end
theorem X3h (i:Int):Zx [] i=none:=by simp only[Zx]
theorem X0Y (d c v n:Int) (t:Tm) (a b:List St) (bs:List Int) (l:List St) (i:Int):Zx (.mk d c v n t a b bs::l) i=
  if i=0 then some (.mk d c v n t a b bs)else
  match Zx a (i - 1)with
  |some x=>some x
  | none=>match Zx b (i - 1 - szL a)with
    |some x=>some x
    |none=>Zx l (i - 1 - szL a - szL b):=by
 have h:i - ((1+szL a+szL b:Nat):Int)=i - 1 - szL a - szL b:=by omega
 simp only[Zx,fndS,szS];rw[h];by_cases h0:i=0
 · simp only[h0,if_true]
 simp only[h0,if_false];cases Zx a (i - 1)with
 |some x=>rfl
 |none=>rfl
end Go.Proofs.YtppjennamodfdaaGreat

namespace Go.Proofs.YtppjennamodfdaaGreat
open Go Go.Hl
theorem X67 (l:List St) (s:St):X9 (l++[s])=X9 l++[s.enc]:=by
 rw[W0,W0,List.map_append];rfl
theorem X8b (l:List St):Xk l≤1000000→QX l=true→∀i:Int,-5000000≤i→i≤5000000→∀d:Nat,Con Tryz.prog 103 false [lS l,li i] (.v (lS (woL l i))) none d:=by
 revert l
 apply St.lists;intro l ih hn hbn i hi0 hi1 d;have hlen:=Qg l;have hszl:=QV l;obtain⟨res,hres⟩:∃r,woL l i=r:=⟨_,rfl⟩;rw[hres];refine X5 Tryz.func103 ?_;simp only[Tryz.f103];refine X3 ?_;refine X3 ?_;refine X1<|X1<|X2 ?_;refine X4<|(Xf [11,12] (fun(x:Nat×Int×List St)=>[(1,.v (li x.2.1)),(5,.v (.one (.own 1003))),(13,.v (li x.1))]) (fun x=>[(1003,.row 76 10 (X9 x.2.2))]) (fun x=>x.1≤l.length∧x.2.2++woL (l.drop x.1) x.2.1=res∧x.2.2.length≤x.1∧-6000000≤x.2.1 - szL (l.drop x.1)∧x.2.1≤5000000) (fun x=>l.length - x.1) (0,i,[]) ⟨Nat.zero_le _,by simpa using hres,Nat.le_refl _,by simp only[List.drop_zero];omega,hi1⟩ ?_ ?_)
 · exact X6 (fun n=>n) [1003]
 rintro⟨k,c,acc⟩ ⟨hk,hJ,hal,hc0,hc1⟩;simp only[upS,X8,Xw]
 try simp only[X8,KN,Nat.reduceBEq,if_true,if_false,ins,Nat.reduceLT]
 simp only at hk hJ hal hc0 hc1;clear hres hi0 hi1;refine X3 ?_;refine X1<|(X7 rfl (fun h5=>Xb ?_) (fun h5=>?_))
 · (try simp only[BN]at h5);have hlt:k<l.length:=by omega
   obtain⟨s,he,hd⟩:=Xs hlt;have hw1:=XA hlt (by omega);have hk1:k+1≤l.length:=hlt;have hmem:s∈l:=List.mem_of_getElem? he;have hnm:=Qj hmem;have hbm:=X1C hbn hmem
   have hsz:s.nodes≤1000000:=by
    obtain⟨sd,sc,sv,sn,t,sa,sb,sbs⟩:=s;simp only[St.then_,St.else_,St.term,St.nodes]at*;omega
   have cc:=Xcu s hsz hbm;rw[hd]at hJ hc0;simp only[woL]at hJ;simp only[szL]at hc0;have he':=Q1 he;have iha:=(ih s hmem).1 (by omega);have ihb:=(ih s hmem).2 (by omega);have hroom:Qq (acc.length+1) 144:=XB (by omega) (by omega);obtain⟨sd,sc,sv,sn,⟨so,stn,sks⟩,sa,sb,sbs⟩:=s;simp only[X0o,Bool.and_eq_true,decide_eq_true_eq]at hbm;simp only[St.then_,St.else_,St.term]at iha ihb hnm;have iha:=iha hbm.2.1;have ihb:=ihb hbm.2.2;have ca:=X4k sa (by omega);have cb:=X4k sb (by omega);have hla:=QV sa;have hlb:=QV sb;have hida:=WL sa;have hidb:=WL sb;simp only[woS,szS]at hJ;simp only[szS]at hc0;simp only[St.enc,Tm.enc,List.cons_append,List.nil_append]at he';simp only[aS,St.enc,Tm.enc,List.map_cons,List.map_nil,List.cons_append,List.nil_append]at cc;generalize szL sa=na at*;generalize szL sb=nb at*;have hwa:IntKind.i64.wrap (c - 1)=c - 1:=Xd (by omega) (by omega);have hc:c - ((1+na+nb:Nat):Int)=c - 1 - ((na:Int)+(nb:Int)):=by omega
   rw[hc]at hJ;clear hlt h5 ih hmem hd he hbm hsz hc;refine X1<|X4<|X1<|X2 ?_;refine X1<|X1<|X2 ?_;refine(Xa rfl (fun h8=>?_) fun h8=>?_)
   · (try simp only[BN]at h8);have hw2:IntKind.i64.wrap ((na:Int)+(nb:Int))=(na:Int)+(nb:Int):=Xd (by omega) (by omega);have hw3:IntKind.i64.wrap (c - 1 - ((na:Int)+(nb:Int)))=c - 1 - ((na:Int)+(nb:Int)):=Xd (by omega) (by omega);rw[if_pos (by simpa using h8),List.nil_append]at hJ;clear h8 iha ihb hida hidb cc;refine X3 ?_;refine X1<|(XS [⟨true,.v (li (na:Int)),none⟩,⟨true,.v (li (nb:Int)),none⟩] (by kernel_rfl) (by kernel_rfl) (by rfl) (by simp[*];first|exact⟨rfl,Iff.rfl⟩|exact⟨rfl,trivial⟩|rfl) ?_ ?_)
     · first|exact⟨ca _,cb _⟩|exact trivial|(repeat' first|exact trivial|exact ca _|exact cb _|apply And.intro)
     refine(Xi ?_);refine X2 ?_;exact⟨(k+1,c - 1 - ((na:Int)+(nb:Int)),acc),⟨hk1,hJ,by simp only;omega,by simp only;omega,by simp only;omega⟩,by simp only;omega,X6 (fun n=>n) []⟩
   (try simp only[BN]at h8);have hne:¬c=0:=by simpa using h8
   rw[if_neg hne,←List.append_assoc]at hJ;have iha:=fun h0 h1=>iha (c - 1) h0 h1;have hida:=hida (c - 1);have ihb:=fun h0 h1=>ihb (c - 1 - (na:Int)) h0 h1;have hidb:=hidb (c - 1 - (na:Int));obtain⟨A,hA⟩:∃x,woL sa (c - 1)=x:=⟨_,rfl⟩;obtain⟨B,hB⟩:∃x,woL sb (c - 1 - (na:Int))=x:=⟨_,rfl⟩;rw[hA]at iha hida hJ;rw[hB]at ihb hidb hJ;have hw4:IntKind.i64.wrap (c - 1 - (na:Int))=c - 1 - (na:Int):=Xd (by omega) (by omega);have hw5:IntKind.i64.wrap (c - 1 - (na:Int) - (nb:Int))=c - 1 - (na:Int) - (nb:Int):=Xd (by omega) (by omega);have hsn:=X67 acc (.mk sd sc sv sn (.mk so stn sks) A B sbs);simp only[St.enc,Tm.enc,List.cons_append,List.nil_append]at hsn;clear h8 hA hB;refine X3 ?_;refine Xj [⟨false,.v (.agg [.c (iC sd),.c (iC sc),.c (iC sv),.c (iC sn),.c (iC so),.c (iC stn),.c (.sl 3 (Xo sks)),.c (.sl 10 (X9 sa)),.c (.sl 10 (X9 sb)),.c (.sl 1 (Xe sbs))]),none⟩] ?_ ?_
   · first|exact cc _|exact trivial|simpa[*]using cc _
   refine(XV [1,5,7,8,11,12,13] (fun(z:Unit)=>[]) (fun(z:Unit)=>[(7,.box [.c (iC sd),.c (iC sc),.c (iC sv),.c (iC sn),.c (iC so),.c (iC stn),.c (.sl 3 (Xo sks)),.c (.sl 10 (X9 sa)),.c (.sl 10 (X9 sb)),.c (.sl 1 (Xe sbs))]),(8,.box [.c (iC sd),.c (iC sc),.c (iC sv),.c (iC sn),.c (iC so),.c (iC stn),.c (.sl 3 (Xo sks)),.c (.sl 10 (X9 A)),.c (.sl 10 (X9 sb)),.c (.sl 1 (Xe sbs))]),(1003,.row 76 10 (X9 acc))]) (fun(z:Unit)=>True) ?_ ?_)
   ·
    refine Xj [⟨true,.v (li (na:Int)),none⟩] ?_ ?_
    · first|exact ca _|exact trivial|simpa[*]using ca _
    refine X3 ?_;refine(Xa rfl (fun h18=>?_) fun h18=>?_)
    · try simp only[BN]at h18
      have h18':1≤c∧c - 1<(na:Int):=by
       first|omega|(simp at h18;omega)
      have iha:=iha (by omega) (by omega);refine(Xm [⟨false,.v (lS A),none⟩] ?_ ?_)
      · first|exact iha _|exact trivial|simpa[*]using iha _
      exact⟨(),trivial,X6 (fun n=>n) []⟩
    try simp only[BN]at h18
    have hAs:A=sa:=hida (by
     first|omega|(simp at h18;omega))
    clear iha hida hsn hJ;subst hAs;exact⟨(),trivial,X6 (fun n=>n) []⟩
   rintro⟨⟩ hz;simp only[upS,X8,Xw]
   try simp only[X8,KN,Nat.reduceBEq,if_true,if_false,ins,Nat.reduceLT]
   refine Xj [⟨true,.v (li (na:Int)),none⟩] ?_ ?_
   · first|exact ca _|exact trivial|simpa[*]using ca _
   refine(XV [1,5,7,8,11,12,13] (fun(z:Unit)=>[]) (fun(z:Unit)=>[(7,.box [.c (iC sd),.c (iC sc),.c (iC sv),.c (iC sn),.c (iC so),.c (iC stn),.c (.sl 3 (Xo sks)),.c (.sl 10 (X9 sa)),.c (.sl 10 (X9 sb)),.c (.sl 1 (Xe sbs))]),(8,.box [.c (iC sd),.c (iC sc),.c (iC sv),.c (iC sn),.c (iC so),.c (iC stn),.c (.sl 3 (Xo sks)),.c (.sl 10 (X9 A)),.c (.sl 10 (X9 B)),.c (.sl 1 (Xe sbs))]),(1003,.row 76 10 (X9 acc))]) (fun(z:Unit)=>True) ?_ ?_)
   ·
    refine Xj [⟨true,.v (li (nb:Int)),none⟩] ?_ ?_
    · first|exact cb _|exact trivial|simpa[*]using cb _
    refine X3 ?_;refine(Xa rfl (fun h26=>?_) fun h26=>?_)
    · try simp only[BN]at h26
      have h26':0≤c - 1 - (na:Int)∧c - 1 - (na:Int)<(nb:Int):=by
       first|omega|(simp at h26;omega)
      have ihb:=ihb (by omega) (by omega);refine(Xm [⟨false,.v (lS B),none⟩] ?_ ?_)
      · first|exact ihb _|exact trivial|simpa[*]using ihb _
      exact⟨(),trivial,X6 (fun n=>n) []⟩
    try simp only[BN]at h26
    have hBs:B=sb:=hidb (by
     first|omega|(simp at h26;omega))
    clear ihb hidb hsn hJ;subst hBs;exact⟨(),trivial,X6 (fun n=>n) []⟩
   rintro⟨⟩ hz2;simp only[upS,X8,Xw]
   try simp only[X8,KN,Nat.reduceBEq,if_true,if_false,ins,Nat.reduceLT]
   refine Xj [⟨true,.v (li (nb:Int)),none⟩] ?_ ?_
   · first|exact cb _|exact trivial|simpa[*]using cb _
   refine X2 ?_;refine X2 ?_;exact⟨(k+1,c - 1 - (na:Int) - (nb:Int),acc++[.mk sd sc sv sn (.mk so stn sks) A B sbs]),⟨hk1,by simp only;rw[show c - 1 - (na:Int) - (nb:Int)=c - 1 - ((na:Int)+(nb:Int)) by omega];exact hJ,by simp only[List.length_append,List.length_singleton];omega,by simp only;omega,by simp only;omega⟩,by simp only;omega,X6 (fun n=>if n=1003 then 77 else n) []⟩
 (try simp only[BN]at h5);have hkl:k=l.length:=by omega
 rw[hkl,List.drop_length]at hJ;simp only[woL,List.append_nil]at hJ;subst hJ;refine(Xi ?_);refine X3 ?_;exact XF ⟨.inr rfl,_,XJ 1003 rfl,⟨⟨_,by simp;rfl,by simp[XD]⟩,by simp,fun h=>by cases h⟩⟩
end Go.Proofs.YtppjennamodfdaaGreat

namespace Go.Proofs.YtppjennamodfdaaGreat
open Go Go.Hl
theorem X9y (f:Fl) (hv:f.vars.length≤1000000) (hh:f.hats.length≤1000000) (ht:∀h∈f.hats,h.term.nodes≤1000000) (hn:Xk f.body≤1000000) (hb:QX f.body=true) (i:Int) (h0:0≤i) (h1:i<(szL f.body:Int)) (d:Nat):
  Con Tryz.prog 67 false [aF f,li i] (.tup [aF ⟨f.vars,f.hats,woL f.body i⟩,li 0]) none d:=by
 have cs:=Xcz f (by omega);have cv:=X6g f.vars hv;have hsl:=QV f.body;have cw:=X8b f.body hn hb i (by omega) (by omega);obtain⟨vars,hats,body⟩:=f;simp only at hv hh ht cs cv cw h1;obtain⟨G,hG⟩:∃x,woL body i=x:=⟨_,rfl⟩;obtain⟨N,hN⟩:∃x,szL body=x:=⟨_,rfl⟩;rw[hN]at cs h1;rw[hG]at cw⊢;have hneg:¬i<0:=by omega
 have hge:¬(N:Int)≤i:=by omega
 clear hG hN hsl hn hb;refine X5 Tryz.func67 ?_;simp only[Tryz.f67];simp only[aF,Fl.enc,List.map_cons,List.map_nil]at cs⊢;refine X3 ?_;refine X1<|X1<|(Xm [⟨true,.v (li (N:Int)),none⟩] ?_ ?_)
 · first|exact cs _|exact trivial|simpa[*]using cs _
 refine(Xa rfl (fun h2=>?_) fun h2=>?_)
 · exact Bool.noConfusion h2
 (try simp only[BN]at h2);refine X1<|(XS [⟨false,.v (lV vars),none⟩,⟨false,.v (lS G),none⟩] (by kernel_rfl) (by kernel_rfl) (by rfl) (by simp[*,XI,Qp,XX];first|exact⟨rfl,Iff.rfl⟩|exact⟨rfl,trivial⟩|rfl) ?_ ?_)
 · first|exact⟨cv _,cw _⟩|exact trivial|(repeat' first|exact trivial|exact cv _|exact cw _|apply And.intro)
 refine X1<|X1<|X2 ?_;refine X4<|(Xf [4,6,27,28] (fun(x:Nat)=>[(29,.v (li x))]) (fun x=>[(4,.box [.c (.lit XP),.c (.lit XP),.c (.lit XP)]),(6,.box [.c (.sl 5 (Xv vars)),.own 900001,.c (.sl 10 (X9 G))]),(900001,.row 99 6 (Xu (hats.take x)))]) (fun x=>x≤hats.length) (fun x=>hats.length - x) (0:Nat) (Nat.zero_le _) ?_ ?_)
 · exact X6 (fun n=>n) [900001]
 rintro k hk;simp only[upS,X8,Xw]
 try simp only[X8,KN,Nat.reduceBEq,if_true,if_false,ins,Nat.reduceLT]
 refine X3 ?_;refine X1<|(X7 rfl (fun h9=>Xb ?_) (fun h9=>?_))
 · (try simp only[BN]at h9);have hlt:k<hats.length:=by omega
   obtain⟨h,he,hd⟩:=Xs hlt;have hw1:=XA hlt (by omega);have hk1:k+1≤hats.length:=hlt;have hmem:h∈hats:=List.mem_of_getElem? he;have ct:=X7r h.term (ht h hmem);have htl:(hats.take k).length=k:=by rw[List.length_take];omega
   have hroom:Qq (k+1) 72:=XB (by omega) (by omega)
   have hsn:Xu (hats.take (k+1))=Xu (hats.take k)++[h.enc]:=by
    unfold Xu;rw[List.take_add_one,he,Option.toList_some,List.map_append];rfl
   have he':(Xu hats)[k]? =some h.enc:=by simp[he]
   obtain⟨hnm,hlo,hhi,⟨ho,htn,hks⟩⟩:=h;simp only[aT,Tm.enc,List.map_cons,List.map_nil]at ct;simp only[Ht.enc,Tm.enc,List.cons_append,List.nil_append]at hsn he';clear hlt h9 hmem hd he ht cs cv cw;refine X1<|X4<|X1<|X2 ?_;refine Xj [⟨false,.v (.agg [.c (iC ho),.c (iC htn),.c (.sl 3 (Xo hks))]),none⟩] ?_ ?_
   · first|exact ct _|exact trivial|simpa[*]using ct _
   refine X2 ?_;refine X2 ?_;exact⟨k+1,hk1,by omega,X6 (fun n=>if n=900001 then 41 else n) []⟩
 (try simp only[BN]at h9);have hkl:k=hats.length:=by omega
 subst hkl;simp only[List.take_length];refine(Xi ?_);refine XC (XJ 900001 rfl) ?_;refine X3 ?_;exact XF ⟨.inr rfl,_,le_refl _,⟨⟨_,by simp;rfl,by simp[XD]⟩,by simp,fun h=>by cases h⟩⟩
end Go.Proofs.YtppjennamodfdaaGreat

namespace Go.Proofs.YtppjennamodfdaaGreat
open Go Go.Hl
end Go.Proofs.YtppjennamodfdaaGreat

namespace Go.Proofs.YtppjennamodfdaaGreat
open Go Go.Hl
theorem X5l:∀(l:List St) (i:Int),i<0→Zx l i=none
 |[],i,h=>X3h i
 | .mk d c v n t a b bs::l,i,h=>by
   rw[X0Y];rw[if_neg (by omega),X5l a _ (by omega)];simp only;rw[X5l b _ (by omega)];simp only;exact X5l l _ (by omega)
theorem X02:∀(l:List St) (i:Int),(szL l:Int)≤i→Zx l i=none
 |[],i,h=>X3h i
 | .mk d c v n t a b bs::l,i,h=>by
   simp only[szL,szS]at h;rw[X0Y];rw[if_neg (by omega),X02 a _ (by omega)];simp only;rw[X02 b _ (by omega)];simp only;exact X02 l _ (by omega)
theorem ZA:∀(l:List St) (i:Int),0≤i→i<(szL l:Int)→∃s,Zx l i=some s∧s.nodes≤Xk l∧(QX l=true→X0o s=true)∧i+szS s≤szL l∧szL (woL l i)+szS s=szL l
 |[],i,h0,h=>by simp only[szL]at h;omega
 | .mk d c v n t a b bs::l,i,h0,h=>by
   simp only[szL,szS]at h;rw[X0Y];split
   · rename_i e;subst e;refine⟨_,rfl,?_,?_,?_,?_⟩
     · simp only[Xk];omega
     · intro hb;simp only[QX,Bool.and_eq_true]at hb;exact hb.1
     · simp only[szL,szS];omega
     simp only[woL,if_pos,List.nil_append,szL];rw[WL l _ (by have:=X0t (.mk d c v n t a b bs);omega)];omega
   rename_i e;by_cases ha:i - 1<(szL a:Int)
   · obtain⟨s,h1,h2,h3,h4,h5⟩:=ZA a (i - 1) (by omega) ha;rw[h1];refine⟨s,rfl,?_,?_,?_,?_⟩
     · simp only[Xk,St.nodes];omega
     · intro hb;simp only[QX,X0o,Bool.and_eq_true]at hb;exact h3 hb.1.2.1
     · simp only[szL,szS];omega
     simp only[woL,if_neg e,woS,List.cons_append,List.nil_append,szL,szS];rw[WL b _ (by omega),WL l _ (by omega)];omega
   rw[X02 a _ (by omega)];simp only;by_cases hb:i - 1 - (szL a:Int)<(szL b:Int)
   · obtain⟨s,h1,h2,h3,h4,h5⟩:=ZA b (i - 1 - szL a) (by omega) hb;rw[h1];refine⟨s,rfl,?_,?_,?_,?_⟩
     · simp only[Xk,St.nodes];omega
     · intro hb;simp only[QX,X0o,Bool.and_eq_true]at hb;exact h3 hb.1.2.2
     · simp only[szL,szS];omega
     simp only[woL,if_neg e,woS,List.cons_append,List.nil_append,szL,szS];rw[WL a _ (by omega),WL l _ (by omega)];omega
   rw[X02 b _ (by omega)];simp only;obtain⟨s,h1,h2,h3,h4,h5⟩:=ZA l (i - 1 - szL a - szL b) (by omega) (by omega);rw[h1];refine⟨s,rfl,?_,?_,?_,?_⟩
   · simp only[Xk];omega
   · intro hb;simp only[QX,Bool.and_eq_true]at hb;exact h3 hb.2
   · simp only[szL,szS];omega
   simp only[woL,if_neg e,woS,List.cons_append,List.nil_append,szL,szS];rw[WL a _ (by omega),WL b _ (by omega),show i - ((1+szL a+szL b:Nat):Int)=i - 1 - szL a - szL b by omega];omega
theorem XcV (l:List St):Xk l≤1000000→∀(i:Int) (s:St),0≤i→i≤5000000→Zx l i=some s→∀d:Nat,Con Tryz.prog 85 false [lS l,li i] (.tup [aS s,lb true]) none d:=by
 revert l
 apply St.lists;intro l ih hn i s hi0 hi1 hf d;have hlen:=Qg l;have hneg:¬i<0:=by omega
 obtain⟨rd,rc,rv,rn,⟨ro,rtn,rks⟩,ra,rb,rbs⟩:=s;refine X5 Tryz.func85 ?_;simp only[Tryz.f85];simp only[aS,St.enc,Tm.enc,List.map_cons,List.map_nil,List.cons_append,List.nil_append];refine X3 ?_;refine X1<|X1<|X2 ?_;refine(Xa rfl (fun h2=>?_) fun h2=>?_)
 · exact absurd h2 (by simp[hneg])
 (try simp only[BN]at h2);refine X1<|X1<|X2 ?_;refine X4<|(Xf [0,4] (fun(x:Nat×Int)=>[(1,.v (li x.2)),(6,.v (li x.1))]) (fun x=>[(4,.box [.c (iC 0),.c (iC 0),.c (iC 0),.c (iC 0),.c (iC 0),.c (iC 0),.c (.lit XP),.c (.lit XP),.c (.lit XP),.c (.lit XP)])]) (fun x=>x.1≤l.length∧Zx (l.drop x.1) x.2=some (.mk rd rc rv rn (.mk ro rtn rks) ra rb rbs)∧0≤x.2∧x.2≤5000000) (fun x=>l.length - x.1) (0,i) ⟨Nat.zero_le _,hf,hi0,hi1⟩ ?_ ?_)
 · exact X6 (fun n=>n) []
 rintro⟨k,c⟩ ⟨hk,hJ,hc0,hc1⟩;simp only[upS,X8,Xw]
 try simp only[X8,KN,Nat.reduceBEq,if_true,if_false,ins,Nat.reduceLT]
 simp only at hk hJ hc0 hc1;clear hf hi0 hi1 hneg h2;refine X1<|X1<|X2 ?_;refine(X7 rfl (fun h8=>Xb ?_) (fun h8=>?_))
 · (try simp only[BN]at h8);have hlt:k<l.length:=by omega
   obtain⟨s,he,hd⟩:=Xs hlt;have hw1:=XA hlt (by omega);have hk1:k+1≤l.length:=hlt;have hmem:s∈l:=List.mem_of_getElem? he;have hnm:=Qj hmem;rw[hd]at hJ;have he':=Q1 he;have iha:=(ih s hmem).1 (by omega);have ihb:=(ih s hmem).2 (by omega);obtain⟨sd,sc,sv,sn,⟨so,stn,sks⟩,sa,sb,sbs⟩:=s;simp only[St.then_,St.else_,St.term]at iha ihb hnm;have ca:=Zt sa (by omega);have cb:=Zt sb (by omega);have hga:=X02 sa (c - 1);have hna:=X5l sa (c - 1);have hla:=QV sa;have hlb:=QV sb;have hsa:=ZA sa (c - 1);have hsb:=ZA sb (c - 1 - (szL sa:Int));have hgb:=X02 sb (c - 1 - (szL sa:Int));rw[X0Y]at hJ;simp only[St.enc,Tm.enc,List.cons_append,List.nil_append]at he';simp only[aS,St.enc,Tm.enc,List.map_cons,List.map_nil,List.cons_append,List.nil_append]at iha ihb;generalize szL sa=na at*;generalize szL sb=nb at*;clear hlt h8 ih hmem hd he;refine X1<|X4<|X1<|X1<|X2 ?_;refine(Xa rfl (fun h10=>?_) fun h10=>?_)
   · (try simp only[BN]at h10);rw[if_pos (by simpa using h10)]at hJ;cases hJ;clear h10;refine X3 ?_;exact XF ⟨.inr rfl,_,le_refl _,⟨⟨_,by simp;rfl,by simp[XD]⟩,by simp,fun h=>by cases h⟩⟩
   (try simp only[BN]at h10);have hne:¬c=0:=by simpa using h10
   rw[if_neg hne]at hJ;have hwa:IntKind.i64.wrap (c - 1)=c - 1:=Xd (by omega) (by omega);have hwb:IntKind.i64.wrap (c - 1 - (na:Int))=c - 1 - (na:Int):=Xd (by omega) (by omega);have hwc:IntKind.i64.wrap (c - 1 - (na:Int) - (nb:Int))=c - 1 - (na:Int) - (nb:Int):=Xd (by omega) (by omega);clear h10;refine X3 ?_;refine Xj [⟨true,.v (li (na:Int)),none⟩] ?_ ?_
   · first|exact ca _|exact trivial|simpa[*]using ca _
   refine X1<|X1<|X2 ?_;refine(Xa rfl (fun h16=>?_) fun h16=>?_)
   · try simp only[BN]at h16
     have h16':c - 1<(na:Int):=by
      first|omega|(simp at h16;omega)
     obtain⟨y,hy,_⟩:=hsa (by omega) h16';rw[hy]at hJ;simp only[Option.some.injEq]at hJ;subst hJ;have ci:=iha _ _ (by omega) (by omega) hy;clear h16 hna hga hgb hsb hsa hy iha ihb;refine Xj [⟨false,.tup [.agg [.c (iC rd),.c (iC rc),.c (iC rv),.c (iC rn),.c (iC ro),.c (iC rtn),.c (.sl 3 (Xo rks)),.c (.sl 10 (X9 ra)),.c (.sl 10 (X9 rb)),.c (.sl 1 (Xe rbs))],lb true],none⟩] ?_ ?_
     · first|exact ci _|exact trivial|simpa[*]using ci _
     exact XF ⟨.inr rfl,_,le_refl _,⟨⟨_,by simp;rfl,by simp[XD]⟩,by simp,fun h=>by cases h⟩⟩
   try simp only[BN]at h16
   have h16':(na:Int)≤c - 1:=by
    first|omega|(simp at h16;omega)
   rw[hga h16']at hJ;simp only at hJ;clear h16;refine X3 ?_;refine Xj [⟨true,.v (li (nb:Int)),none⟩] ?_ ?_
   · first|exact cb _|exact trivial|simpa[*]using cb _
   refine X1<|X1<|X2 ?_;refine(Xa rfl (fun h22=>?_) fun h22=>?_)
   · try simp only[BN]at h22
     have h22':c - 1 - (na:Int)<(nb:Int):=by
      first|omega|(simp at h22;omega)
     obtain⟨y,hy,_⟩:=hsb (by omega) h22';rw[hy]at hJ;simp only[Option.some.injEq]at hJ;subst hJ;have ci:=ihb _ _ (by omega) (by omega) hy;clear h22 hna hga hgb hsb hsa hy iha ihb;refine Xj [⟨false,.tup [.agg [.c (iC rd),.c (iC rc),.c (iC rv),.c (iC rn),.c (iC ro),.c (iC rtn),.c (.sl 3 (Xo rks)),.c (.sl 10 (X9 ra)),.c (.sl 10 (X9 rb)),.c (.sl 1 (Xe rbs))],lb true],none⟩] ?_ ?_
     · first|exact ci _|exact trivial|simpa[*]using ci _
     exact XF ⟨.inr rfl,_,le_refl _,⟨⟨_,by simp;rfl,by simp[XD]⟩,by simp,fun h=>by cases h⟩⟩
   try simp only[BN]at h22
   have h22':(nb:Int)≤c - 1 - (na:Int):=by
    first|omega|(simp at h22;omega)
   rw[hgb h22']at hJ;simp only at hJ;clear h22 hna hga hgb hsb hsa iha ihb;refine X2 ?_;refine X2 ?_;exact⟨(k+1,c - 1 - (na:Int) - (nb:Int)),⟨hk1,hJ,by simp only;omega,by simp only;omega⟩,by simp only;omega,X6 (fun n=>n) []⟩
 exfalso;simp only[BN]at h8;have hkl:k=l.length:=by omega
 rw[hkl,List.drop_length,X3h]at hJ;cases hJ
end Go.Proofs.YtppjennamodfdaaGreat

namespace Go.Proofs.YtppjennamodfdaaGreat
open Go Go.Hl
def pgL (q:List Int):Nat→List St→List St
 |0,b=>b
 |i+1,b=>pgL q i (if(i:Int)∈q then b else woL b i)
def pgF (f:Fl) (q:List Int):Fl:=⟨f.vars,f.hats,pgL q (szL f.body) f.body⟩
theorem woL_sz {l:List St} {i:Nat} (h:i<szL l):i≤szL (woL l i):=by
 obtain⟨s,_,_,_,h1,h2⟩:=ZA l i (by omega) (by omega);omega
set_option maxHeartbeats 16000000 in
theorem X4V (f:Fl) (h:Sm f) (q:List Int) (hq:q.length≤100000) (d:Nat):Con Tryz.prog 27 false [aF f,.one (.c (.sl 1 (Xe q)))] (.tup [if Zm f [q]=0 then aF (pgF f q)else .agg [.c (.lit XP),.c (.lit XP),.c (.lit XP)],li (Zm f [q])]) none d:=by
 have ca:=ZX f h [q] (by simp) (fun q' hq'=>by rw[List.mem_singleton.1 hq'];omega);have hv:=h.vars;have hh:=h.hats;have hno:=h.nodes;have hbd:=h.bnd;have hsz:=h.sz;have hfl:=XO f.body;obtain⟨C,hC⟩:∃x,Zm f [q]=x:=⟨_,rfl⟩;unfold askT at ca;simp only[X3g,List.map_cons,List.map_nil]at ca;rw[hC]at ca⊢;clear h hC;by_cases hz:C=0
 · subst hz;have hTab:X5W f=ZF f (flL f.body) (arL f.body (-1) 0) (rdT f):=rfl;rw[hTab]at ca;simp only[if_true]at ca⊢;obtain⟨S,hS⟩:∃x,flL f.body=x:=⟨_,rfl⟩;obtain⟨A,hA⟩:∃x,arL f.body (-1) 0=x:=⟨_,rfl⟩;obtain⟨Rd,hRd⟩:∃x,rdT f=x:=⟨_,rfl⟩;rw[hS,hA,hRd]at ca;rw[hS]at hfl;unfold pgF;obtain⟨vars,hats,body⟩:=f;simp only at hv hh hno hbd hsz hfl⊢;have hht:∀h∈hats,h.term.nodes≤1000000:=fun h hm=>by have:=X0l hm;omega
   have hcn:=fun i=>X3x q i (by omega);have crm:=fun(b:List St) (h1:Xk b≤Xk body) h2 (i:Nat) (h3:i+1≤szL b)=>X9y ⟨vars,hats,b⟩ (by simp only;omega) (by simp only;omega) hht (by simp only;omega) h2 i (by omega) (by simp only;omega);have cfr:=fun(b:List St) (h1:Xk b≤Xk body) h2=>XcK ⟨vars,hats,b⟩ ⟨hv,hh,by simp only;omega,h2⟩;simp only[aF,Fl.enc,List.map_cons,List.map_nil]at ca crm cfr⊢;obtain⟨res,hres⟩:∃x,pgL q (szL body) body=x:=⟨_,rfl⟩;rw[hres];rw[←hfl]at hres hsz;have hfl2:S.length≤szL body:=by omega
   clear hht hTab hS hA hRd hfl;refine X5 Tryz.func27 ?_;simp only[Tryz.f27];refine X3 ?_;refine X1<|(QO 3 [] [⟨false,.tup [.one (.c (ZF ⟨vars,hats,body⟩ S A Rd)),li 0],none⟩] (by simp[*];rfl) trivial (XJ 13 rfl) (by simp[*];first|exact⟨rfl,Iff.rfl⟩|exact⟨rfl,trivial⟩|rfl) ?_ ?_)
   · first|exact ca _|simpa using ca _
   refine X1<|X1<|X2 ?_;refine(Xa rfl (fun h3=>?_) fun h3=>?_)
   · exact absurd h3 (by simp)
   (try simp only[BN]at h3);refine X3 ?_;have hw0:IntKind.i64.wrap ((S.length:Int) - 1)=(S.length:Int) - 1:=Xd (by omega) (by omega);refine X1<|X1<|X2 ?_;refine X4<|(Xf [1,4,8] (fun(u:Nat×List St)=>[(9,.v (li ((u.1:Int) - 1)))]) (fun u=>[(4,.box [.c (.lit XP),.c (.lit XP),.c (.lit XP)]),(8,.box [.c (.sl 5 (Xv vars)),.c (.sl 6 (Xu hats)),.c (.sl 10 (X9 u.2))])]) (fun u=>pgL q u.1 u.2=res∧Xk u.2≤Xk body∧QX u.2=true∧u.1≤szL u.2∧u.1≤1000) (fun u=>u.1) (S.length,body) ⟨hres,Nat.le_refl _,hbd,by simp only;omega,by simp only;omega⟩ ?_ ?_)
   · exact X6 (fun n=>n) []
   rintro⟨k,b⟩ ⟨hJ,j1,j2,j3,j4⟩;simp only[upS,X8,Xw]
   try simp only[X8,KN,Nat.reduceBEq,if_true,if_false,ins,Nat.reduceLT]
   simp only at hJ j1 j2 j3 j4;clear hres ca hw0;obtain⟨x,hx⟩:∃x:Int,(k:Int) - 1=x:=⟨_,rfl⟩;rw[hx];refine X1<|X1<|X2 ?_;refine(X7 rfl (fun h10=>Xb ?_) (fun h10=>?_))
   · (try simp only[BN]at h10);have hx0:0≤x:=by simpa using h10
     obtain⟨i,rfl⟩:∃i:Nat,x=i:=⟨x.toNat,by omega⟩;obtain rfl:k=i+1:=by omega
     have cn:=hcn (i:Int);have hw1:IntKind.i64.wrap ((i:Int) - 1)=(i:Int) - 1:=Xd (by omega) (by omega);have cr:=crm b j1 j2 i j3;have g1:=Nat.le_trans (X2h b i) j1;have g2:=X39 b i j2;have g3:=woL_sz (l:=b) (i:=i) (by omega);simp only[pgL]at hJ;obtain⟨z,hz⟩:∃z,decide ((i:Int)∈q)=z:=⟨_,rfl⟩;rw[hz]at cn;obtain⟨b2,hb2⟩:∃x,woL b i=x:=⟨_,rfl⟩;rw[hb2]at cr g1 g2 g3 hJ;clear hx hx0 h10 hcn crm cfr hb2;refine X1<|X4<|X1<|X1<|(Xm [⟨true,.v (lb z),none⟩] ?_ ?_)
     · first|exact cn _|exact trivial|simpa[*]using cn _
     refine(Xa rfl (fun h12=>?_) fun h12=>?_)
     · (try simp only[BN]at h12);have hzt:z=true:=by simpa using h12
       rw[if_pos (of_decide_eq_true (hz.trans hzt))]at hJ;clear h12 hz cr cn;refine(Xi ?_);refine X2 ?_;exact⟨(i,b),⟨hJ,j1,j2,by simp only;omega,by simp only;omega⟩,by simp only;omega,X6 (fun n=>n) []⟩
     (try simp only[BN]at h12);have hzt:z=false:=by simpa using h12
     rw[if_neg (of_decide_eq_false (hz.trans hzt))]at hJ;clear h12 hz cn;refine X1<|(QU [⟨false,.tup [.agg [.c (.sl 5 (Xv vars)),.c (.sl 6 (Xu hats)),.c (.sl 10 (X9 b2))],li 0],none⟩] (by simp[*,XI,Qp,XX,cellsOf,Qv];first|exact⟨rfl,Iff.rfl⟩|exact⟨rfl,trivial⟩|rfl) ?_ ?_)
     · first|exact cr _|exact trivial|simpa[*,XI,Qp,XX,cellsOf,Qv]using cr _
     refine X3 ?_;refine(Xa rfl (fun h17=>?_) fun h17=>?_)
     · exact absurd h17 (by simp)
     (try simp only[BN]at h17);refine X2 ?_;exact⟨(i,b2),⟨hJ,g1,g2,g3,by simp only;omega⟩,by simp only;omega,X6 (fun n=>n) []⟩
   (try simp only[BN]at h10);have hx0:¬0≤x:=by simpa using h10
   obtain rfl:k=0:=by omega
   simp only[pgL]at hJ;subst hJ;have cf:=cfr b j1 j2;clear hx hx0 h10 hcn crm cfr;refine(Xi ?_);refine Xj [⟨false,.v (.agg [.c (.sl 5 (Xv vars)),.c (.sl 6 (Xu hats)),.c (.sl 10 (X9 b))]),none⟩] ?_ ?_
   · first|exact cf _|exact trivial|simpa[*]using cf _
   exact Xc
 simp only[if_neg hz]at ca⊢;clear hv hh hno hbd hsz hfl;obtain⟨vars,hats,body⟩:=f;simp only[aF,Fl.enc,List.map_cons,List.map_nil]at ca⊢;refine X5 Tryz.func27 ?_;simp only[Tryz.f27];refine X3 ?_;refine X1<|(QO 3 [] [⟨false,.tup [.one (.c (.lit (.pointer none))),li C],none⟩] (by simp[*];rfl) trivial (XJ 13 rfl) (by simp[*];first|exact⟨rfl,Iff.rfl⟩|exact⟨rfl,trivial⟩|rfl) ?_ ?_)
 · first|exact ca _|simpa using ca _
 refine X1<|X1<|X2 ?_;refine(Xa rfl (fun h3=>?_) fun h3=>?_)
 · (try simp only[BN]at h3);refine X3 ?_;exact Xc
 exact absurd h3 (by simp[hz])
end Go.Proofs.YtppjennamodfdaaGreat

namespace Go.Proofs.YtppjennamodfdaaGreat
open Go Go.Hl
def ofK (vars:List Vr) (kind:Int):List Vr:=vars.filter fun v=>decide (v.kind=kind)
theorem ofK_good {vars:List Vr} (h:X08 vars) (kind:Int):X08 (ofK vars kind):=fun v hv=>h v (List.mem_filter.1 hv).1
theorem ofK_len (vars:List Vr) (kind:Int):(ofK vars kind).length≤vars.length:=List.length_filter_le _ _
theorem of13_con (vars:List Vr) (kind:Int) (hl:vars.length≤1000000) (d:Nat):Con Tryz.prog 121 false [lV vars,li kind] (.v (lV (ofK vars kind))) none d:=by
 obtain⟨S,hS⟩:∃S,ofK vars kind=S:=⟨_,rfl⟩;rw[hS];unfold ofK at hS;refine X5 Tryz.func121 ?_;simp only[Tryz.f121];refine X3 ?_;refine X3 ?_;refine X1<|X1<|X2 ?_;refine X4<|(Xf [0,1] (fun(x:Nat×List Vr)=>[(5,.v (.one (.own 1005))),(6,.v (li x.1))]) (fun x=>[(1005,.row 64 5 (Xv x.2))]) (fun x=>x.1≤vars.length∧x.2=(vars.take x.1).filter fun v=>decide (v.kind=kind)) (fun x=>vars.length - x.1) (0,[]) ⟨Nat.zero_le _,by simp⟩ ?_ ?_)
 · exact X6 (fun n=>if n=1005 then 7 else n) []
 rintro⟨k,acc⟩ ⟨hk,hJ⟩;simp only[upS,X8,Xw]
 try simp only[X8,KN,Nat.reduceBEq,if_true,if_false,ins,Nat.reduceLT]
 simp only at hk hJ;replace hJ:=hJ.symm;refine X1<|X1<|X2 ?_;refine(X7 rfl (fun h5=>Xb ?_) (fun h5=>?_))
 · (try simp only[BN]at h5);have hlt:k<vars.length:=by omega
   obtain⟨v,he,hd⟩:=Xs hlt;have hw1:=XA hlt (by omega);have hk1:k+1≤vars.length:=hlt;have ht:=Zq he;generalize hT:(vars.take k).filter (fun v=>decide (v.kind=kind))=T at hJ
   have hal:acc.length≤k:=by
    rw[←hJ,←hT];exact Nat.le_trans (List.length_filter_le _ _) (by rw[List.length_take];omega)
   have hroom:Qq (acc.length+1) 48:=XB (by omega) (by omega);clear hlt h5 hS;refine X1<|X4<|X1<|X2 ?_;refine(Xa rfl (fun h7=>?_) fun h7=>?_)
   · (try simp only[BN]at h7);have hf:(vars.take (k+1)).filter (fun v=>decide (v.kind=kind))=acc++[v]:=by rw[ht,List.filter_append,hT,hJ,List.filter_cons_of_pos (by simpa using h7)];simp
     refine X2 ?_;refine X2 ?_;exact⟨(k+1,acc++[v]),⟨hk1,hf.symm⟩,by simp only;omega,X6 (fun n=>if n=1005 then 27 else n) []⟩
   (try simp only[BN]at h7);have hf:(vars.take (k+1)).filter (fun v=>decide (v.kind=kind))=acc:=by rw[ht,List.filter_append,hT,hJ,List.filter_cons_of_neg (by simpa using h7)];simp
   refine X2 ?_;exact⟨(k+1,acc),⟨hk1,hf.symm⟩,by simp only;omega,X6 (fun n=>n) []⟩
 (try simp only[BN]at h5);have hkl:k=vars.length:=by omega
 rw[hkl,List.take_length,hS]at hJ;subst hJ;clear hS;refine(Xi ?_);refine X3 ?_;exact XF ⟨.inr rfl,_,XJ 1005 rfl,⟨⟨_,by simp;rfl,by simp[XD]⟩,by simp,fun h=>by cases h⟩⟩
theorem X99 (vars:List Vr) (kind:Int) (hkd:1≤kind∧kind≤3) (hv:X08 vars) (hl:vars.length≤1000000) (hs:spc vars kind≤4096) (d:Nat):
  Con Tryz.prog 79 true [lV vars,li kind] (.tup [li (spc vars kind),li 0]) none d:=by
 have co:=of13_con vars kind hl;have hg:=ofK_good hv kind;have hn:=ofK_len vars kind;unfold spc at*;change prV (ofK vars kind) 1≤4096 at hs;change Con _ _ _ _ (.tup [li (prV (ofK vars kind) 1),li 0]) _ _;obtain⟨res,hres⟩:∃r,prV (ofK vars kind) 1=r:=⟨_,rfl⟩;rw[hres]at hs⊢;obtain⟨S,hS⟩:∃S,ofK vars kind=S:=⟨_,rfl⟩;rw[hS]at co hg hn hres;clear hS hv;refine X5 Tryz.func79 ?_;simp only[Tryz.f79];refine X3 ?_;refine X1<|X1<|X2 ?_;refine(Xa rfl (fun h2=>?_) fun h2=>?_)
 · exfalso;simp at h2;omega
 (try simp only[BN]at h2);refine Xj [⟨false,.v (lV S),none⟩] ?_ ?_
 · first|exact co _|exact trivial|simpa[*]using co _
 refine X1<|X1<|X2 ?_;refine X4<|(Xf [6] (fun(x:Nat)=>[(7,.v (li x))]) (fun x=>[]) (fun x=>x≤S.length) (fun x=>S.length - x) (0:Nat) (Nat.zero_le _) ?_ ?_)
 · exact X6 (fun n=>n) []
 rintro k hk;simp only[upS,X8,Xw]
 try simp only[X8,KN,Nat.reduceBEq,if_true,if_false,ins,Nat.reduceLT]
 clear co;refine X1<|X1<|X2 ?_;refine(X7 rfl (fun h9=>Xb ?_) (fun h9=>?_))
 · (try simp only[BN]at h9);have hlt:k<S.length:=by omega
   obtain⟨v,he,hd⟩:=Xs hlt;have hw1:=XA hlt (by omega);have hk1:k+1≤S.length:=hlt;have hb:=hg v (List.mem_of_getElem? he);clear hlt h9 hg hres;refine X1<|X4<|X1<|(Qc (by kernel_rfl) (by kernel_rfl) (by rfl) (by simp[*];rfl) ?_);refine(Xa rfl (fun h11=>?_) fun h11=>?_)
   · exfalso;simp at h11;omega
   (try simp only[BN]at h11);refine X2 ?_;exact⟨k+1,hk1,by omega,X6 (fun n=>n) []⟩
 (try simp only[BN]at h9);clear h9 hk;refine(Xi ?_);refine X3 ?_;refine X1<|X1<|X2 ?_;refine X4<|(Xf [6] (fun(x:Nat×Int)=>[(8,.v (li x.2)),(9,.v (li x.1))]) (fun x=>[]) (fun x=>x.1≤S.length∧prV (S.drop x.1) x.2=res∧1≤x.2∧x.2≤4096) (fun x=>S.length - x.1) (0,1) ⟨Nat.zero_le _,hres,by decide,by decide⟩ ?_ ?_)
 · exact X6 (fun n=>n) []
 rintro⟨k,n⟩ ⟨hk,hJ,hn1,hn2⟩;simp only[upS,X8,Xw]
 try simp only[X8,KN,Nat.reduceBEq,if_true,if_false,ins,Nat.reduceLT]
 simp only at hk hJ hn1 hn2;clear hres;refine X1<|X1<|X2 ?_;refine(X7 rfl (fun h20=>Xb ?_) (fun h20=>?_))
 · (try simp only[BN]at h20);have hlt:k<S.length:=by omega
   obtain⟨v,he,hd⟩:=Xs hlt;have hw1:=XA hlt (by omega);have hk1:k+1≤S.length:=hlt;have hmem:v∈S:=List.mem_of_getElem? he;have hsz:=sz_in hg hmem;have hm:=X7N ⟨hn1,hn2⟩ hsz;have hb:=hg v hmem;have hw2:IntKind.i64.wrap (v.high - v.low)=v.high - v.low:=Xd (by omega) (by omega);have hw3:IntKind.i64.wrap (v.high - v.low+1)=sz v:=by rw[Xd (by omega) (by omega)];rfl
   have hw4:IntKind.i64.wrap (n*sz v)=n*sz v:=Xd (by omega) (by omega);rw[hd]at hJ;simp only[prV]at hJ;clear hlt h20 hg;refine X1<|X4<|X1<|(Qc (by kernel_rfl) (by kernel_rfl) (by rfl) (by simp[*];rfl) ?_);refine X3 ?_;refine(Xa rfl (fun h23=>?_) fun h23=>?_)
   · exfalso;rw[if_pos (by simpa using h23)]at hJ;omega
   (try simp only[BN]at h23);rw[if_neg (by simpa using h23)]at hJ;refine X2 ?_;exact⟨(k+1,n*sz v),⟨hk1,hJ,hm.1,by simp only;omega⟩,by simp only;omega,X6 (fun n=>n) []⟩
 (try simp only[BN]at h20);have hkl:k=S.length:=by omega
 rw[hkl,List.drop_length]at hJ;simp only[prV]at hJ;subst hJ;refine(Xi ?_);refine X3 ?_;exact Xc
end Go.Proofs.YtppjennamodfdaaGreat

namespace Go.Proofs.YtppjennamodfdaaGreat
open Go Go.Hl
def Inp.enc (i:Inp):List CD:=[.sl 1 (Xe i.s),.sl 1 (Xe i.p),.sl 1 (Xe i.r)]
def X20 (l:List Inp):List (List CD):=l.map Inp.enc
@[simp] theorem encNms_app (a b:List Inp):X20 (a++b)=X20 a++X20 b:=by simp[X20]
@[simp] theorem encNms_len (l:List Inp):(X20 l).length=l.length:=by simp[X20]
@[simp] theorem get_encNm (l:List Inp) (i:Nat):(X20 l)[i]? =l[i]?.map Inp.enc:=by simp[X20]
abbrev lN (l:List Inp):TV:=.one (.c (.sl 3 (X20 l)))
end Go.Proofs.YtppjennamodfdaaGreat

namespace Go.Proofs.YtppjennamodfdaaGreat
open Go Go.Hl
mutual
def tL:Tm→Int→Int
 | .mk _ _ ks,left=>tLs ks (left - 1)
def tLs:List Tm→Int→Int
 |[],left=>left
 |t::l,left=>if 0≤left then tLs l (tL t left)else left
end
def lo1 (x:Int):Int:=if x<0 then x else -1
mutual
theorem X5u:∀(t:Tm) (left:Int),lo1 (left - 1)≤tL t left∧tL t left≤left - 1
 | .mk _ _ ks,left=>by
   simp only[tL];exact Xbf ks (left - 1)
theorem Xbf:∀(l:List Tm) (left:Int),lo1 left≤tLs l left∧tLs l left≤left
 | [],left=>by
   simp only[tLs,lo1];split<;>omega
 | t ::l,left=>by
   simp only[tLs];split
   · have h1:=X5u t left;have h2:=Xbf l (tL t left);unfold lo1 at*;refine⟨?_,by omega⟩;split
     · omega
     refine Int.le_trans ?_ h2.1;split<;>(try split at h1)<;>omega
   unfold lo1;split<;>omega
end
theorem tLs_neg (l:List Tm) (left:Int) (h:left<0):tLs l left=left:=by
 cases l with
 |nil=>rfl
 |cons t l=>simp only[tLs];rw[if_neg (by omega)]
mutual
theorem Xbo:∀(t:Tm) (left:Int),0≤tL t left→tL t left=left - t.nodes
 | .mk _ _ ks,left=>by
   simp only[tL,Tm.nodes];intro h;have:=Xca ks (left - 1) h;omega
theorem Xca:∀(l:List Tm) (left:Int),0≤tLs l left→tLs l left=left - Qk l
 |[],left=>by simp[tLs,Qk]
 | t::l,left=>by
   simp only[tLs,Qk];split
   · intro h;have h1:=Xca l (tL t left) h;have h2:=Xbf l (tL t left);have h3:=Xbo t left (by omega);omega
   intro h;omega
end
def sL:List St→Int→Int
 |[],left=>left
 | .mk _ _ _ _ t a b bs::l,left=>
   if 0≤left then(if tL t (left - 1)<bs.length then -1 else sL l (sL b (sL a (tL t (left - 1) - bs.length))))else left
theorem sL_neg (l:List St) (left:Int) (h:left<0):sL l left=left:=by
 cases l with
 |nil=>simp[sL]
 |cons s l=>obtain⟨d,c,v,n,t,a,b,bs⟩:=s;simp only[sL];rw[if_neg (by omega)]
theorem X3X:∀(l:List St) (left:Int),lo1 left≤sL l left∧sL l left≤left
 | [],left=>by
   simp only[sL,lo1];split<;>omega
 | .mk _ _ _ _ t a b bs::l,left=>by
   simp only[sL];by_cases h0:0≤left
   · rw[if_pos h0];have e:lo1 left=-1:=by unfold lo1;rw[if_neg (by omega)]
     rw[e];split
     · omega
     have h1:=X5u t (left - 1);have ha:=X3X a (tL t (left - 1) - bs.length);have hb:=X3X b (sL a (tL t (left - 1) - bs.length));have hl:=X3X l (sL b (sL a (tL t (left - 1) - bs.length)));refine⟨?_,by omega⟩;generalize sL l (sL b (sL a (tL t (left - 1) - bs.length)))=z at*;generalize sL b (sL a (tL t (left - 1) - bs.length))=y at*;generalize sL a (tL t (left - 1) - bs.length)=x at*;generalize tL t (left - 1)=w at*;unfold lo1 at ha hb hl
     (repeat' split at ha)<;>(repeat' split at hb)<;>(repeat' split at hl)<;>omega
   rw[if_neg h0];unfold lo1;split<;>omega
theorem X8o:∀(l:List St) (left:Int),left≤1000000→0≤sL l left→sL l left≤left - Xk l∧QX l=true
 |[],left,_,_=>by simp[sL,Xk,QX]
 | .mk _ _ _ _ t a b bs::l,left,hle,h=>by
   simp only[sL]at h⊢;by_cases h0:0≤left
   · rw[if_pos h0]at h⊢;split at h
     · omega
     rename_i hbs;rw[if_neg hbs];have i0:=X5u t (left - 1);have ia:=X3X a (tL t (left - 1) - bs.length);have ib:=X3X b (sL a (tL t (left - 1) - bs.length));have il:=X3X l (sL b (sL a (tL t (left - 1) - bs.length)));have p3:=X8o l (sL b (sL a (tL t (left - 1) - bs.length))) (by omega) h;have p2:=X8o b (sL a (tL t (left - 1) - bs.length)) (by omega) (by omega);have p1:=X8o a (tL t (left - 1) - bs.length) (by omega) (by omega);have p0:=Xbo t (left - 1) (by omega);simp only[Xk,St.nodes,QX,X0o,p1.2,p2.2,p3.2,Bool.and_true,decide_eq_true_eq];omega
   rw[if_neg h0]at h;omega
def hL:List Ht→Int→Int
 |[],m=>m
 |h::l,m=>hL l (tL h.term m)
theorem hL_le:∀(l:List Ht) (m:Int),hL l m≤m
 |[],m=>by simp[hL]
 | h::l,m=>by
   have h1:=hL_le l (tL h.term m);have h2:=X5u h.term m;simp only[hL];omega
theorem hL_pos:∀(l:List Ht) (m:Int),0≤hL l m→hL l m=m - Qw l
 |[],m,_=>by simp[hL,Qw]
 | h::l,m,h0=>by
   simp only[hL,Qw]at h0⊢;have h1:=hL_pos l _ h0;have h2:=hL_le l (tL h.term m);have h3:=Xbo h.term m (by omega);omega
def X1w (f:Fl) (vars nodes:Int):Bool:=if vars<f.vars.length∨vars<f.hats.length then false else decide (0≤hL f.hats (sL f.body nodes))
theorem X89 {f:Fl} {vars nodes:Int} (hn:nodes≤1000000) (h:X1w f vars nodes=true):f.vars.length≤vars∧f.hats.length≤vars∧Xk f.body+Qw f.hats≤nodes∧QX f.body=true:=by
 unfold X1w at h;split at h
 · cases h
 rename_i h1;simp only[decide_eq_true_eq]at h;have e1:=hL_pos _ _ h;have e2:=hL_le f.hats (sL f.body nodes);have e3:=X8o f.body nodes hn (by omega);exact⟨by omega,by omega,by omega,e3.2⟩
theorem X76 (t:Tm):∀left:Int,-1000000≤left→left≤1000000→∀d:Nat,Con Tryz.prog 78 true [aT t,li left] (.v (li (tL t left))) none d:=by
 induction t using Tm.ind with
 |h o n ks ih=>
 intro left h1 h2 d;obtain⟨res,hres⟩:∃r,tL (.mk o n ks) left=r:=⟨_,rfl⟩;rw[hres];simp only[tL]at hres;have hw0:IntKind.i64.wrap (left - 1)=left - 1:=Xd (by omega) (by omega);refine X5 Tryz.func78 ?_;simp only[Tryz.f78];simp only[aT,Tm.enc];refine X3 ?_;refine X3 ?_;refine X1<|X1<|X2 ?_;refine X4<|(Xf [2] (fun(x:Nat×Int)=>[(1,.v (li x.2)),(5,.v (li x.1))]) (fun x=>[(2,.box [.c (iC o),.c (iC n),.c (.sl 3 (Xo ks))])]) (fun x=>x.1≤ks.length∧tLs (ks.drop x.1) x.2=res∧-1000001≤x.2∧x.2+x.1≤1000000) (fun x=>ks.length - x.1) (0,left - 1) ⟨Nat.zero_le _,by simpa using hres,by simp only;omega,by simp only;omega⟩ ?_ ?_)
 · exact X6 (fun n=>n) []
 rintro⟨k,m⟩ ⟨hk,hJ,hm,hm2⟩;simp only[upS,X8,Xw]
 try simp only[X8,KN,Nat.reduceBEq,if_true,if_false,ins,Nat.reduceLT]
 simp only at hk hJ hm hm2;refine X1<|X1<|X2 ?_;refine(X7 rfl (fun h5=>Xb ?_) (fun h5=>?_))
 · (try simp only[BN]at h5);have hlt:k<ks.length:=by omega
   have hm0:0≤m:=by omega
   obtain⟨⟨eo,en,ek⟩,he,hd⟩:=Xs hlt;have he':=Wd he;simp only[Tm.enc]at he';have hw1:IntKind.i64.wrap ((k:Int)+1)=(k:Int)+1:=Xd (by omega) (by omega);rw[hd]at hJ;simp only[tLs]at hJ;rw[if_pos hm0]at hJ;have hk1:k+1≤ks.length:=hlt;have c:=ih _ (List.mem_of_getElem? he) m (by omega) (by omega);have hti:=X5u (.mk eo en ek) m;have hlo:-1≤lo1 (m - 1):=by unfold lo1;split<;>omega
   obtain⟨M,hM⟩:∃x,tL (.mk eo en ek) m=x:=⟨_,rfl⟩;rw[hM]at c hJ hti;clear hlt h5 hM ih hd;refine X1<|X4<|(Xm [⟨true,.v (li M),none⟩] ?_ ?_)
   · first|exact c _|exact trivial|simpa[*]using c _
   refine X2 ?_;exact⟨(k+1,M),⟨hk1,hJ,by simp only;omega,by simp only;omega⟩,by simp only;omega,X6 (fun n=>n) []⟩
 try simp only[BN]at h5
 have hz:tLs (ks.drop k) m=m:=by
  by_cases hm0:m<0
  · exact tLs_neg _ _ hm0
  have hkl:k=ks.length:=by omega
  rw[hkl,List.drop_length];rfl
 rw[hz]at hJ;subst hJ;refine(Xi ?_);refine X3 ?_;exact Xc
theorem Xcj (l:List St):∀left:Int,-1000000≤left→left≤1000000→∀d:Nat,Con Tryz.prog 77 true [lS l,li left] (.v (li (sL l left))) none d:=by
 revert l
 apply St.lists;intro l ih left h1 h2 d;obtain⟨res,hres⟩:∃r,sL l left=r:=⟨_,rfl⟩;rw[hres];refine X5 Tryz.func77 ?_;simp only[Tryz.f77];refine X3 ?_;refine X1<|X1<|X2 ?_;refine X4<|(Xf [0] (fun(x:Nat×Int)=>[(1,.v (li x.2)),(5,.v (li x.1))]) (fun x=>[]) (fun x=>x.1≤l.length∧sL (l.drop x.1) x.2=res∧-1000001≤x.2∧x.2+x.1≤1000000) (fun x=>l.length - x.1) (0,left) ⟨Nat.zero_le _,hres,by simp only;omega,by simp only;omega⟩ ?_ ?_)
 · exact X6 (fun n=>n) []
 rintro⟨k,m⟩ ⟨hk,hJ,hm,hm2⟩;simp only[upS,X8,Xw]
 try simp only[X8,KN,Nat.reduceBEq,if_true,if_false,ins,Nat.reduceLT]
 simp only at hk hJ hm hm2;clear hres;refine X1<|X1<|X2 ?_;refine(X7 rfl (fun h4=>Xb ?_) (fun h4=>?_))
 · (try simp only[BN]at h4);have hlt:k<l.length:=by omega
   have hm0:0≤m:=by omega
   obtain⟨s,he,hd⟩:=Xs hlt;have hmem:s∈l:=List.mem_of_getElem? he;have iha:=(ih s hmem).1;have ihb:=(ih s hmem).2;have hw1:IntKind.i64.wrap ((k:Int)+1)=(k:Int)+1:=Xd (by omega) (by omega);have hk1:k+1≤l.length:=hlt;have he':=Q1 he;obtain⟨sd,sc,sv,sn,⟨so,stn,sks⟩,sa,sb,sbs⟩:=s;simp only[St.then_,St.else_]at iha ihb;simp only[St.enc,Tm.enc,List.cons_append,List.nil_append]at he';rw[hd]at hJ;simp only[sL]at hJ;rw[if_pos hm0]at hJ;have hw2:IntKind.i64.wrap (m - 1)=m - 1:=Xd (by omega) (by omega);have c:=X76 (.mk so stn sks) (m - 1) (by omega) (by omega);have hti:=X5u (.mk so stn sks) (m - 1);have hlo:-2≤lo1 (m - 1 - 1):=by unfold lo1;split<;>omega
   obtain⟨M,hM⟩:∃x,tL (.mk so stn sks) (m - 1)=x:=⟨_,rfl⟩;rw[hM]at c hJ hti;simp only[aT,Tm.enc,List.map_cons,List.map_nil]at c;clear hlt h4 hM ih hd hmem;refine X1<|X4<|X1<|(Xm [⟨true,.v (li M),none⟩] ?_ ?_)
   · first|exact c _|exact trivial|simpa[*]using c _
   refine X1<|X1<|X2 ?_;refine(Xa rfl (fun h7=>?_) fun h7=>?_)
   · (try simp only[BN]at h7);rw[if_pos h7]at hJ;subst hJ;refine X3 ?_;exact Xc
   (try simp only[BN]at h7);rw[if_neg (by omega)]at hJ;have hw3:IntKind.i64.wrap (M - (sbs.length:Int))=M - (sbs.length:Int):=Xd (by omega) (by omega);have c1:=iha (M - sbs.length) (by omega) (by omega);have s1:=X3X sa (M - sbs.length);have hl1:-1≤lo1 (M - sbs.length):=by unfold lo1;split<;>omega
   obtain⟨M1,hM1⟩:∃x,sL sa (M - sbs.length)=x:=⟨_,rfl⟩;rw[hM1]at c1 s1 hJ;have c2:=ihb M1 (by omega) (by omega);have s2:=X3X sb M1;have hl2:-1≤lo1 M1:=by unfold lo1;split<;>omega
   obtain⟨M2,hM2⟩:∃x,sL sb M1=x:=⟨_,rfl⟩;rw[hM2]at c2 s2 hJ;clear iha ihb hM1 hM2 h7 c;refine(XS [⟨true,.v (li M1),none⟩,⟨true,.v (li M2),none⟩] (by kernel_rfl) (by kernel_rfl) (by rfl) (by simp[*];first|exact⟨rfl,Iff.rfl⟩|exact⟨rfl,trivial⟩|rfl) ?_ ?_)
   · first|exact⟨c1 _,c2 _⟩|exact trivial|(repeat' first|exact trivial|exact c1 _|exact c2 _|apply And.intro)
   refine X2 ?_;exact⟨(k+1,M2),⟨hk1,hJ,by simp only;omega,by simp only;omega⟩,by simp only;omega,X6 (fun n=>n) []⟩
 try simp only[BN]at h4
 have hz:sL (l.drop k) m=m:=by
  by_cases hm0:m<0
  · exact sL_neg _ _ hm0
  have hkl:k=l.length:=by omega
  rw[hkl,List.drop_length];simp[sL]
 rw[hz]at hJ;subst hJ;refine(Xi ?_);refine X3 ?_;exact Xc
theorem XbQ (f:Fl) (vars nodes:Int) (hv:0≤vars∧vars≤1000) (hn:0≤nodes∧nodes≤1000) (d:Nat):Con Tryz.prog 41 true [aF f,li vars,li nodes] (.v (lb (X1w f vars nodes))) none d:=by
 obtain⟨vs,hats,body⟩:=f;obtain⟨res,hres⟩:∃r,X1w ⟨vs,hats,body⟩ vars nodes=r:=⟨_,rfl⟩;rw[hres];unfold X1w at hres;simp only at hres;have cs:=Xcj body nodes (by omega) (by omega);have hsi:=X3X body nodes;have hlo:-2≤lo1 nodes:=by unfold lo1;split<;>omega
 obtain⟨S,hS⟩:∃x,sL body nodes=x:=⟨_,rfl⟩;rw[hS]at hres cs hsi;clear hS;refine X5 Tryz.func41 ?_;simp only[Tryz.f41];simp only[aF,Fl.enc,List.map_cons,List.map_nil];refine X3 ?_;refine X1<|X1<|X2 ?_;refine(Xa rfl (fun h2=>?_) fun h2=>?_)
 · (try simp only[BN]at h2);rw[if_pos (by omega)]at hres;subst hres;refine X3 ?_;exact Xc
 (try simp only[BN]at h2);rw[if_neg (by omega)]at hres;obtain⟨E,hE⟩:∃x,hL hats S=x:=⟨_,rfl⟩;rw[hE]at hres;refine Xj [⟨true,.v (li S),none⟩] ?_ ?_
 · first|exact cs _|exact trivial|simpa[*]using cs _
 refine X1<|X1<|X2 ?_;refine X4<|(Xf [27,28] (fun(x:Nat×Int)=>[(7,.v (li x.2)),(29,.v (li x.1))]) (fun x=>[]) (fun x=>x.1≤hats.length∧hL (hats.drop x.1) x.2=E∧-2 - (x.1:Int)≤x.2∧x.2≤1000) (fun x=>hats.length - x.1) (0,S) ⟨Nat.zero_le _,hE,by simp only;omega,by simp only;omega⟩ ?_ ?_)
 · exact X6 (fun n=>n) []
 rintro⟨k,m⟩ ⟨hk,hJ,hm,hm2⟩;simp only[upS,X8,Xw]
 try simp only[X8,KN,Nat.reduceBEq,if_true,if_false,ins,Nat.reduceLT]
 simp only at hk hJ hm hm2;clear hE;refine X3 ?_;refine X1<|(X7 rfl (fun h9=>Xb ?_) (fun h9=>?_))
 · (try simp only[BN]at h9);have hlt:k<hats.length:=by omega
   obtain⟨h,he,hd⟩:=Xs hlt;have hw1:IntKind.i64.wrap ((k:Int)+1)=(k:Int)+1:=Xd (by omega) (by omega);have hk1:k+1≤hats.length:=hlt;have c:=X76 h.term m (by omega) (by omega);have hti:=X5u h.term m;have hl1:-3 - (k:Int)≤lo1 (m - 1):=by unfold lo1;split<;>omega
   rw[hd]at hJ;simp only[hL]at hJ;obtain⟨nm,lo,hi,⟨o,tn,ks⟩⟩:=h;simp only at c hti hJ;obtain⟨M,hM⟩:∃x,tL (.mk o tn ks) m=x:=⟨_,rfl⟩;rw[hM]at c hJ hti;simp only[aT,Tm.enc,List.map_cons,List.map_nil]at c;clear hlt h9 hM hd;refine X1<|X4<|X1<|X2 ?_;refine(Xm [⟨true,.v (li M),none⟩] ?_ ?_)
   · first|exact c _|exact trivial|simpa[*]using c _
   refine X2 ?_;exact⟨(k+1,M),⟨hk1,hJ,by simp only;omega,by simp only;omega⟩,by simp only;omega,X6 (fun n=>n) []⟩
 (try simp only[BN]at h9);have hkl:k=hats.length:=by omega
 rw[hkl,List.drop_length]at hJ;simp only[hL]at hJ;subst hJ;subst hres;refine(Xi ?_);refine X3 ?_;exact Xc
end Go.Proofs.YtppjennamodfdaaGreat
