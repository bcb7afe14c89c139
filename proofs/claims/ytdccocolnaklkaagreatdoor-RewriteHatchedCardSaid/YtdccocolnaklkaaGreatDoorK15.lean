/- Contracts of functions and plain facts about what they compute. Conditions: as each theorem states. -/
import Derived.Test.YtdccocolnaklkaaGreatDoorK6
import Derived.Test.YtdccocolnaklkaaGreatDoorK14
import Derived.Test.YtdccocolnaklkaaGreatDoorK11
import Derived.Test.YtdccocolnaklkaaGreatDoorK9
set_option linter.unusedSimpArgs false
set_option linter.unusedVariables false
set_option linter.unnecessarySimpa false
set_option maxRecDepth 100000
set_option maxHeartbeats 2000000
namespace Go.Proofs.YtdccocolnaklkaaGreatDoor
open Go Go.Hl
mutual
def szS:St->Nat
 | .mk _ _ _ _ _ a b _=>1+szL a+szL b
def szL:List St->Nat
 |[]=>0
 |s::l=>szS s+szL l
end
mutual
theorem szS_le:∀s:St,szS s<=s.nodes
 | .mk _ _ _ _ t a b _=>by have:=X0z a;have:=X0z b;simp only[szS,St.nodes];omega
theorem X0z:∀l:List St,szL l<=Xe l
 |[]=>by simp[szL]
 |s::l=>by have:=szS_le s;have:=X0z l;simp only[szL,Xe];omega
end
theorem szS_pos (s:St):1<=szS s:=by cases s;simp only[szS];omega
theorem X9Y:∀l:List St,l.length<=szL l
 |[]=>by simp
 |s::l=>by have:=X9Y l;have:=szS_pos s;simp only[szL,List.length_cons];omega
theorem Xat (l:List St):Xe l<=1000000000->∀d:Nat,Con Tryz.prog 83 true [lS l] (.v (li (szL l))) none d:=by
 revert l
 apply St.lists;intro l ih hn d;have hlen:=XB l;have hsl:=X0z l;obtain⟨res,hres⟩:∃r,szL l=r:=⟨_,rfl⟩;rw[hres]at hsl⊢;refine X2 Tryz.func83 ?_;simp only[Tryz.f83];refine X4 ?_;refine X4 ?_;refine X0<|X0<|X1 ?_;refine X3<|(Xb [8,9] (fun(x:Nat×Nat)=>[(3,.v (li ((x.2:Nat):Int))),(10,.v (li x.1))]) (fun(x:Nat×Nat)=>[]) (fun(x:Nat×Nat)=>x.1<=l.length/\x.2+szL (l.drop x.1)=res+(l.drop x.1).length) (fun(x:Nat×Nat)=>l.length - x.1) (0,l.length) ⟨Nc _,by simp only[List.drop_zero,hres];omega⟩ ?_);rintro⟨k,m⟩ ⟨hk,hJ⟩;simp only[LN,Nat.reduceBEq,Nat.reduceLT];simp only at hk hJ;refine(XS (fun h5=>X6 ?_) fun h5=>?_)
 .have hlt:k<l.length:=by omega
  obtain⟨s,he,hd⟩:=Xw hlt;have hmem:s∈l:=N3 he;have hnm:=Q2 hmem;have iha:=fun h=>(ih s hmem).1 h;have ihb:=fun h=>(ih s hmem).2 h;have hw1:=Xz hlt (by omega);have hk1:k+1<=l.length:=hlt;rw[hd]at hJ;have hrl:=X9Y (l.drop (k+1));obtain⟨sd,sc,sv,sn,⟨so,stn,sks⟩,sa,sb,sbs⟩:=s;simp only[St.then_,St.else_,St.term]at iha ihb hnm;simp only[szL,szS,List.length_cons]at hJ;have ca:=iha (by omega);have cb:=ihb (by omega);have hla:=X0z sa;have hlb:=X0z sb;have he':=Q7 he;simp only[St.enc,Tm.enc,List.cons_append,List.nil_append]at he';generalize szL sa=na at*;generalize szL sb=nb at*;have hw2:IntKind.i64.wrap ((na:Int)+(nb:Int))=(na:Int)+(nb:Int):=X5;have hw3:IntKind.i64.wrap ((m:Int)+((na:Int)+(nb:Int)))=(m:Int)+((na:Int)+(nb:Int)):=X5;clear hlt h5 ih hmem iha ihb;refine X0<|X3<|X0<|X1 ?_;refine(Xx [⟨true,.v (li (na:Int)),none⟩,⟨true,.v (li (nb:Int)),none⟩] (by kernel_rfl) (by kernel_rfl) (by rfl) (by simp[*];first|exact⟨rfl,Iff.rfl⟩|exact⟨rfl,trivial⟩|rfl) ?_ ?_)
  .first|exact⟨ca _,cb _⟩|exact trivial|(repeat' first|exact trivial|exact ca _|exact cb _|apply And.intro)
  refine X1 ?_;exact Xj ((k+1,m+(na+nb))) (⟨hk1,by simp only;omega⟩) (hm:=by simp only;omega)
 have hkl:k=l.length:=by omega
 rw[hkl,Nj]at hJ;simp only[szL,List.length_nil]at hJ;have hm:m=res:=by omega
 refine(Xd ?_);exact X7
theorem Xar (f:Fl) (hn:Xe f.body<=1000000000) (d:Nat):Con Tryz.prog 50 true [aF f] (.v (li (szL f.body))) none d:=by
 have cs:=Xat f.body hn;obtain⟨vars,hats,body⟩:=f;simp only at cs⊢;obtain⟨n,hn⟩:∃x,szL body=x:=⟨_,rfl⟩;rw[hn]at cs⊢;clear hn;refine X2 Tryz.func50 ?_;simp only[Tryz.f50];simp only[aF,Fl.enc,Na,Nb];refine X4 ?_;refine X0<|(Xa cs ?_);exact Qd
theorem XaQ (l:List St):Xe l<=1000000000->∀d:Nat,Con Tryz.prog 18 true [lS l] (.v (li (szL l))) none d:=by
 revert l
 apply St.lists;intro l ih hn d;have hlen:=XB l;have hsl:=X0z l;obtain⟨res,hres⟩:∃r,szL l=r:=⟨_,rfl⟩;rw[hres]at hsl⊢;refine X2 Tryz.func18 ?_;simp only[Tryz.f18];refine X4 ?_;refine X4 ?_;refine X0<|X0<|X1 ?_;refine X3<|(Xb [0] (fun(x:Nat×Nat)=>[(3,.v (li ((x.2:Nat):Int))),(4,.v (li x.1))]) (fun(x:Nat×Nat)=>[]) (fun(x:Nat×Nat)=>x.1<=l.length/\x.2+szL (l.drop x.1)=res) (fun(x:Nat×Nat)=>l.length - x.1) (0,0) ⟨Nc _,by simp[hres]⟩ ?_);rintro⟨k,m⟩ ⟨hk,hJ⟩;simp only[LN,Nat.reduceBEq,Nat.reduceLT];simp only at hk hJ;refine X0<|(Xc (fun h5=>X6 ?_) fun h5=>?_)
 .have hlt:k<l.length:=by omega
  obtain⟨s,he,hd⟩:=Xw hlt;have hmem:s∈l:=N3 he;have hnm:=Q2 hmem;have iha:=fun h=>(ih s hmem).1 h;have ihb:=fun h=>(ih s hmem).2 h;have hw1:=Xz hlt (by omega);have hk1:k+1<=l.length:=hlt;rw[hd]at hJ;obtain⟨sd,sc,sv,sn,⟨so,stn,sks⟩,sa,sb,sbs⟩:=s;simp only[St.then_,St.else_,St.term]at iha ihb hnm;simp only[szL,szS]at hJ;have ca:=iha (by omega);have cb:=ihb (by omega);have he':=Q7 he;simp only[St.enc,Tm.enc,List.cons_append,List.nil_append]at he';generalize szL sa=na at*;generalize szL sb=nb at*;have hw2:IntKind.i64.wrap ((m:Int)+1)=(m:Int)+1:=X5;have hw3:IntKind.i64.wrap ((m:Int)+1+(na:Int))=(m:Int)+1+(na:Int):=X5;have hw4:IntKind.i64.wrap ((m:Int)+1+(na:Int)+(nb:Int))=(m:Int)+1+(na:Int)+(nb:Int):=X5;clear hlt h5 ih hmem iha ihb;refine X0<|X3<|(Xx [⟨true,.v (li (na:Int)),none⟩,⟨true,.v (li (nb:Int)),none⟩] (by kernel_rfl) (by kernel_rfl) (by rfl) (by simp[*];first|exact⟨rfl,Iff.rfl⟩|exact⟨rfl,trivial⟩|rfl) ?_ ?_)
  .first|exact⟨ca _,cb _⟩|exact trivial|(repeat' first|exact trivial|exact ca _|exact cb _|apply And.intro)
  refine X1 ?_;exact Xj ((k+1,m+1+na+nb)) (⟨hk1,by simp only;omega⟩) (hm:=by simp only;omega)
 have hkl:k=l.length:=by omega
 rw[hkl,Nj]at hJ;simp only[szL]at hJ;have hm:m=res:=by omega
 refine(Xd ?_);exact X7
def X0c:ByteArray:=⟨#[111,112,101,110,95]⟩
def decO (s:ByteArray):Nat:=(s.data.toList.drop 5).foldl (fun a c=>a*10+(c.toNat - 48)) 0
theorem X4O:∀k:Nat,k<100->catB X0c (X2e k)=true/\decO (X0c++X2e k)=k:=by decide+kernel
def takO (k:Nat) (h:Ht):Bool:=decide (h.name=X0c++X2e k)
def X0x (hs:List Ht) (k:Nat):Bool:=hs.any (takO k)
theorem XaF (hs:List Ht) (hl:hs.length<100):∃k,k<=hs.length/\X0x hs k=false/\∀j,j<k->X0x hs j=true:=by
 by_cases h:∃n,n<=hs.length/\X0x hs n=false
 .obtain⟨n,hn,ht⟩:=h;obtain⟨k,hk,h1⟩:=least_of n ht;exact⟨k,by omega,h1⟩
 exfalso
 have:=pig hs.length (hs.map fun v=>decO v.name) fun k hk=>by
  have ht:X0x hs k=true:=by
   cases hb:X0x hs k
   .exact absurd ⟨k,hk,hb⟩ h
   rfl
  unfold X0x at ht;rw[List.any_eq_true]at ht;obtain⟨v,hv,hvk⟩:=ht;unfold takO at hvk;rw[N7]at hvk;refine NN.2 ⟨v,hv,?_⟩;rw[hvk,(X4O k (by omega)).2]
 simp at this
noncomputable def frK (hs:List Ht):Nat:=@dite Nat (∃k,X0x hs k=false/\∀j,j<k->X0x hs j=true) (Classical.propDecidable _) (fun h=>h.choose) fun _=>0
theorem X14 {hs:List Ht} (hl:hs.length<100):frK hs<=hs.length/\X0x hs (frK hs)=false/\∀j,j<frK hs->X0x hs j=true:=by
 obtain⟨k,h1,h2,h3⟩:=XaF hs hl;have h:∃k,X0x hs k=false/\∀j,j<k->X0x hs j=true:=⟨k,h2,h3⟩;unfold frK;rw[dif_pos h];refine⟨?_,h.choose_spec⟩;rcases Nat.lt_or_ge k h.choose with hlt|hge
 .have:=h.choose_spec.2 k hlt;rw[h2]at this;cases this
 omega
noncomputable def nmH (hs:List Ht):ByteArray:=X0c++X2e (frK hs)
theorem takO_con (v:Ht) (k:Nat) (hk:k<100) (d:Nat):Con Tryz.prog 54 true [aH v,.one (.c (.ptr [iC k]))] (.v (lb (takO k v))) none d:=by
 have c1:=X7E X0c k hk (X4O k hk).1;unfold takO;obtain⟨R,hR⟩:∃x,X0c++X2e k=x:=⟨_,rfl⟩;rw[hR]at c1⊢;simp only[sC,X0c]at c1;obtain⟨nm,lo,hi,⟨o,n,ks⟩⟩:=v;clear hR;refine X2 Tryz.func54 ?_;simp only[Tryz.f54];simp only[aH,Ht.enc,Tm.enc,List.cons_append,List.nil_append,Na,Nb];refine X4 ?_;refine X0<|(Xx [⟨true,.v (.one (.c (.lit (.string R)))),none⟩] (by kernel_rfl) (by kernel_rfl) (by rfl) (by simp[*];first|exact⟨rfl,Iff.rfl⟩|exact⟨rfl,trivial⟩|rfl) ?_ ?_)
 .first|exact c1 _|exact trivial|simpa[*]using c1 _
 exact Qd
theorem takH_con (f:Fl) (k:Nat) (hk:k<100) (hl:f.hats.length<=1000000000) (d:Nat):Con Tryz.prog 52 true [li k,.one (.c (.ptr f.enc))] (.v (lb (X0x f.hats k))) none d:=by
 have cc:=X46 f.hats 54 [CD.ptr [iC k]] (takO k) hl (fun v _ d=>takO_con v k hk d);unfold X0x;obtain⟨B,hB⟩:∃b,f.hats.any (takO k)=b:=⟨_,rfl⟩;rw[hB]at cc⊢;obtain⟨vars,hats,body⟩:=f;clear hB hl;refine X2 Tryz.func52 ?_;simp only[Tryz.f52];simp only[Fl.enc]at cc⊢;refine X4 ?_;refine X0<|(Xa cc ?_);exact Qd
theorem X8K (f:Fl) (hl:f.hats.length<90) (d:Nat):Con Tryz.prog 28 true [.one (.c (.fn 52 [.ptr f.enc]))] (.v (li (frK f.hats))) none d:=by
 obtain⟨h1,h2,h3⟩:=X14 (hs:=f.hats) (by omega);exact Xae 52 [.ptr f.enc] (X0x f.hats) (frK f.hats) (by omega) h2 h3 (fun k hk d=>takH_con f k (by omega) (by omega) d) d
theorem X7D (l:List St) (hn:Xe l<=1000000) (hbn:Qm l=true) (d:Nat) (hd:d<1000000):Con Tryz.prog 73 false [lS l] (.v (.one (.own d))) (some (.row 63 10 (Xf l))) d:=by
 have hlen:=XB l;refine X2 Tryz.func73 ?_;simp only[Tryz.f73];refine X4 ?_;refine X4 ?_;refine X0<|X0<|X1 ?_;refine X3<|(Xb [6,7] (fun(x:Nat)=>[(3,.v (.one (.own 1003))),(8,.v (li x))]) (fun(x:Nat)=>[(1003,.row 63 10 (Xf (l.take x)))]) (fun(x:Nat)=>x<=l.length) (fun(x:Nat)=>l.length - x) (0:Nat) (Nc _) ?_);rintro k hk;simp only[LN,Nat.reduceBEq,Nat.reduceLT];refine(XS (fun h5=>X6 ?_) fun h5=>?_)
 .have hlt:k<l.length:=by omega
  obtain⟨s,he,hd⟩:=Xw hlt;have hw1:=Xz hlt (by omega);have hk1:k+1<=l.length:=hlt;have hmem:s∈l:=N3 he;have hnm:=Q2 hmem;have hbm:=X13 hbn hmem;have ca:=X3l s.then_ (by omega);have cb:=X3l s.else_ (by omega);have ct:=X0p s.term (by omega);have cc:=X4e s.bounds;have htl:(l.take k).length=k:=by rw[Ns];omega
  have hroom:QF (k+1) 144:=XO (by omega) (by omega)
  have hsn:Xf (l.take (k+1))=Xf (l.take k)++[s.enc]:=by
   rw[QZ,QZ,List.take_add_one,he,Option.toList_some,Ds];rfl
  have he':=Q7 he;obtain⟨sd,sc,sv,sn,⟨so,stn,sks⟩,sa,sb,sbs⟩:=s;simp only[St.then_,St.else_,St.term,St.bounds]at ca cb ct cc;simp only[X01,N4,N7]at hbm;have ca:=ca hbm.2.1;have cb:=cb hbm.2.2;have cc:=cc hbm.1;simp only[St.enc,Tm.enc,List.cons_append,List.nil_append]at he' hsn;simp only[aT,Tm.enc,Na,Nb]at ct;clear hlt h5 hmem hnm he hd hbm;refine X0<|X3<|X0<|X1 ?_;refine X0<|(Xa ct ?_);refine X0<|(Xx [⟨false,.v (lS sa),none⟩,⟨false,.v (lS sb),none⟩] (by kernel_rfl) (by kernel_rfl) (by rfl) (by simp[*];first|exact⟨rfl,Iff.rfl⟩|exact⟨rfl,trivial⟩|rfl) ?_ ?_)
  .first|exact⟨ca _,cb _⟩|exact trivial|(repeat' first|exact trivial|exact ca _|exact cb _|apply And.intro)
  refine X0<|(Xa cc ?_);refine X1 ?_;refine X1 ?_;exact Xj (k+1) (hk1)
 have hkl:k=l.length:=by omega
 subst hkl;simp only[List.take_length];refine(Xd ?_);refine X4 ?_;exact Xn ⟨.inr rfl,_,ZP 2 1003 d rfl rfl hd,⟨⟨_,by simp;rfl,by simp[Xl]⟩,by simp,fun h=>by cases h⟩⟩
theorem X5e (f:Fl) (hv:f.vars.length<=1000000) (hh:f.hats.length<=1000000) (ht:∀h∈f.hats,h.term.nodes<=1000000) (hb:Xe f.body<=1000000) (hbn:Qm f.body=true):
  X2U Tryz.prog 27 [] [aF f] (.v (.agg [.c (.sl 5 (Xr f.vars)),.own 900001,.own 900002])) [(900001,.row 94 6 (Xu f.hats)),(900002,.row 63 10 (Xf f.body))]:=by
 obtain⟨vars,hats,body⟩:=f;simp only at hv hh ht hb hbn⊢;have cv:=X7L vars hv;have chh:=X1U hats hh;have cb:=X7D body hb hbn;refine X3y Tryz.func27 rfl (by kernel_rfl) (Da rfl) (pin_mk rfl) ?_;simp only[Tryz.f27];simp only[aF,Fl.enc,Na,Nb];refine X4 ?_;refine ZY [⟨false,.v (.one (.own 6)),some (.row 60 5 (Xr vars))⟩] ?_ ?_
 .first|exact cv 6 (by decide)|exact trivial|simpa[*]using cv 6 (by decide)
 refine ZY [⟨false,.v (.one (.own 10)),some (.row 94 6 (Xu hats))⟩] ?_ ?_
 .first|exact chh 10 (by decide)|exact trivial|simpa[*]using chh 10 (by decide)
 refine X0<|X0<|X1 ?_;refine X3<|(Xb [1,2,14] (fun(x:Nat)=>[(15,.v (li x))]) (fun(x:Nat)=>[(1,.box [.own 6,.own 10,.c (.sl 10 (Xf body))]),(2,.box [.c (.lit XR),.c (.lit XR),.c (.lit XR)]),(6,.row 60 5 (Xr vars)),(10,.row 94 6 (Xu hats))]) (fun(x:Nat)=>x<=hats.length) (fun(x:Nat)=>hats.length - x) (0:Nat) (Nc _) ?_);rintro k hk;simp only[LN,Nat.reduceBEq,Nat.reduceLT];refine(XS (fun h6=>X6 ?_) fun h6=>?_)
 .have hlt:k<hats.length:=by omega
  obtain⟨h,he,hd⟩:=Xw hlt;have hw1:=Xz hlt (by omega);have hk1:k+1<=hats.length:=hlt;have hmem:h∈hats:=N3 he;have ct:=X0p h.term (ht h hmem);have hse:=X7v (l:=Xu hats) (k:=k) (x:=h.enc) (by simp[he]);obtain⟨hn,hlo,hhi,⟨ho,htn,hks⟩⟩:=h;simp only[aT,Tm.enc,Na,Nb]at ct;simp only[Ht.enc,Tm.enc,List.cons_append,List.nil_append]at hse;clear hlt h6 hmem hd;refine X0<|X3<|X0<|X1 ?_;refine(Xx [⟨false,.v (aT (.mk ho htn hks)),none⟩] (by kernel_rfl) (by kernel_rfl) (by rfl) (by simp[*];first|exact⟨rfl,Iff.rfl⟩|exact⟨rfl,trivial⟩|rfl) ?_ ?_)
  .first|exact ct _|exact trivial|simpa[*]using ct _
  refine X1 ?_;exact Xj (k+1) (hk1)
 refine(Xd ?_);refine ZY [⟨false,.v (.one (.own 33)),some (.row 63 10 (Xf body))⟩] ?_ ?_
 .first|exact cb 33 (by decide)|exact trivial|simpa[*]using cb 33 (by decide)
 refine X4 ?_;exact Xn ⟨.inr rfl,HT_endL (s2:=⟨⟨36,none⟩,[(2,.v (.one (.at_ 2 0)))],[(2,.box [.c (.sl 5 (Xr vars)),.own 900001,.own 900002]),(900001,.row 94 6 (Xu hats)),(900002,.row 63 10 (Xf body))]⟩) (le_trans (XL 6 rfl) (QJ (fun n=>if n=900001 then 10 else if n=900002 then 33 else n) [] rfl (by simp) (by simp) (by simp))) (by simp;rfl) (by simp[Xl]) (by simp)⟩
end Go.Proofs.YtdccocolnaklkaaGreatDoor
