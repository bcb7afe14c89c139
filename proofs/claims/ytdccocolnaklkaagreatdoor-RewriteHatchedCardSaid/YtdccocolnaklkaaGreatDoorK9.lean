/- Contracts of functions and plain facts about what they compute. Conditions: as each theorem states. -/
import Derived.Test.YtdccocolnaklkaaGreatDoorK6
set_option linter.unusedSimpArgs false
set_option linter.unusedVariables false
set_option linter.unnecessarySimpa false
set_option maxRecDepth 100000
set_option maxHeartbeats 2000000
namespace Go.Proofs.YtdccocolnaklkaaGreatDoor
open Go Go.Hl
open Tryz(prog)
attribute [simp] Ob.flat
theorem X4k (f:Fl) (hv:f.vars.length<=1000000) (hh:f.hats.length<=1000000) (ht:∀h∈f.hats,h.term.nodes<=1000000) (hb:Xe f.body<=1000000) (hbn:Qm f.body=true) (d:Nat):
  Con prog 27 false [aF f] (.v (aF f)) none d:=by
 obtain⟨vars,hats,body⟩:=f;simp only at hv hh ht hb hbn;have cv:=X92 vars hv;have chh:=X1U hats hh;have cb:=X3l body hb hbn;refine X2 Tryz.func27 ?_;simp only[Tryz.f27];simp only[aF,Fl.enc,Na,Nb];refine X4 ?_;refine ZY [⟨false,.v (lV vars),none⟩] ?_ ?_
 .first|exact cv _|exact trivial|simpa[*]using cv _
 refine ZY [⟨false,.v (.one (.own 10)),some (.row 94 6 (Xu hats))⟩] ?_ ?_
 .first|exact chh 10 (by decide)|exact trivial|simpa[*]using chh 10 (by decide)
 refine X0<|X0<|X1 ?_;refine X3<|(Xb [1,2,14] (fun(x:Nat)=>[(15,.v (li x))]) (fun(x:Nat)=>[(1,.box [.c (.sl 5 (Xr vars)),.own 10,.c (.sl 10 (Xf body))]),(2,.box [.c (.lit XR),.c (.lit XR),.c (.lit XR)]),(10,.row 94 6 (Xu hats))]) (fun(x:Nat)=>x<=hats.length) (fun(x:Nat)=>hats.length - x) (0:Nat) (Nc _) ?_);rintro k hk;simp only[LN,Nat.reduceBEq,Nat.reduceLT];refine(XS (fun h6=>X6 ?_) fun h6=>?_)
 .have hlt:k<hats.length:=by omega
  obtain⟨h,he,hd⟩:=Xw hlt;have hw1:=Xz hlt (by omega);have hk1:k+1<=hats.length:=hlt;have hmem:h∈hats:=N3 he;have ct:=X0p h.term (ht h hmem);have hse:=X7v (l:=Xu hats) (k:=k) (x:=h.enc) (by simp[he]);obtain⟨hn,hlo,hhi,⟨ho,htn,hks⟩⟩:=h;simp only[aT,Tm.enc,Na,Nb]at ct;simp only[Ht.enc,Tm.enc,List.cons_append,List.nil_append]at hse;clear hlt h6 hmem hd;refine X0<|X3<|X0<|X1 ?_;refine(Xx [⟨false,.v (aT (.mk ho htn hks)),none⟩] (by kernel_rfl) (by kernel_rfl) (by rfl) (by simp[*];first|exact⟨rfl,Iff.rfl⟩|exact⟨rfl,trivial⟩|rfl) ?_ ?_)
  .first|exact ct _|exact trivial|simpa[*]using ct _
  refine X1 ?_;exact Xj (k+1) (hk1)
 refine(Xd ?_);refine ZY [⟨false,.v (lS body),none⟩] ?_ ?_
 .first|exact cb _|exact trivial|simpa[*]using cb _
 refine X4 ?_;exact Xn ⟨.inr rfl,_,XL 10 rfl,⟨⟨_,by simp;rfl,by simp[Xl]⟩,by simp,fun h=>by cases h⟩⟩
theorem X7X (l:List St) (hn:Xe l<=1000000000) (d:Nat):Con prog 125 true [lS l] (.v (li (spL l (0,0)).1)) none d:=by
 have cs:=Xas l hn;obtain⟨⟨A,B⟩,hp⟩:∃p,spL l (0,0)=p:=⟨_,rfl⟩;rw[hp]at cs⊢;refine X2 Tryz.func125 ?_;simp only[Tryz.f125];refine X4 ?_;refine X0<|(Xa cs ?_);exact X7
def Zg (n:Int):List St:=if n=0 then [] else [.mk 2 n 0 0 (.mk 0 0 []) [] [] []]
theorem X4x (n:Int) (d:Nat):Con prog 126 false [li n] (.v (lS (Zg n))) none d:=by
 have hroom:QF 1 144:=XO (by decide) (by decide);obtain⟨res,hres⟩:∃r,Zg n=r:=⟨_,rfl⟩;rw[hres];unfold Zg at hres;refine X2 Tryz.func126 ?_;simp only[Tryz.f126];refine X4 ?_;refine X0<|(X8 (fun h2=>?_) fun h2=>?_)
 .rw[N9 h2]at hres;subst hres;refine X4 ?_;exact Xn ⟨.inr rfl,_,X3v 2 10 rfl,⟨⟨_,by simp;rfl,by simp[Xl]⟩,by simp,fun h=>by cases h⟩⟩
 rw[N6 h2]at hres;subst hres;refine X0<|(HT_runF 2 [] [] (by simp[*];rfl) trivial (Zn 6 [.c (iC 2),.c (iC n),.c (iC 0),.c (iC 0),.c (iC 0),.c (iC 0),.c (.sl 3 []),.c (.sl 10 []),.c (.sl 10 []),.c (.sl 1 [])] rfl (by(repeat'(first|exact LWk.nil|apply LWk.cons|exact CWk.refl _|exact CWk.nil _)))) (by simp[*];rfl) trivial ?_);exact Xn ⟨.inr rfl,_,XL 7 rfl,⟨⟨_,by simp;rfl,by simp[Xl]⟩,by simp,fun h=>by cases h⟩⟩
def posI (n:Int):Int:=if 0<n then n else 0
def balS:St->St
 | .mk d c v n t a b bs=>
   if d=3 then .mk d c v n t (a++Zg (posI ((spL b (0,0)).1 - (spL a (0,0)).1))) (b++Zg (posI ((spL a (0,0)).1 - (spL b (0,0)).1))) bs
   else if d=4/\t.op≠0 then .mk d c v n (.mk 0 1 []) [.mk 3 0 0 0 t a (Zg (spL a (0,0)).1) []] b bs
   else .mk d c v n t a b bs
theorem X5B (n:Int):(Zg n).length<=1:=by
 unfold Zg;split<;>simp
theorem X76 (a b:List St):Xf (a++b)=Xf a++Xf b:=by simp[QZ]
theorem X6M (sd sc sv sn so stn:Int) (sks:List Tm) (sa sb:List St) (sbs:List Int) (hna:Xe sa<=1000000) (hnb:Xe sb<=1000000):
  ConG prog 94 [(1000001,.row 63 10 (Xf sa)),(1000002,.row 63 10 (Xf sb))]
   [.agg [.c (iC sd),.c (iC sc),.c (iC sv),.c (iC sn),.c (iC so),.c (iC stn),.c (.sl 3 (Xg sks)),.own 1000001,.own 1000002,.c (.sl 1 (Xk sbs))]]
   (.v (aS (balS (.mk sd sc sv sn (.mk so stn sks) sa sb sbs)))):=by
 have hla:=XB sa;have hlb:=XB sb;have ta:=X7X sa (by omega);have tb:=X7X sb (by omega);have ia:=X1G sa (0,0) inT0;have ib:=X1G sb (0,0) inT0;obtain⟨res,hres⟩:∃r,balS (.mk sd sc sv sn (.mk so stn sks) sa sb sbs)=r:=⟨_,rfl⟩;rw[hres];simp only[balS,Tm.op]at hres;obtain⟨A,hA⟩:∃x,(spL sa (0,0)).1=x:=⟨_,rfl⟩;obtain⟨B,hB⟩:∃x,(spL sb (0,0)).1=x:=⟨_,rfl⟩;unfold inT at ia ib;simp only[hA,hB]at ta tb hres ia ib;have hw1:IntKind.i64.wrap (B - A)=B - A:=X5;have hw2:IntKind.i64.wrap (A - B)=A - B:=X5;clear ia ib hA hB;refine X80 Tryz.func94 rfl (by kernel_rfl) (Da rfl) ?_;simp only[Tryz.f94];refine X4 ?_;refine X0<|X3<|(Xc (fun h2=>?_) fun h2=>?_)
 .rw[N9 h2]at hres;have c1:=X4x (posI (B - A));have c2:=X4x (posI (A - B));have hl1:=X5B (posI (B - A));have hl2:=X5B (posI (A - B));simp only[posI]at c1 c2 hl1 hl2 hres;obtain⟨W1,hW1⟩:∃x,Zg (if 0<B - A then B - A else 0)=x:=⟨_,rfl⟩;obtain⟨W2,hW2⟩:∃x,Zg (if 0<A - B then A - B else 0)=x:=⟨_,rfl⟩;rw[hW1]at c1 hl1 hres;rw[hW2]at c2 hl2 hres;subst hres;have hr1:QF (sa.length+W1.length) 144:=XO (by omega) (by omega);have hr2:QF (sb.length+W2.length) 144:=XO (by omega) (by omega);clear hW1 hW2 hl1 hl2;refine X0<|(Xx [⟨true,.v (li A),none⟩,⟨true,.v (li B),none⟩] (by kernel_rfl) (by kernel_rfl) (by rfl) (by simp[*];first|exact⟨rfl,Iff.rfl⟩|exact⟨rfl,trivial⟩|rfl) ?_ ?_)
  .first|exact⟨ta _,tb _⟩|exact trivial|(repeat' first|exact trivial|exact ta _|exact tb _|apply And.intro)
  refine X0<|(Xx [⟨false,.v (lS W1),none⟩] (by kernel_rfl) (by kernel_rfl) (by rfl) (by simp[*];first|exact⟨rfl,Iff.rfl⟩|exact⟨rfl,trivial⟩|rfl) ?_ ?_)
  .first|exact c1 _|exact trivial|simpa[*]using c1 _
  refine(Xx [⟨false,.v (lS W2),none⟩] (by kernel_rfl) (by kernel_rfl) (by rfl) (by simp[*];first|exact⟨rfl,Iff.rfl⟩|exact⟨rfl,trivial⟩|rfl) ?_ ?_)
  .first|exact c2 _|exact trivial|simpa[*]using c2 _
  refine X4 ?_;refine Q6 (XL 23 rfl) ?_;refine Q6 (XL 32 rfl) ?_;exact Xn ⟨.inr rfl,_,le_refl _,_,by simp;rfl,by simp[*,Xl,X76]⟩
 rw[N6 h2]at hres;refine Q6 (XL 1000001 rfl) ?_;refine Q6 (XL 1000002 rfl) ?_;rcases Classical.em (sd=4)with h8|h8
 .refine X4 ?_;subst h8;refine(XM (fun h9=>?_) fun h9=>?_)
  .have hso:so≠0:=by simpa using h9
   rw[N9 ⟨rfl,hso⟩]at hres;subst hres;have c1:=X4x A;have hr1:QF 1 144:=XO (by decide) (by decide);refine X0<|(Xx [⟨true,.v (li A),none⟩,⟨false,.v (lS (Zg A)),none⟩] (by kernel_rfl) (by kernel_rfl) (by rfl) (by simp[*];first|exact⟨rfl,Iff.rfl⟩|exact⟨rfl,trivial⟩|rfl) ?_ ?_)
   .first|exact⟨ta _,c1 _⟩|exact trivial|(repeat' first|exact trivial|exact ta _|exact c1 _|apply And.intro)
   refine Q6 (Ww 5 [.c (iC 3),.c (iC 0),.c (iC 0),.c (iC 0),.c (iC so),.c (iC stn),.c (.sl 3 (Xg sks)),.c (.sl 10 (Xf sa)),.c (.sl 10 (Xf (Zg A))),.c (.sl 1 [])] rfl (by(repeat'(first|exact LWk.nil|apply LWk.cons|exact CWk.refl _|exact CWk.nil _)))) ?_;refine(X2V [(5,5),(56,1),(57,1)] (by kernel_rfl) (by kernel_rfl) (by rfl) (by simp[evsH,hokB,Qx, *];rfl) ?_);refine Q6 (XL 55 rfl) ?_;refine Q6 (Ww 1 [.c (iC 4),.c (iC sc),.c (iC sv),.c (iC sn),.c (iC 0),.c (iC 1),.c (.sl 3 []),.c (.sl 10 (Xf [.mk 3 0 0 0 (.mk so stn sks) sa (Zg A) []])),.c (.sl 10 (Xf sb)),.c (.sl 1 (Xk sbs))] rfl (by(repeat'(first|exact LWk.nil|apply LWk.cons|exact CWk.refl _|exact CWk.nil _)))) ?_;refine X4 ?_;exact Xn ⟨.inr rfl,_,le_refl _,_,by simp;rfl,by simp[Xl]⟩
  have hso:so=0:=by simpa using h9
  rw[N6 (fun h=>h.2 hso)]at hres;subst hres;refine X4 ?_;exact Xn ⟨.inr rfl,_,le_refl _,_,by simp;rfl,by simp[*,Xl]⟩
 refine(X8 (fun h9=>?_) fun h9=>?_)
 .exact absurd h9 (by simp)
 rw[N6 (fun h=>h8 h.1)]at hres;subst hres;refine X4 ?_;exact Xn ⟨.inr rfl,_,le_refl _,_,by simp;rfl,by simp[Xl]⟩
def evL:List St->List St
 |[]=>[]
 | .mk d c v n t a b bs::l=>balS (.mk d c v n t (evL a) (evL b) bs)::evL l
theorem X9v:∀(l m:List St),evL (l++m)=evL l++evL m
 |[],m=>by simp[evL]
 | .mk d c v n t a b bs::l,m=>by simp[evL,X9v l m]
theorem X9Q:∀l:List St,(evL l).length=l.length
 |[]=>by simp[evL]
 | .mk d c v n t a b bs::l=>by simp[evL,X9Q l]
theorem X4z:∀l m:List St,Xe (l++m)=Xe l+Xe m
 |[],m=>by simp[Xe]
 |s::l,m=>by simp only[List.cons_append,Xe,X4z l m];omega
theorem X7w (n:Int):Xe (Zg n)<=2:=by
 unfold Zg;split<;>simp[Xe,St.nodes,Tm.nodes,Xs]
theorem X8X (s:St):(balS s).nodes<=s.nodes+4:=by
 obtain⟨d,c,v,n,t,a,b,bs⟩:=s;have h:=X7w;unfold balS;simp only;split
 .have h1:=h (posI ((spL b (0,0)).1 - (spL a (0,0)).1));have h2:=h (posI ((spL a (0,0)).1 - (spL b (0,0)).1));simp only[St.nodes,X4z];omega
 split
 .have h1:=h (spL a (0,0)).1;simp only[St.nodes,Xe,Tm.nodes,Xs];omega
 simp only[St.nodes];omega
theorem Zw:∀l:List St,Xe (evL l)<=3*Xe l
 |[]=>by simp[evL,Xe]
 | .mk d c v n t a b bs::l=>by
   have h1:=Zw a;have h2:=Zw b;have h3:=Zw l;have h4:=X8X (.mk d c v n t (evL a) (evL b) bs);have h5:=X1p t;simp only[evL,Xe,St.nodes]at h4⊢;omega
theorem even_con (l:List St):Xe l<=300000->∀d:Nat,d<1000000->Con prog 62 false [lS l,.one (.c (.lit XR))] (.v (.one (.own d))) (some (.row 63 10 (Xf (evL l)))) d:=by
 revert l
 apply St.lists;intro l ih hn d hd0;have hlen:=XB l;have hev0:evL []=[]:=by simp[evL]
 refine X2 Tryz.func62 ?_;simp only[Tryz.f62];refine X4 ?_;refine X4 ?_;refine X0<|X0<|X1 ?_;refine X3<|(Xb [1,9,10] (fun(x:Nat)=>[(5,.v (.one (.own 1005))),(11,.v (li x))]) (fun(x:Nat)=>[(1005,.row 63 10 (Xf (evL (l.take x))))]) (fun(x:Nat)=>x<=l.length) (fun(x:Nat)=>l.length - x) (0:Nat) (Nc _) ?_);rintro k hk;simp only[LN,Nat.reduceBEq,Nat.reduceLT];refine(XS (fun h5=>X6 ?_) fun h5=>?_)
 .have hlt:k<l.length:=by omega
  obtain⟨s,he,hd⟩:=Xw hlt;have hw1:=Xz hlt (by omega);have hk1:k+1<=l.length:=hlt;have hmem:s∈l:=N3 he;have hnm:=Q2 hmem;have ca:=(ih s hmem).1 (by omega);have cb:=(ih s hmem).2 (by omega);have htl:(evL (l.take k)).length=k:=by rw[X9Q,Ns];omega
  have hroom:QF (k+1) 144:=XO (by omega) (by omega)
  have hsn0:evL (l.take (k+1))=evL (l.take k)++evL [s]:=by
   rw[List.take_add_one,he,Option.toList_some,X9v]
  have he':=Q7 he;have hna:=Zw s.then_;have hnb:=Zw s.else_;obtain⟨sd,sc,sv,sn,⟨so,stn,sks⟩,sa,sb,sbs⟩:=s;simp only[St.then_,St.else_,St.term]at ca cb hnm hna hnb;simp only[St.enc,Tm.enc,List.cons_append,List.nil_append]at he';have cbal:=X6M sd sc sv sn so stn sks (evL sa) (evL sb) sbs (by omega) (by omega);simp only[evL]at hsn0;obtain⟨X,hX⟩:∃X,balS (.mk sd sc sv sn (.mk so stn sks) (evL sa) (evL sb) sbs)=X:=⟨_,rfl⟩;rw[hX]at hsn0 cbal;obtain⟨xd,xc,xv,xn,⟨xo,xtn,xks⟩,xa,xb,xbs⟩:=X;simp only[aS,St.enc,Tm.enc,List.cons_append,List.nil_append,Na,Nb]at cbal
  have hsn:Xf (evL (l.take (k+1)))=Xf (evL (l.take k))++[[iC xd,iC xc,iC xv,iC xn,iC xo,iC xtn,.sl 3 (Xg xks),.sl 10 (Xf xa),.sl 10 (Xf xb),.sl 1 (Xk xbs)]]:=by
   rw[hsn0,X76];simp
  clear hsn0 hlt h5 ih hmem hnm he hd hna hnb hX;refine X0<|X3<|X0<|X1 ?_;refine X4 ?_;refine(XY [1,5,7,9,10,11] (fun(z:Unit)=>[(8,.v (.one (.c (.lit XR))))]) (fun(z:Unit)=>[(7,.box [.c (iC sd),.c (iC sc),.c (iC sv),.c (iC sn),.c (iC so),.c (iC stn),.c (.sl 3 (Xg sks)),.c (.sl 10 (Xf sa)),.c (.sl 10 (Xf sb)),.c (.sl 1 (Xk sbs))]),(1005,.row 63 10 (Xf (evL (l.take k))))]) (fun(z:Unit)=>True) ?_ ?_)
  .refine X0<|(WI [none] (by simp[*];first|exact⟨rfl,trivial⟩|exact⟨rfl,Iff.rfl⟩|rfl) ?_ ?_)
   .trivial
   refine(XM (fun h10=>?_) fun h10=>?_)
   .exact absurd h10 (by simp)
   exact Xv (()) (trivial)
  rintro _ _;simp only[LN,Nat.reduceBEq,Nat.reduceLT];refine X0<|(Xx [⟨false,.v (.one (.own 37)),some (.row 63 10 (Xf (evL sa)))⟩,⟨false,.v (.one (.own 41)),some (.row 63 10 (Xf (evL sb)))⟩] (by kernel_rfl) (by kernel_rfl) (by rfl) (by simp[*];first|exact⟨rfl,Iff.rfl⟩|exact⟨rfl,trivial⟩|rfl) ?_ ?_)
  .first|exact trivial|exact trivial|(repeat' first|exact trivial|exact ca 37 (by decide)|exact cb 41 (by decide)|apply And.intro)
  refine X0<|(X8 (fun h16=>?_) fun h16=>?_)
  .refine(HT_runG 1 [(1000001,.row 63 10 (Xf (evL sa))),(1000002,.row 63 10 (Xf (evL sb)))] _ (fun n=>if n=1000001 then 37 else 41) _ [] [] rfl (by simp[*];rfl) trivial (by simp[*];rfl) (X2Q (by simp[Ob.isRow]) (by simp)) (by simp) cbal (by simp) (by simp[*];rfl) trivial ?_);refine X1 ?_;refine X1 ?_;exact Xj (k+1) (hk1)
  exact absurd h16 (by simp)
 have hkl:k=l.length:=by omega
 subst hkl;simp only[List.take_length];refine(Xd ?_);refine X4 ?_;exact Xn ⟨.inr rfl,_,ZP 4 1005 d rfl rfl hd0,⟨⟨_,by simp;rfl,by simp[Xl]⟩,by simp,fun h=>by cases h⟩⟩
end Go.Proofs.YtdccocolnaklkaaGreatDoor
