/- Contracts of functions and plain facts about what they compute. Conditions: as each theorem states. -/
import Derived.Test.YtdccocolnaklkaaGreatDoorG6
set_option linter.unusedSimpArgs false
set_option linter.unusedVariables false
set_option linter.unnecessarySimpa false
set_option maxRecDepth 100000
set_option maxHeartbeats 2000000
namespace Go.Proofs.YtdccocolnaklkaaGreatDoor
open Go Go.Hl
open Tryz(prog)
attribute [simp] Ob.flat
theorem X7q (f:Fl) (hv:f.vars.length<=1000000) (hh:f.hats.length<=1000000) (ht:∀h∈f.hats,h.term.nodes<=1000000) (hb:Xh f.body<=1000000) (hbn:Qi f.body=true) (d:Nat):
  Con prog 27 false [aF f] (.v (aF f)) none d:=by
 obtain⟨vars,hats,body⟩:=f;simp only at hv hh ht hb hbn;have cv:=X7p vars hv;have chh:=X3C hats hh;have cb:=X4K body hb hbn;refine X3 Tryz.func27 ?_;simp only[Tryz.f27];simp only[aF,Fl.enc,Na,Ng];refine X1 ?_;refine Xd [⟨false,.v (lV vars),none⟩] ?_ ?_
 .first|exact cv _|exact trivial|simpa[*]using cv _
 refine Xd [⟨false,.v (.one (.own 10)),some (.row 94 6 (Xz hats))⟩] ?_ ?_
 .first|exact chh 10 (by decide)|exact trivial|simpa[*]using chh 10 (by decide)
 refine X0<|X0<|X2 ?_;refine X4<|(Xf [1,2,14] (fun(x:Nat)=>[(15,.v (li x))]) (fun x=>[(1,.box [.c (.sl 5 (Xt vars)),.own 10,.c (.sl 10 (Xe body))]),(2,.box [.c (.lit XZ),.c (.lit XZ),.c (.lit XZ)]),(10,.row 94 6 (Xz hats))]) (fun x=>x<=hats.length) (fun x=>hats.length - x) (0:Nat) (Nf _) ?_ ?_)
 .exact X5 (fun n=>n) []
 rintro k hk;simp only[upS,X7,Xy]
 try simp only[X7,KN,Nat.reduceBEq,Nd,Nb,ins,Nat.reduceLT]
 refine X1 ?_;refine X0<|(X6 rfl (fun h6=>Xc ?_) (fun h6=>?_))
 ·(try simp only[BN]at h6);have hlt:k<hats.length:=by omega
  obtain⟨h,he,hd⟩:=XF hlt;have hw1:=XB hlt (by omega);have hk1:k+1<=hats.length:=hlt;have hmem:h∈hats:=N3 he;have ct:=X3P h.term (ht h hmem);have hse:=X6z (l:=Xz hats) (k:=k) (x:=h.enc) (by simp[he]);obtain⟨hn,hlo,hhi,⟨ho,htn,hks⟩⟩:=h;simp only[aT,Tm.enc,Na,Ng]at ct;simp only[Ht.enc,Tm.enc,List.cons_append,List.nil_append]at hse;clear hlt h6 hmem hd;refine X0<|X4<|X0<|X2 ?_;refine(Xv [⟨false,.v (aT (.mk ho htn hks)),none⟩] (by kernel_rfl) (by kernel_rfl) (by rfl) (by simp[*];first|exact⟨rfl,Iff.rfl⟩|exact⟨rfl,trivial⟩|rfl) ?_ ?_)
  .first|exact ct _|exact trivial|simpa[*]using ct _
  refine X2 ?_;exact⟨k+1,hk1,by omega,X5 (fun n=>n) []⟩
 (try simp only[BN]at h6);refine(Xj ?_);refine Xd [⟨false,.v (lS body),none⟩] ?_ ?_
 .first|exact cb _|exact trivial|simpa[*]using cb _
 refine X1 ?_;exact Xr ⟨.inr rfl,_,XO 10 rfl,⟨⟨_,by simp;rfl,by simp[Xp]⟩,by simp,fun h=>by cases h⟩⟩
theorem X69 (l:List St) (hn:Xh l<=1000000000) (d:Nat):Con prog 125 true [lS l] (.v (li (spL l (0,0)).1)) none d:=by
 have cs:=X9E l hn;obtain⟨⟨A,B⟩,hp⟩:∃p,spL l (0,0)=p:=⟨_,rfl⟩;rw[hp]at cs⊢;refine X3 Tryz.func125 ?_;simp only[Tryz.f125];refine X1 ?_;refine Xd [⟨true,.tup [li A,li B],none⟩] ?_ ?_
 .first|exact cs _|exact trivial|simpa[*]using cs _
 refine X1 ?_;exact Xb
def Z4 (n:Int):List St:=if n=0 then [] else [.mk 2 n 0 0 (.mk 0 0 []) [] [] []]
theorem X4i (n:Int) (d:Nat):Con prog 126 false [li n] (.v (lS (Z4 n))) none d:=by
 have hroom:Qy 1 144:=XC (by decide) (by decide);obtain⟨res,hres⟩:∃r,Z4 n=r:=⟨_,rfl⟩;rw[hres];unfold Z4 at hres;refine X3 Tryz.func126 ?_;simp only[Tryz.f126];refine X1 ?_;refine X0<|X0<|X2 ?_;refine(X9 rfl (fun h2=>?_) fun h2=>?_)
 ·(try simp only[BN]at h2);rw[N9 h2]at hres;subst hres;refine X1 ?_;exact Xr ⟨.inr rfl,_,X2C 2 10 rfl,⟨⟨_,by simp;rfl,by simp[Xp]⟩,by simp,fun h=>by cases h⟩⟩
 (try simp only[BN]at h2);rw[N6 h2]at hres;subst hres;refine X0<|(HT_runF 2 [] [] (by simp[*];rfl) trivial (Zv 6 [.c (iC 2),.c (iC n),.c (iC 0),.c (iC 0),.c (iC 0),.c (iC 0),.c (.sl 3 []),.c (.sl 10 []),.c (.sl 10 []),.c (.sl 1 [])] rfl (by(repeat'(first|exact LWk.nil|apply LWk.cons|exact CWk.refl _|exact CWk.nil _)))) (by simp[*];rfl) trivial ?_);exact Xr ⟨.inr rfl,_,XO 7 rfl,⟨⟨_,by simp;rfl,by simp[Xp]⟩,by simp,fun h=>by cases h⟩⟩
def posI (n:Int):Int:=if 0<n then n else 0
def balS:St->St
 | .mk d c v n t a b bs=>
   if d=3 then .mk d c v n t (a++Z4 (posI ((spL b (0,0)).1 - (spL a (0,0)).1))) (b++Z4 (posI ((spL a (0,0)).1 - (spL b (0,0)).1))) bs
   else if d=4/\t.op≠0 then .mk d c v n (.mk 0 1 []) [.mk 3 0 0 0 t a (Z4 (spL a (0,0)).1) []] b bs
   else .mk d c v n t a b bs
theorem X5d (n:Int):(Z4 n).length<=1:=by
 unfold Z4;split<;>simp
theorem X6P (a b:List St):Xe (a++b)=Xe a++Xe b:=by simp[WK]
theorem X5j (sd sc sv sn so stn:Int) (sks:List Tm) (sa sb:List St) (sbs:List Int) (hna:Xh sa<=1000000) (hnb:Xh sb<=1000000):
  ConG prog 94 [(1000001,.row 63 10 (Xe sa)),(1000002,.row 63 10 (Xe sb))]
   [.agg [.c (iC sd),.c (iC sc),.c (iC sv),.c (iC sn),.c (iC so),.c (iC stn),.c (.sl 3 (XH sks)),.own 1000001,.own 1000002,.c (.sl 1 (Xg sbs))]]
   (.v (aS (balS (.mk sd sc sv sn (.mk so stn sks) sa sb sbs)))):=by
 have hla:=XW sa;have hlb:=XW sb;have ta:=X69 sa (by omega);have tb:=X69 sb (by omega);have ia:=X1o sa (0,0) inT0;have ib:=X1o sb (0,0) inT0;obtain⟨res,hres⟩:∃r,balS (.mk sd sc sv sn (.mk so stn sks) sa sb sbs)=r:=⟨_,rfl⟩;rw[hres];simp only[balS,Tm.op]at hres;obtain⟨A,hA⟩:∃x,(spL sa (0,0)).1=x:=⟨_,rfl⟩;obtain⟨B,hB⟩:∃x,(spL sb (0,0)).1=x:=⟨_,rfl⟩;unfold inT at ia ib;simp only[hA,hB]at ta tb hres ia ib;have hw1:IntKind.i64.wrap (B - A)=B - A:=X8;have hw2:IntKind.i64.wrap (A - B)=A - B:=X8;clear ia ib hA hB;refine X6C Tryz.func94 rfl (by kernel_rfl) (Dj rfl) ?_;simp only[Tryz.f94];refine X1 ?_;refine X0<|X4<|X0<|X2 ?_;refine(X6 rfl (fun h2=>?_) (fun h2=>?_))
 ·(try simp only[BN]at h2);rw[N9 h2]at hres;have c1:=X4i (posI (B - A));have c2:=X4i (posI (A - B));have hl1:=X5d (posI (B - A));have hl2:=X5d (posI (A - B));simp only[posI]at c1 c2 hl1 hl2 hres;obtain⟨W1,hW1⟩:∃x,Z4 (if 0<B - A then B - A else 0)=x:=⟨_,rfl⟩;obtain⟨W2,hW2⟩:∃x,Z4 (if 0<A - B then A - B else 0)=x:=⟨_,rfl⟩;rw[hW1]at c1 hl1 hres;rw[hW2]at c2 hl2 hres;subst hres;have hr1:Qy (sa.length+W1.length) 144:=XC (by omega) (by omega);have hr2:Qy (sb.length+W2.length) 144:=XC (by omega) (by omega);clear hW1 hW2 hl1 hl2;refine X0<|(Xv [⟨true,.v (li A),none⟩,⟨true,.v (li B),none⟩] (by kernel_rfl) (by kernel_rfl) (by rfl) (by simp[*];first|exact⟨rfl,Iff.rfl⟩|exact⟨rfl,trivial⟩|rfl) ?_ ?_)
  .first|exact⟨ta _,tb _⟩|exact trivial|(repeat' first|exact trivial|exact ta _|exact tb _|apply And.intro)
  refine X0<|(Xv [⟨false,.v (lS W1),none⟩] (by kernel_rfl) (by kernel_rfl) (by rfl) (by simp[*];first|exact⟨rfl,Iff.rfl⟩|exact⟨rfl,trivial⟩|rfl) ?_ ?_)
  .first|exact c1 _|exact trivial|simpa[*]using c1 _
  refine(Xv [⟨false,.v (lS W2),none⟩] (by kernel_rfl) (by kernel_rfl) (by rfl) (by simp[*];first|exact⟨rfl,Iff.rfl⟩|exact⟨rfl,trivial⟩|rfl) ?_ ?_)
  .first|exact c2 _|exact trivial|simpa[*]using c2 _
  refine X1 ?_;refine Q9 (XO 23 rfl) ?_;refine Q9 (XO 32 rfl) ?_;exact Xr ⟨.inr rfl,_,le_refl _,_,by simp;rfl,by simp[*,Xp,X6P]⟩
 (try simp only[BN]at h2);rw[N6 h2]at hres;refine Q9 (XO 1000001 rfl) ?_;refine Q9 (XO 1000002 rfl) ?_;rcases Classical.em (sd=4)with h8|h8
 .refine X1 ?_;subst h8;refine(X9 rfl (fun h9=>?_) fun h9=>?_)
  ·(try simp only[BN]at h9);have hso:so≠0:=by simpa using h9
   rw[N9 ⟨rfl,hso⟩]at hres;subst hres;have c1:=X4i A;have hr1:Qy 1 144:=XC (by decide) (by decide);refine X0<|(Xv [⟨true,.v (li A),none⟩,⟨false,.v (lS (Z4 A)),none⟩] (by kernel_rfl) (by kernel_rfl) (by rfl) (by simp[*];first|exact⟨rfl,Iff.rfl⟩|exact⟨rfl,trivial⟩|rfl) ?_ ?_)
   .first|exact⟨ta _,c1 _⟩|exact trivial|(repeat' first|exact trivial|exact ta _|exact c1 _|apply And.intro)
   refine Q9 (Wc 5 [.c (iC 3),.c (iC 0),.c (iC 0),.c (iC 0),.c (iC so),.c (iC stn),.c (.sl 3 (XH sks)),.c (.sl 10 (Xe sa)),.c (.sl 10 (Xe (Z4 A))),.c (.sl 1 [])] rfl (by(repeat'(first|exact LWk.nil|apply LWk.cons|exact CWk.refl _|exact CWk.nil _)))) ?_;refine(X0K [(5,5),(56,1),(57,1)] (by kernel_rfl) (by kernel_rfl) (by rfl) (by simp[evsH,X3k,Qg, *];rfl) ?_);refine Q9 (XO 55 rfl) ?_;refine Q9 (Wc 1 [.c (iC 4),.c (iC sc),.c (iC sv),.c (iC sn),.c (iC 0),.c (iC 1),.c (.sl 3 []),.c (.sl 10 (Xe [.mk 3 0 0 0 (.mk so stn sks) sa (Z4 A) []])),.c (.sl 10 (Xe sb)),.c (.sl 1 (Xg sbs))] rfl (by(repeat'(first|exact LWk.nil|apply LWk.cons|exact CWk.refl _|exact CWk.nil _)))) ?_;refine X1 ?_;exact Xr ⟨.inr rfl,_,le_refl _,_,by simp;rfl,by simp[Xp]⟩
  (try simp only[BN]at h9);have hso:so=0:=by simpa using h9
  rw[N6 (fun h=>h.2 hso)]at hres;subst hres;refine X1 ?_;exact Xr ⟨.inr rfl,_,le_refl _,_,by simp;rfl,by simp[*,Xp]⟩
 refine X1 ?_;refine(X9 rfl (fun h9=>?_) fun h9=>?_)
 .exact absurd h9 (by simp)
 (try simp only[BN]at h9);rw[N6 (fun h=>h8 h.1)]at hres;subst hres;refine X1 ?_;exact Xr ⟨.inr rfl,_,le_refl _,_,by simp;rfl,by simp[Xp]⟩
def evL:List St->List St
 |[]=>[]
 | .mk d c v n t a b bs::l=>balS (.mk d c v n t (evL a) (evL b) bs)::evL l
theorem X8k:∀(l m:List St),evL (l++m)=evL l++evL m
 |[],m=>by simp[evL]
 | .mk d c v n t a b bs::l,m=>by simp[evL,X8k l m]
theorem X8i:∀l:List St,(evL l).length=l.length
 |[]=>by simp[evL]
 | .mk d c v n t a b bs::l=>by simp[evL,X8i l]
theorem X3W:∀l m:List St,Xh (l++m)=Xh l+Xh m
 |[],m=>by simp[Xh]
 |s::l,m=>by simp only[List.cons_append,Xh,X3W l m];omega
theorem X6x (n:Int):Xh (Z4 n)<=2:=by
 unfold Z4;split<;>simp[Xh,St.nodes,Tm.nodes,Q5]
theorem X7x (s:St):(balS s).nodes<=s.nodes+4:=by
 obtain⟨d,c,v,n,t,a,b,bs⟩:=s;have h:=X6x;unfold balS;simp only;split
 .have h1:=h (posI ((spL b (0,0)).1 - (spL a (0,0)).1));have h2:=h (posI ((spL a (0,0)).1 - (spL b (0,0)).1));simp only[St.nodes,X3W];omega
 split
 .have h1:=h (spL a (0,0)).1;simp only[St.nodes,Xh,Tm.nodes,Q5];omega
 simp only[St.nodes];omega
theorem Zl:∀l:List St,Xh (evL l)<=3*Xh l
 |[]=>by simp[evL,Xh]
 | .mk d c v n t a b bs::l=>by
   have h1:=Zl a;have h2:=Zl b;have h3:=Zl l;have h4:=X7x (.mk d c v n t (evL a) (evL b) bs);have h5:=X2Y t;simp only[evL,Xh,St.nodes]at h4⊢;omega
theorem even_con (l:List St):Xh l<=300000->∀d:Nat,d<1000000->Con prog 62 false [lS l,.one (.c (.lit XZ))] (.v (.one (.own d))) (some (.row 63 10 (Xe (evL l)))) d:=by
 revert l
 apply St.lists;intro l ih hn d hd0;have hlen:=XW l;have hev0:evL []=[]:=by simp[evL]
 refine X3 Tryz.func62 ?_;simp only[Tryz.f62];refine X1 ?_;refine X1 ?_;refine X0<|X0<|X2 ?_;refine X4<|(Xf [1,9,10] (fun(x:Nat)=>[(5,.v (.one (.own 1005))),(11,.v (li x))]) (fun x=>[(1005,.row 63 10 (Xe (evL (l.take x))))]) (fun x=>x<=l.length) (fun x=>l.length - x) (0:Nat) (Nf _) ?_ ?_)
 .exact X5 (fun n=>n) [1005]
 rintro k hk;simp only[upS,X7,Xy]
 try simp only[X7,KN,Nat.reduceBEq,Nd,Nb,ins,Nat.reduceLT]
 refine X1 ?_;refine X0<|(X6 rfl (fun h5=>Xc ?_) (fun h5=>?_))
 ·(try simp only[BN]at h5);have hlt:k<l.length:=by omega
  obtain⟨s,he,hd⟩:=XF hlt;have hw1:=XB hlt (by omega);have hk1:k+1<=l.length:=hlt;have hmem:s∈l:=N3 he;have hnm:=Qe hmem;have ca:=(ih s hmem).1 (by omega);have cb:=(ih s hmem).2 (by omega);have htl:(evL (l.take k)).length=k:=by rw[X8i,Nt];omega
  have hroom:Qy (k+1) 144:=XC (by omega) (by omega)
  have hsn0:evL (l.take (k+1))=evL (l.take k)++evL [s]:=by
   rw[List.take_add_one,he,Option.toList_some,X8k]
  have he':=Qo he;have hna:=Zl s.then_;have hnb:=Zl s.else_;obtain⟨sd,sc,sv,sn,⟨so,stn,sks⟩,sa,sb,sbs⟩:=s;simp only[St.then_,St.else_,St.term]at ca cb hnm hna hnb;simp only[St.enc,Tm.enc,List.cons_append,List.nil_append]at he';have cbal:=X5j sd sc sv sn so stn sks (evL sa) (evL sb) sbs (by omega) (by omega);simp only[evL]at hsn0;obtain⟨X,hX⟩:∃X,balS (.mk sd sc sv sn (.mk so stn sks) (evL sa) (evL sb) sbs)=X:=⟨_,rfl⟩;rw[hX]at hsn0 cbal;obtain⟨xd,xc,xv,xn,⟨xo,xtn,xks⟩,xa,xb,xbs⟩:=X;simp only[aS,St.enc,Tm.enc,List.cons_append,List.nil_append,Na,Ng]at cbal
  have hsn:Xe (evL (l.take (k+1)))=Xe (evL (l.take k))++[[iC xd,iC xc,iC xv,iC xn,iC xo,iC xtn,.sl 3 (XH xks),.sl 10 (Xe xa),.sl 10 (Xe xb),.sl 1 (Xg xbs)]]:=by
   rw[hsn0,X6P];simp
  clear hsn0 hlt h5 ih hmem hnm he hd hna hnb hX;refine X0<|X4<|X0<|X2 ?_;refine X1 ?_;refine(Q0 [1,5,7,9,10,11] (fun(z:Unit)=>[(8,.v (.one (.c (.lit XZ))))]) (fun(z:Unit)=>[(7,.box [.c (iC sd),.c (iC sc),.c (iC sv),.c (iC sn),.c (iC so),.c (iC stn),.c (.sl 3 (XH sks)),.c (.sl 10 (Xe sa)),.c (.sl 10 (Xe sb)),.c (.sl 1 (Xg sbs))]),(1005,.row 63 10 (Xe (evL (l.take k))))]) (fun(z:Unit)=>True) ?_ ?_)
  ·
   refine X0<|(Z6 [none] (by simp[*];first|exact⟨rfl,trivial⟩|exact⟨rfl,Iff.rfl⟩|rfl) ?_ ?_)
   .trivial
   refine(X9 rfl (fun h10=>?_) fun h10=>?_)
   .exact absurd h10 (by simp)
   (try simp only[BN]at h10);exact⟨(),trivial,X5 (fun n=>n) []⟩
  rintro _ _;simp only[upS,X7,Xy]
  try simp only[X7,KN,Nat.reduceBEq,Nd,Nb,ins,Nat.reduceLT]
  refine X0<|(Xv [⟨false,.v (.one (.own 37)),some (.row 63 10 (Xe (evL sa)))⟩,⟨false,.v (.one (.own 41)),some (.row 63 10 (Xe (evL sb)))⟩] (by kernel_rfl) (by kernel_rfl) (by rfl) (by simp[*];first|exact⟨rfl,Iff.rfl⟩|exact⟨rfl,trivial⟩|rfl) ?_ ?_)
  .first|exact trivial|exact trivial|(repeat' first|exact trivial|exact ca 37 (by decide)|exact cb 41 (by decide)|apply And.intro)
  refine X0<|X0<|X2 ?_;refine(X9 rfl (fun h16=>?_) fun h16=>?_)
  ·(try simp only[BN]at h16);refine(HT_runG 1 [(1000001,.row 63 10 (Xe (evL sa))),(1000002,.row 63 10 (Xe (evL sb)))] _ (fun n=>if n=1000001 then 37 else 41) _ [] [] rfl (by simp[*];rfl) trivial (by simp[*];rfl) (hand_mk (by simp[Ob.isRow]) (by simp)) (by simp) cbal (by simp) (by simp[*];rfl) trivial ?_);refine X2 ?_;refine X2 ?_;exact⟨k+1,hk1,by omega,X5 (fun n=>if n=1005 then 51 else n) []⟩
  exact absurd h16 (by simp)
 (try simp only[BN]at h5);have hkl:k=l.length:=by omega
 subst hkl;simp only[List.take_length];refine(Xj ?_);refine X1 ?_;exact Xr ⟨.inr rfl,_,X1M 4 1005 d rfl rfl hd0,⟨⟨_,by simp;rfl,by simp[Xp]⟩,by simp,fun h=>by cases h⟩⟩
end Go.Proofs.YtdccocolnaklkaaGreatDoor
