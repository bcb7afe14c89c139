/- Contracts of functions and plain facts about what they compute. Conditions: as each theorem states. -/
import Derived.Test.YtdajceakaakdoaaGreatB11
import Derived.Lib.SlicesCompact
import Derived.Shelf.Slices.CompactI
import Derived.Shelf.Sort.Plain
import Derived.Shelf.Slices.In.SortNone
import Derived.Test.YtdajceakaakdoaaGreatB2
import Derived.Test.YtdajceakaakdoaaGreatH7
set_option linter.unusedSimpArgs false
set_option linter.unusedVariables false
set_option linter.unnecessarySimpa false
set_option maxRecDepth 100000
set_option maxHeartbeats 2000000
namespace Go.Proofs.YtdajceakaakdoaaGreat
open Go Go.Hl
open Tryz(prog)
structure Sm (f:Fl):Prop where
 vars:f.vars.length<=1000
 hats:f.hats.length<=1000
 nodes:Xh f.body+Qu f.hats<=1000
 bnd:Z6 f.body=true
mutual
theorem szN_le:∀s:St,szN s<=2*szS s
 | .mk _ _ _ _ _ a b _=>by have:=X31 a;have:=X31 b;simp only[szN,szS];omega
theorem X31:∀l:List St,X0j l<=2*szL l
 |[]=>by simp[X0j]
 |s::l=>by have:=szN_le s;have:=X31 l;simp only[X0j,szL];omega
end
theorem Sm.sz {f:Fl} (h:Sm f):szL f.body<=1000:=Dx (X09 f.body) (by have:=h.nodes;omega)
theorem X0z {f:Fl} (h:Qa f=0):gL f.body=true:=X8l f.body true (W6 h).2.2.2.1
mutual
theorem wdS_le:∀s:St,wdS s<=2*szS s
 | .mk o _ _ _ _ a b _=>by have:=X4I a;have:=X4I b;simp only[wdS,szS];split<;>omega
theorem X4I:∀l:List St,wdL l<=2*szL l
 |[]=>by simp[wdL]
 |s::l=>by have:=wdS_le s;have:=X4I l;simp only[wdL,szL];omega
end
theorem X1a {l:List St} (h:gL l=true):(grN l).length=2+wdL l:=by
 simp only[grN,List.length_cons,N9,We l _ _ _ h,List.length_nil];omega
abbrev grC (l:List St):CD:=.sl 4 (Qx (grN l))
theorem X7o (f:Fl) (h:Sm f) (d:Nat):Con prog 63 false [aF f] (.tup [.agg [.c (if Qa f=0 then grC f.body else .lit XY)],li (Qa f)]) none d:=by
 have cc:=X1m f (by have:=h.vars;omega) (by have:=h.hats;omega) (by have:=h.nodes;omega) h.bnd;have cb:=X7b f (by have:=h.sz;have:=X31 f.body;omega);have hg:=@X0z f;have he:=Xbg f.body;obtain⟨vars,hats,body⟩:=f;simp only at he hg;obtain⟨C,hC⟩:∃x,Qa ⟨vars,hats,body⟩=x:=⟨_,rfl⟩;rw[hC]at cc hg⊢;refine X6 Tryz.func63 ?_;simp only[Tryz.f63];simp only[aF,Fl.enc,Ni,Nr]at cc cb⊢;refine X1 ?_;refine X0<|X0<|(Xo [⟨true,.v (li C),none⟩] ?_ ?_)
 .first|exact cc _|exact trivial|simpa[*]using cc _
 refine X1 ?_;refine(Xc rfl (fun h3=>?_) fun h3=>?_)
 ·(try simp only[BN]at h3);have hz:¬C=0:=by simpa using h3
  clear h3 he hg cb;refine X0<|(Xp (by simp[*,XO,QE,Q3,cellsOf,W2];rfl) ?_);exact Qe ⟨.inr rfl,_,le_refl _,⟨_,by simp;rfl,by simp[XL,hz,XY,li]⟩,by simp,fun h=>by cases h⟩
 (try simp only[BN]at h3);have hz:C=0:=by simpa using h3
 have he:=he (hg hz);rw[he]at cb;clear h3 he hg;refine X0<|(Wj [⟨false,.v (.agg [.c (.sl 4 (Qx (grN body)))]),none⟩] (by simp[*,cellsOf,W2];first|exact⟨rfl,Iff.rfl⟩|exact⟨rfl,trivial⟩|rfl) ?_ ?_)
 .first|exact cb _|exact trivial|simpa[*,cellsOf,W2]using cb _
 exact Qe ⟨.inr rfl,_,le_refl _,⟨_,by simp;rfl,by simp[XL,hz,li]⟩,by simp,fun h=>by cases h⟩
@[simp] theorem fsN:X4X prog 195=some [true,true,true,true]/\arrI prog 195=none:=by and_intros<;>kernel_rfl
theorem eqN_con (a:List Nd) (ha:a.length<=1000000000) (d:Nat):Con prog 190 true [.one (.c (.sl 4 (Qx a))),.one (.c (.sl 4 (Qx a)))] (.v (lb true)) none d:=by
 refine X6 Tryz.func190 ?_;simp only[Tryz.f190];refine X1 ?_;refine X0<|X0<|X2 ?_;refine(Xc rfl (fun h2=>?_) fun h2=>?_)
 .cases h2
 (try simp only[BN]at h2);refine X0<|X0<|X2 ?_;refine X3<|(Xd [0,1,12] (fun(z:Nat)=>[(13,.v (li z))]) (fun z=>[]) (fun z=>z<=a.length) (fun z=>a.length - z) (0:Nat) (Nq _) ?_ ?_)
 .exact X4 (fun n=>n) []
 rintro k hk;simp only[upS,X5,Xy]
 try simp only[X5,KN,Nat.reduceBEq,Nf,Nc,ins,Nat.reduceLT]
 refine X1 ?_;refine X0<|(X8 rfl (fun h8=>Xb ?_) (fun h8=>?_))
 ·(try simp only[BN]at h8);have hlt:k<a.length:=by omega
  obtain⟨x,he,_⟩:=Xu hlt;have hw1:=XE hlt (by omega);have hk1:k+1<=a.length:=hlt;have he':=X3D he;simp only[Nd.enc]at he';clear hlt h8 he;refine X0<|X3<|X0<|X2 ?_;refine X0<|(N0 ?_);refine(Xc rfl (fun h11=>?_) fun h11=>?_)
  .cases h11
  (try simp only[BN]at h11);refine X2 ?_;exact⟨k+1,hk1,by omega,X4 (fun n=>n) []⟩
 (try simp only[BN]at h8);refine(Xg ?_);refine X1 ?_;exact Xf
theorem X89 (f:Fl) (h:Sm f) (h0:Qa f=0) (d:Nat):Con prog 120 true [aF f,.agg [.c (grC f.body)]] (.v (li 0)) none d:=by
 have cc:=X1m f (by have:=h.vars;omega) (by have:=h.hats;omega) (by have:=h.nodes;omega) h.bnd;have cb:=X7b f (by have:=h.sz;have:=X31 f.body;omega);rw[Xbg f.body (X0z h0)]at cb;have hlen:=X1a (X0z h0);have ce:=eqN_con (grN f.body) (by have:=h.sz;have:=X4I f.body;omega);obtain⟨vars,hats,body⟩:=f;rw[h0]at cc;clear h h0 hlen;simp only at ce cb;refine X6 Tryz.func120 ?_;simp only[Tryz.f120];simp only[aF,Fl.enc,Ni,Nr]at cc cb⊢;refine X1 ?_;refine X0<|X0<|(Xo [⟨true,.v (li 0),none⟩] ?_ ?_)
 .first|exact cc _|exact trivial|simpa[*]using cc _
 refine X1 ?_;refine(Xc rfl (fun h3=>?_) fun h3=>?_)
 .exact Bool.noConfusion h3
 (try simp only[BN]at h3);refine X0<|X0<|(QC [⟨false,.v (.agg [.c (.sl 4 (Qx (grN body)))]),none⟩,⟨true,.v (lb true),none⟩] (by kernel_rfl) (by kernel_rfl) (by rfl) (by simp[*];first|exact⟨rfl,Iff.rfl⟩|exact⟨rfl,trivial⟩|rfl) ?_ ?_)
 .first|exact⟨cb _,ce _⟩|exact trivial|(repeat' first|exact trivial|exact cb _|exact ce _|apply And.intro)
 refine(Xc rfl (fun h7=>?_) fun h7=>?_)
 .exact Bool.noConfusion h7
 (try simp only[BN]at h7);refine X1 ?_;exact Xf
mutual
def flS:St->List St
 | .mk d c v n t a b bs=>.mk d c v n t a b bs::(flL a++flL b)
def flL:List St->List St
 |[]=>[]
 |s::l=>flS s++flL l
end
theorem Xac (s:St):flS s=s::(flL s.then_++flL s.else_):=by cases s;rfl
mutual
theorem Xb6:∀s:St,(flS s).length=szS s
 | .mk _ _ _ _ _ a b _=>by simp only[flS,szS,List.length_cons,N9,Q6 a,Q6 b];omega
theorem Q6:∀l:List St,(flL l).length=szL l
 |[]=>rfl
 |s::l=>by simp only[flL,szL,N9,Xb6 s,Q6 l]
end
theorem QD (a b:List St):X7 (a++b)=X7 a++X7 b:=by rw[WP,WP,WP,Dr]
theorem X8R (l:List St):szL l<=1000->∀d:Nat,Con prog 121 false [lS l] (.v (lS (flL l))) none d:=by
 revert l
 apply St.lists;intro l ih hn d;have hlen:=X2Y l;obtain⟨res,hres⟩:∃r,flL l=r:=⟨_,rfl⟩;rw[hres];refine X6 Tryz.func121 ?_;simp only[Tryz.f121];refine X0<|(Xp (by simp[*,QD,X7];rfl) ?_);refine X0<|(Xp (by simp[*,QD,X7];rfl) ?_);refine X0<|X0<|(Xp (by simp[*,QD,X7];rfl) ?_);refine X3<|(Xd [6,7] (fun(x:Nat×List St)=>[(3,.v (.one (.own 1003))),(8,.v (li x.1))]) (fun x=>[(1003,.row 70 10 (X7 x.2))]) (fun x=>x.1<=l.length/\x.2++flL (l.drop x.1)=res/\x.2.length+szL (l.drop x.1)<=1000) (fun x=>l.length - x.1) (0,[]) ⟨Nq _,by simpa using hres,by simpa using hn⟩ ?_ ?_)
 .exact Xl (fun n=>n) [1003] rfl (by simp[*,upS,X5,QD,X7]) (by simp[*,upS]) (by simp[upS])
 rintro⟨k,acc⟩ ⟨hk,hJ,hal⟩;simp only[upS,X5,Xy]
 try simp only[X5,KN,Nat.reduceBEq,Nf,Nc,ins,Nat.reduceLT]
 simp only at hk hJ hal;clear hres;refine X0<|(Xp (by simp[*,QD,X7];rfl) ?_);refine X0<|(X8 rfl (fun h5=>Xb ?_) (fun h5=>?_))
 ·(try simp only[BN]at h5);have hlt:k<l.length:=by omega
  obtain⟨s,he,hd⟩:=Xu hlt;have hw1:=XE hlt (by omega);have hk1:k+1<=l.length:=hlt;have hmem:s∈l:=N3 he;rw[hd]at hJ hal;simp only[flL,Xac]at hJ;simp only[szL]at hal;have he':=Q2 he;have iha:=(ih s hmem).1;have ihb:=(ih s hmem).2;obtain⟨so,sc,sv,sn,⟨tq,tn,tk⟩,sa,sb,sbs⟩:=s;simp only[St.then_,St.else_]at iha ihb hJ;simp only[szS]at hal;have iha:=iha (by omega);have ihb:=ihb (by omega);have la:=Q6 sa;have lb:=Q6 sb;obtain⟨A,hA⟩:∃x,flL sa=x:=⟨_,rfl⟩;obtain⟨B,hB⟩:∃x,flL sb=x:=⟨_,rfl⟩;rw[hA]at iha hJ la;rw[hB]at ihb hJ lb;have r1:W4 (acc.length+1) 144:=XX (by omega) (by decide);have r2:W4 (acc.length+1+A.length) 144:=XX (by omega) (by decide);have r3:W4 (acc.length+(A.length+1)+B.length) 144:=XX (by omega) (by decide);rw[la]at r2 r3;rw[lb]at r3;simp only[St.enc,Tm.enc,List.cons_append,List.nil_append]at he';clear hlt h5 ih hmem he hd hA hB;refine X0<|X3<|X0<|(Xp (by simp[*,QD,X7];rfl) ?_);refine X0<|(Xp (by simp[*,QD,X7,XO,QE,Q3];rfl) ?_);refine X0<|(Wj [⟨false,.v (lS A),none⟩] (by simp[*,QD,X7];first|exact⟨rfl,Iff.rfl⟩|exact⟨rfl,trivial⟩|rfl) ?_ ?_)
  .first|exact iha _|exact trivial|simpa[*,QD,X7]using iha _
  refine(Wj [⟨false,.v (lS B),none⟩] (by simp[*,QD,X7];first|exact⟨rfl,Iff.rfl⟩|exact⟨rfl,trivial⟩|rfl) ?_ ?_)
  .first|exact ihb _|exact trivial|simpa[*,QD,X7]using ihb _
  refine(Xp (by simp[*,QD,X7];rfl) ?_);exact⟨(k+1,acc++(.mk so sc sv sn (.mk tq tn tk) sa sb sbs::(A++B))),⟨hk1,by simpa using hJ,by simp only[N9,List.length_cons];omega⟩,by simp only;omega,Xl (fun n=>if n=1003 then 25 else n) [] rfl (by simp[upS,X5, *,QD,X7]) (by simp[*,upS,QD,X7]) (by simp[upS])⟩
 (try simp only[BN]at h5);have hkl:k=l.length:=by omega
 subst hkl;simp only[Nt,flL,Dq]at hJ;subst hJ;clear h5 ih;refine(Xg ?_);refine XB (Qs 1003 rfl) ?_;refine X0<|(Xp (by simp[*,QD,X7];rfl) ?_);exact Qe ⟨.inr rfl,_,le_refl _,⟨⟨_,by simp;rfl,by simp[XL]⟩,by simp,fun h=>by cases h⟩⟩
def Qr (steps:List St) (d:Nat):Int:=match steps[d]? with
 |some s=>s.var
 |none=>(d:Int) - steps.length
def QJ (l:List Nat):List (List CD):=l.map fun d:Nat=>[iC d]
@[simp] theorem len_encD (l:List Nat):(QJ l).length=l.length:=by simp[QJ]
@[simp] theorem X5P (a b:List Nat):QJ (a++b)=QJ a++QJ b:=by simp[QJ]
@[simp] theorem encD_nil:QJ []=[]:=rfl
@[simp] theorem encD_one (a:Nat):QJ [a]=[[iC a]]:=rfl
def mpI (l:List Nat):List (Value×CD):=l.map fun d:Nat=>(.int .i64 d,bC true)
@[simp] theorem Xbm (l:List Nat):(mpI l).length=l.length:=by simp[mpI]
theorem XbH {l:List Nat} {j:Nat} {k:Value} {v:CD} (h:(mpI l)[j]? =some (k,v)):∃d:Nat,l[j]? =some d/\k=.int .i64 d/\v=bC true:=by
 simp only[mpI,Np,N8]at h;obtain⟨d,hd,he⟩:=h;cases he;exact⟨d,hd,rfl,rfl⟩
def setsC (S:List (List Nat)):CD:=.sl 1 (S.map fun l=>[.mp (mpI l)])
theorem varOf_lt {steps:List St} {d:Nat} (s:St) (h:steps[d]? =some s):Qr steps d=s.var:=by simp[Qr,h]
theorem varOf_ge {steps:List St} {d:Nat} (h:steps.length<=d):Qr steps d=(d:Int) - steps.length:=by simp[Qr,Nx h]
theorem X7S (steps:List St) (n:Nat) (hn:n<=1000000) (hl:steps.length<=1000000) (d:Nat):Con prog 122 true [li n,.one (.c (.ptr [.sl 10 (X7 steps)]))] (.v (li (Qr steps n))) none d:=by
 obtain⟨res,hres⟩:∃x,Qr steps n=x:=⟨_,rfl⟩;rw[hres];refine X6 Tryz.func122 ?_;simp only[Tryz.f122];refine X1 ?_;refine X0<|X0<|X2 ?_;refine(Xc rfl (fun h2=>?_) fun h2=>?_)
 ·(try simp only[BN]at h2);have hge:steps.length<=n:=by simpa using h2
  rw[varOf_ge hge]at hres;have hw:IntKind.i64.wrap ((n:Int) - steps.length)=(n:Int) - steps.length:=X9;clear h2;refine X1 ?_;exact Xf
 (try simp only[BN]at h2);have hlt:n<steps.length:=by simpa using h2
 obtain⟨s,he,_⟩:=Xu hlt;have he':=Q2 he;rw[varOf_lt s he]at hres;obtain⟨so,sc,sv,sn,⟨tq,tn,tk⟩,sa,sb,sbs⟩:=s;simp only[St.enc,Tm.enc,List.cons_append,List.nil_append]at he';simp only[St.var]at hres;clear h2 he hlt;refine X1 ?_;exact Xf
def W3 (steps:List St) (x:Nd):Bool:=decide (x.k=2)&&(match steps[x.a.toNat]? with
 |some s=>decide (s.do_=0)||decide (s.do_=5)
 |none=>false)
def Zt (steps:List St) (x:Nd):Int:=match steps[x.a.toNat]? with
 |some s=>s.var
 |none=>0
def X6s (steps:List St) (nv:Nat) (Si:List Nat) (x:Nd):List Nat:=
 if x.k=0 then(List.range nv).map fun v=>steps.length+v
 else Si.filter (fun d=> !W3 steps x||decide (Qr steps d≠Zt steps x))++if W3 steps x=true then [x.a.toNat] else []
def aftΦ (steps:List St) (nv:Nat) (Si:List Nat) (x:Nd) (l:List Nat):Prop:=(∀d,d∈l↔d∈X6s steps nv Si x)/\l.length<=5000
theorem Wz {seen:List Nat} {n:Nat} (h:seen.Nodup) (hl:∀j∈seen,j<n):seen.length<=n:=by
 induction n generalizing seen with
 | zero=>
   cases seen with
   |nil=>simp
   |cons x l=>exact absurd (hl x (by simp)) (by omega)
 | succ n ih=>
   have h1:=ih (h.erase n) fun j hj=>by
    have h2:=(h.mem_erase_iff).1 hj;have:=hl j h2.2;omega
   have:=List.length_erase_of_mem (a:=n) (l:=seen);by_cases hm:n∈seen
   .rw[this hm]at h1;omega
   rw[List.erase_of_not_mem hm]at h1;omega
abbrev kC (steps:List St):CD:=.fn 122 [.ptr [.sl 10 (X7 steps)]]
theorem out_all {Si seen out:List Nat} {p:Nat->Bool} (hall:∀j:Nat,j<(mpI Si).length->j∈seen) (h:∀d,d∈out↔∃j∈seen,Si[j]? =some d/\p d=true) (d:Nat):d∈out↔d∈Si.filter p:=by
 rw[h,NR];constructor
 .rintro⟨j,_,h1,h2⟩;exact⟨N3 h1,h2⟩
 rintro⟨h1,h2⟩;obtain⟨j,hj⟩:=NL.1 h1;exact⟨j,hall j (by rw[Xbm];exact(N5.1 hj).1),hj,h2⟩
theorem X4r (l:List Nat):(Ob.row 3 1 (QJ l)).lits:=by
 intro r hr c hc;simp only[QJ,NF]at hr;obtain⟨_,_,rfl⟩:=hr;rw[Nk.1 hc];exact⟨_,rfl⟩
def X3z (l:List Nat) (n:Nat):Prop:=∀j∈l,j<n
set_option maxHeartbeats 4000000 in
theorem Xcp (f:Fl) (N:List Nd) (steps:List St) (S:List (List Nat)) (i:Nat) (x:Nd) (Si:List Nat) (hx:N[i]? =some x) (hS:S[i]? =some Si) (hs:steps.length<=1000) (hv:f.vars.length<=1000) (hSi:Si.length<=2000) (hSb:∀d∈Si,d<=1000000) (ha:(x.k≠2/\x.a=-1)\/∃m:Nat,x.a=m/\m<steps.length) (dd:Nat) (hdd:dd<1000000):
  ConF (X:=List Nat) prog 123 true [li i,.one (.c (.ptr [.sl 4 (Qx N)])),.one (.c (.ptr f.enc)),.one (.c (.ptr [.sl 10 (X7 steps)])),.one (.c (.ptr [setsC S])),.one (.c (.ptr [kC steps]))] (aftΦ steps f.vars.length Si x) (fun _=>.v (.one (.own dd))) (fun l=>some (.row 3 1 (QJ l))) dd:=by
 have hx':=X3D hx;have hSr:(S.map fun l=>[CD.mp (mpI l)])[i]? =some [CD.mp (mpI Si)]:=by simp[hS]
 obtain⟨vars,hats,body⟩:=f;obtain⟨xk,xa,xn,xo⟩:=x;simp only at hv;simp only[Nd.enc]at hx';clear hx hS;refine X9W Tryz.func123 rfl (by kernel_rfl) (NH rfl) ?_;simp only[Tryz.f123];simp only[Fl.enc,setsC];refine X1 ?_;refine X1 ?_;refine X1 ?_;refine X0<|X0<|X2 ?_;refine(Xc rfl (fun h4=>?_) fun h4=>?_)
 ·(try simp only[BN]at h4);have hk:xk=0:=by simpa using h4
  clear h4 ha;refine X0<|X0<|X2 ?_;refine X3<|(Xd [3,23] (fun(y:Nat)=>[(9,.v (.one (.own 900001))),(24,.v (li y))]) (fun y=>[(900001,.row 3 1 (QJ ((List.range y).map fun v=>steps.length+v)))]) (fun y=>y<=vars.length) (fun y=>vars.length - y) (0:Nat) (Nq _) ?_ ?_)
  .exact X4 (fun n=>n) [900001]
  rintro y hy;simp only[upS,X5,Xy]
  try simp only[X5,KN,Nat.reduceBEq,Nf,Nc,ins,Nat.reduceLT]
  refine X1 ?_;refine X0<|(X8 rfl (fun h8=>Xb ?_) (fun h8=>?_))
  ·(try simp only[BN]at h8);have hlt:y<vars.length:=by omega
   have hw1:=XE hlt (by omega);have hk1:y+1<=vars.length:=hlt;have hw2:IntKind.i64.wrap ((steps.length:Int)+y)=steps.length+y:=X9;have hroom:W4 (y+1) 8:=XX (by omega) (by decide)
   have hsn:QJ ((List.range (y+1)).map fun v=>steps.length+v)=QJ ((List.range y).map fun v=>steps.length+v)++[[iC ((steps.length:Int)+y)]]:=by
    rw[List.range_succ,Dr,X5P];simp
   clear hlt h8 hx' hSr;refine X0<|X3<|X0<|X2 ?_;refine X2 ?_;refine X2 ?_;exact⟨y+1,hk1,by omega,X4 (fun n=>if n=900001 then 33 else n) []⟩
  (try simp only[BN]at h8);have hkl:y=vars.length:=by omega
  subst hkl;refine(Xg ?_);refine X1 ?_;exact Qe ⟨.inr rfl,(List.range vars.length).map fun v=>steps.length+v,⟨fun d=>by simp only[X6s,Na hk],by simp;omega⟩,_,X2b 7 900001 dd (by simp) rfl hdd,⟨⟨_,by simp;rfl,by simp[XL]⟩,by simp,fun _=>⟨rfl,fun o ho=>by cases ho;exact X4r _⟩⟩⟩
 (try simp only[BN]at h4);have hk:¬xk=0:=by simpa using h4
 clear h4;refine XM [0,3,4,5,8,9] (fun(z:Bool)=>[(11,.v (lb z))]) (fun(z:Bool)=>[(8,.box [.c (iC xk),.c (iC xa),.c (iC xn),.c (iC xo)])]) (fun(z:Bool)=>z=W3 steps ⟨xk,xa,xn,xo⟩) ?_ ?_
 .rcases ha with⟨h2,rfl⟩|⟨m,rfl,hm⟩
  .simp only at h2;refine Xw ?_;refine RunsN.cutE 7 [] (by simp[*];rfl) trivial (le_refl _) ?_;refine RunsN.skip (.bool false) (by simp[Zi]) (by rfl) ?_;refine RunsN.skip (.bool false) (by simp[Zi]) (by rfl) ?_;refine RunsN.skip (.bool false) (by simp[Zi]) (by rfl) ?_;refine RunsN.skip (.bool false) (by simp[Zi]) (by rfl) ?_;refine RunsN.skip (.bool false) (by simp[Zi]) (by rfl) ?_;refine RunsN.cutE 3 [] (by simp[*];rfl) trivial (le_refl _) ?_;refine RunsN.skip (.bool false) (by simp[Zi]) (by rfl) ?_;refine RunsN.skip (.bool false) (by simp[Zi]) (by rfl) ?_;refine RunsN.skip (.bool false) (by simp[Zi]) (by rfl) ?_;refine RunsN.skip (.bool false) (by simp[Zi]) (by rfl) ?_;refine RunsN.doneE [] (by simp[*];rfl) trivial ?_;refine⟨_,rfl,Xl (fun n=>n) [] rfl (by simp[upS,X5,W3,h2]) (by simp[upS]) (by simp[upS])⟩
  obtain⟨q,he,_⟩:=Xu hm;have he':=Q2 he;obtain⟨so,sc,sv,sn,⟨tq,tn,tk⟩,sa,sb,sbs⟩:=q;simp only[St.enc,Tm.enc,List.cons_append,List.nil_append]at he';clear hm;by_cases h2:xk=2
  .refine Xp (by simp[*];rfl) ?_;refine⟨_,rfl,Xl (fun n=>n) [] rfl (by simp[upS,X5,W3,h2,he,St.do_]<;>rfl) (by simp[upS,h2]) (by simp[upS])⟩
  refine Xp (by simp[*];rfl) ?_;refine⟨_,rfl,Xl (fun n=>n) [] rfl (by simp[upS,X5,W3,h2]) (by simp[upS]) (by simp[upS])⟩
 rintro z hz;simp only[upS,X5,Xy]
 try simp only[X5,KN,Nat.reduceBEq,Nf,Nc,ins,Nat.reduceLT]
 have hz2:(xa=-1/\z=false)\/∃(m:Nat) (o c v n t1 t2:Int) (tk:List Tm) (sa sb:List St) (sbs:List Int),xa=m/\(X7 steps)[m]? =some [iC o,iC c,iC v,iC n,iC t1,iC t2,.sl 3 (XA tk),.sl 10 (X7 sa),.sl 10 (X7 sb),.sl 1 (Xi sbs)]/\Zt steps ⟨xk,xa,xn,xo⟩=v:=by
  rcases ha with⟨h2,rfl⟩|⟨m,rfl,hm⟩
  .refine .inl ⟨rfl,?_⟩;simp only at h2;rw[hz];simp[W3,h2]
  obtain⟨q,he,_⟩:=Xu hm;have he':=Q2 he;obtain⟨so,sc,sv,sn,⟨tq,tn,tk⟩,sa,sb,sbs⟩:=q;exact .inr ⟨m,so,sc,sv,sn,tq,tn,tk,sa,sb,sbs,rfl,he',by simp[Zt,he,St.var]⟩
 obtain⟨V,hV⟩:∃x,Zt steps ⟨xk,xa,xn,xo⟩=x:=⟨_,rfl⟩
 have haft:∀d,d∈X6s steps vars.length Si ⟨xk,xa,xn,xo⟩↔d∈Si.filter (fun d=> !z||decide (Qr steps d≠V))++if z=true then [xa.toNat] else []:=by
  intro d;simp only[X6s,N7 hk,<-hz,hV]
 rw[hV]at hz2;clear hz hV ha;refine X0<|X0<|X2 ?_;refine X3<|(Xd [3,5,8,11,61] (fun(y:List Nat×List Nat)=>[(9,.v (.one (.own 900001)))]) (fun y=>[(8,.box [.c (iC xk),.c (iC xa),.c (iC xn),.c (iC xo)]),(61,.it (mpI Si) y.1),(900001,.row 3 1 (QJ y.2))]) (fun y=>y.1.Nodup/\X3z y.1 Si.length/\(∀d,d∈y.2↔∃j∈y.1,Si[j]? =some d/\(!z||decide (Qr steps d≠V))=true)/\y.2.length<=y.1.length) (fun y=>Si.length - y.1.length) ([],[]) ⟨List.nodup_nil,by simp[X3z],by simp,NK _⟩ ?_ ?_)
 .exact X4 (fun n=>n) [900001]
 rintro⟨seen,out⟩ ⟨j1,j2,j3,j4⟩;simp only[upS,X5,Xy]
 try simp only[X5,KN,Nat.reduceBEq,Nf,Nc,ins,Nat.reduceLT]
 simp only at j1 j2 j3 j4;refine X6o (fun j k v hj hn=>?_) (fun hall=>?_)
 skip
 ·(try simp only[BN]at h19);obtain⟨d,hd,rfl,rfl⟩:=XbH hj;have hjl:j<Si.length:=(N5.1 hd).1
  have hnd:(seen++[j]).Nodup:=by
   rw[List.nodup_append];exact⟨j1,by simp,fun a ha b hb=>by rw[Nk.1 hb];exact fun e=>hn (e▸ha)⟩
  have hin:X3z (seen++[j]) Si.length:=fun i hi=>by
   rcases Ng.1 hi with h|h
   .exact j2 i h
   rw[Nk.1 h];exact hjl
  have hle:=Wz hnd hin;simp only[N9,List.length_singleton]at hle;have hroom:W4 (out.length+1) 8:=XX (by omega) (by decide);have hdb:=hSb d (N3 hd);clear hjl;have cv:=X7S steps d hdb (by omega);refine X3<|X0<|X2 ?_;refine XM [3,5,8,9,11,12,61] (fun(q:Bool)=>[(79,.v (lb q))]) (fun(q:Bool)=>[(8,.box [.c (iC xk),.c (iC xa),.c (iC xn),.c (iC xo)]),(61,.it (mpI Si) (seen++[j])),(900001,.row 3 1 (QJ out))]) (fun(q:Bool)=>q=(!z||decide (Qr steps d≠V))) ?_ ?_
  .rcases hz2 with⟨rfl,rfl⟩|⟨m,po,pc,pv,pn,p1,p2,pk,pa,pb,pbs,rfl,he',rfl⟩
   .refine X0Z [none] (by kernel_rfl) (by kernel_rfl) (by rfl) (by simp[*];first|exact⟨rfl,Iff.rfl⟩|exact⟨rfl,trivial⟩|rfl) ?_ ?_
    .trivial
    exact⟨_,rfl,Xl (fun n=>n) [] rfl (by simp[upS,X5]) (by simp[upS]) (by simp[upS])⟩
   cases z with
   | false=>
     refine X0Z [none] (by kernel_rfl) (by kernel_rfl) (by rfl) (by simp[*];first|exact⟨rfl,Iff.rfl⟩|exact⟨rfl,trivial⟩|rfl) ?_ ?_
     .trivial
     exact⟨_,rfl,Xl (fun n=>n) [] rfl (by simp[upS,X5]) (by simp[upS]) (by simp[upS])⟩
   | true=>
     refine QC [⟨true,.v (li (Qr steps d)),none⟩] (by kernel_rfl) (by kernel_rfl) (by rfl) (by simp[*];first|exact⟨rfl,Iff.rfl⟩|exact⟨rfl,trivial⟩|rfl) ?_ ?_
     .first|exact cv _|simpa using cv _
     exact⟨_,rfl,Xl (fun n=>n) [] rfl (by simp[upS,X5]) (by simp[upS]) (by simp[upS])⟩
  rintro q hq;simp only[upS,X5,Xy]
  try simp only[X5,KN,Nat.reduceBEq,Nf,Nc,ins,Nat.reduceLT]
  refine(Xc rfl (fun h22=>?_) fun h22=>?_)
  ·(try simp only[BN]at h22);have hp:(!z||decide (Qr steps d≠V))=true:=by rw[<-hq];simpa using h22
   have hmem:∀x,x∈out++[d]↔∃i∈seen++[j],Si[i]? =some x/\(!z||decide (Qr steps x≠V))=true:=by
    intro x;rw[Ng,j3,Nk];constructor
    .rintro(⟨i,h1,h2⟩|rfl)
     .exact⟨i,List.mem_append_left _ h1,h2⟩
     exact⟨j,by simp,hd,hp⟩
    rintro⟨i,h1,h2,h3⟩;rcases Ng.1 h1 with h1|h1
    .exact .inl ⟨i,h1,h2,h3⟩
    rw[Nk.1 h1,hd]at h2;exact .inr (Option.some.inj h2).symm
   refine X2 ?_;exact⟨(seen++[j],out++[d]),⟨hnd,hin,hmem,by simp only[N9,List.length_singleton];omega⟩,by simp only[N9,List.length_singleton];omega,X4 (fun n=>if n=900001 then 83 else n) []⟩
  (try simp only[BN]at h22);have hp:(!z||decide (Qr steps d≠V))=false:=by rw[<-hq];simpa using h22
  have hmem:∀x,x∈out↔∃i∈seen++[j],Si[i]? =some x/\(!z||decide (Qr steps x≠V))=true:=by
   intro x;rw[j3];constructor
   .rintro⟨i,h1,h2⟩;exact⟨i,List.mem_append_left _ h1,h2⟩
   rintro⟨i,h1,h2,h3⟩;rcases Ng.1 h1 with h1|h1
   .exact⟨i,h1,h2,h3⟩
   rw[Nk.1 h1,hd]at h2;rw[<-Option.some.inj h2,hp]at h3;cases h3
  exact⟨(seen++[j],out),⟨hnd,hin,hmem,by simp only[N9,List.length_singleton];omega⟩,by simp only[N9,List.length_singleton];omega,X4 (fun n=>n) []⟩
 (try simp only[BN]at h19);have hout:=out_all hall j3;have hle:=Wz j1 j2;have hroom:W4 (out.length+1) 8:=XX (by omega) (by decide);clear hall j1 j2 j3;refine(Xg ?_);refine X0<|X0<|X2 ?_;refine(Xc rfl (fun h27=>?_) fun h27=>?_)
 ·(try simp only[BN]at h27);have hz':z=true:=by simpa using h27
  subst hz';obtain⟨m,po,pc,pv,pn,p1,p2,pk,pa,pb,pbs,rfl,_,_⟩:=hz2.resolve_left fun e=>Bool.noConfusion e.2;clear hz2;refine X2 ?_;refine X1 ?_;exact Qe ⟨.inr rfl,out++[m],⟨fun d=>by rw[haft,Ng,Ng,hout];simp,by simp;omega⟩,_,X2b (e:=3) (sz:=1) (rows:=QJ (out++[m])) 7 89 dd (by simp) (by simp[X5P]) hdd,⟨⟨_,by simp;rfl,by simp[XL]⟩,by simp[X5P],fun _=>⟨rfl,fun o ho=>by cases ho;exact X4r _⟩⟩⟩
 (try simp only[BN]at h27);have hz':z=false:=by simpa using h27
 subst hz';clear hz2;refine X1 ?_;exact Qe ⟨.inr rfl,out,⟨fun d=>by rw[haft,hout];simp,by omega⟩,_,X2b 7 900001 dd (by simp) rfl hdd,⟨⟨_,by simp;rfl,by simp[XL]⟩,by simp,fun _=>⟨rfl,fun o ho=>by cases ho;exact X4r _⟩⟩⟩
def WW (x:Nd) (tq:Nat):Prop:=x.n=tq\/x.o=tq
instance (x:Nd) (tq:Nat):Decidable (WW x tq):=by unfold WW;exact inferInstance
inductive Rc (N:List Nd) (steps:List St) (nv:Nat):Nat->Nat->Prop
 |entry {i tq v:Nat} {x:Nd}:N[i]? =some x->x.k=0->WW x tq->v<nv->Rc N steps nv tq (steps.length+v)
 |pass {i tq d:Nat} {x:Nd}:N[i]? =some x->x.k≠0->WW x tq->Rc N steps nv i d->(!W3 steps x||decide (Qr steps d≠Zt steps x))=true->Rc N steps nv tq d
 |gen {i tq:Nat} {x:Nd}:N[i]? =some x->x.k≠0->WW x tq->W3 steps x=true->Rc N steps nv tq x.a.toNat
open Classical in
noncomputable def rcL (N:List Nd) (steps:List St) (nv:Nat):List (List Nat):=(List.range N.length).map fun tq=>(List.range (steps.length+nv)).filter fun d=>decide (Rc N steps nv tq d)
structure Gs (N:List Nd) (steps:List St) (nv:Nat) (S:List (List Nat)):Prop where
 len:S.length=N.length
 nod:∀l∈S,l.Nodup
 lt:∀l∈S,∀d∈l,d<steps.length+nv
 snd:∀(tq:Nat) l d,S[tq]? =some l->d∈l->Rc N steps nv tq d
def clo (N:List Nd) (steps:List St) (nv:Nat) (S:List (List Nat)) (i:Nat):Prop:=
 ∀x Si,N[i]? =some x->S[i]? =some Si->∀d∈X6s steps nv Si x,∀tq l,WW x tq->S[tq]? =some l->d∈l
theorem aft_rc {N:List Nd} {steps:List St} {nv i:Nat} {S:List (List Nat)} {x:Nd} {Si:List Nat} (g:Gs N steps nv S) (hx:N[i]? =some x) (hS:S[i]? =some Si) {d:Nat} (hd:d∈X6s steps nv Si x) {tq:Nat} (ht:WW x tq):Rc N steps nv tq d:=by
 unfold X6s at hd;split at hd
 .rename_i h0;obtain⟨v,hv,rfl⟩:=NF.1 hd;exact .entry hx h0 ht (by simpa using hv)
 rename_i h0;rcases Ng.1 hd with h|h
 .obtain⟨h1,h2⟩:=NR.1 h;exact .pass hx h0 ht (g.snd i Si d hS h1) h2
 split at h
 .rename_i ha;rw[Nk.1 h];exact .gen hx h0 ht ha
 cases h
theorem rc_lt {N:List Nd} {steps:List St} {nv:Nat} {tq d:Nat} (ha:∀x∈N,W3 steps x=true->x.a.toNat<steps.length) (h:Rc N steps nv tq d):d<steps.length+nv:=by
 induction h with
 |entry _ _ _ hv=>omega
 |pass _ _ _ _ _ ih=>exact ih
 |gen hx _ _ h=>have:=ha _ (N3 hx) h;omega
theorem clo_rc {N:List Nd} {steps:List St} {nv:Nat} {S:List (List Nat)} (g:Gs N steps nv S) (hc:∀i,i<N.length->clo N steps nv S i) {tq d:Nat} {l:List Nat} (hl:S[tq]? =some l) (h:Rc N steps nv tq d):d∈l:=by
 induction h generalizing l with
 | entry hx h0 ht hv=>
   rename_i i tq v x;have hi:=(N5.1 hx).1;obtain⟨Si,hS,_⟩:=Xu (show i<S.length by rw[g.len];exact hi);refine hc i hi x Si hx hS _ ?_ tq l ht hl;unfold X6s;rw[Na h0];exact NF.2 ⟨v,by simpa using hv,rfl⟩
 | pass hx h0 ht _ hk ih=>
   rename_i i tq d x _;have hi:=(N5.1 hx).1;obtain⟨Si,hS,_⟩:=Xu (show i<S.length by rw[g.len];exact hi);refine hc i hi x Si hx hS _ ?_ tq l ht hl;unfold X6s;rw[N7 h0];exact List.mem_append_left _ (NR.2 ⟨ih hS,hk⟩)
 | gen hx h0 ht h=>
   rename_i i tq x;have hi:=(N5.1 hx).1;obtain⟨Si,hS,_⟩:=Xu (show i<S.length by rw[g.len];exact hi);refine hc i hi x Si hx hS _ ?_ tq l ht hl;unfold X6s;rw[N7 h0,Na h];simp
def srtN (l:List Nat):List Int:=(l.map Int.ofNat).mergeSort fun x y=>decide (x<=y)
theorem X5g:∀{l m:List Nat},l.Pairwise (· < ·)->m.Pairwise (· < ·)->(∀x,x∈l↔x∈m)->l=m
 |[],[],_,_,_=>rfl
 |[],b::m,_,_,h=>absurd ((h b).2 (by simp)) (by simp)
 |a::l,[],_,_,h=>absurd ((h a).1 (by simp)) (by simp)
 | a ::l,b::m,hl,hm,h=>by
   rw[NQ]at hl hm
   have hab:a=b:=by
    rcases Nh.1 ((h a).1 (by simp))with e|e
    .exact e
    rcases Nh.1 ((h b).2 (by simp))with e2|e2
    .exact e2.symm
    have:=hm.1 a e;have:=hl.1 b e2;omega
   subst hab;congr 1;refine X5g hl.2 hm.2 fun x=>?_;constructor
   .intro hx;rcases Nh.1 ((h x).1 (by simp[hx]))with e|e
    .subst e;exact absurd (hl.1 x hx) (Dz _)
    exact e
   intro hx;rcases Nh.1 ((h x).2 (by simp[hx]))with e|e
   .subst e;exact absurd (hm.1 x hx) (Dz _)
   exact e
theorem Xco (n:Nat):(List.range n).Pairwise (· < ·):=List.pairwise_lt_range
theorem srt_eq {l:List Nat} {n:Nat} (hn:l.Nodup) {p:Nat->Bool} (h:∀x,x∈l↔x<n/\p x=true):Xi (srtN l)=QJ ((List.range n).filter p):=by
 have h2:(l.mergeSort fun x y=>decide (x<=y))=(List.range n).filter p:=by
  refine X5g ?_ ((Xco n).filter _) fun x=>by rw[List.mem_mergeSort,h];simp
  have h3:=List.pairwise_mergeSort (le:=fun x y:Nat=>decide (x<=y)) (fun a b c h1 h2=>by simp at*;omega) (fun a b=>by simp;omega) l;have h4:(l.mergeSort fun x y=>decide (x<=y)).Nodup:=(List.mergeSort_perm l _).nodup_iff.2 hn;refine(List.pairwise_and_iff.2 ⟨h3,h4⟩).imp fun {a b} ⟨h5,h6⟩=>?_;have h5:a<=b:=by simpa using h5
  have h6:a≠b:=h6;omega
 rw[<-h2];unfold srtN Xi QJ
 have:(l.map Int.ofNat).mergeSort (fun x y=>decide (x<=y))=(l.mergeSort fun x y=>decide (x<=y)).map Int.ofNat:=by
  rw[List.map_mergeSort];intro a _ b _;simp
 rw[this,List.map_map];rfl
def Q8 (rows:List (List Nat)):List (List CD):=rows.map fun l=>[.sl 1 (QJ l)]
@[simp] theorem len_encDD (l:List (List Nat)):(Q8 l).length=l.length:=by simp[Q8]
theorem X61 (d:Nat):∀l:List Nat,X4Z (.int .i64) (.int .i64 d) (mpI l)=some (if d∈l then some (bC true)else none)
 |[]=>rfl
 | k ::l=>by
   have e:mpI (k::l)=(.int .i64 k,bC true)::mpI l:=rfl;rw[e];unfold X4Z
   have h1:Instr.sameNow (.int .i64) (.int .i64 (d:Int)) (.int .i64 (k:Int))=some (decide (d=k)):=by
    have h2:((d:Int)==(k:Int))=decide (d=k):=by
     rw[Dk];simp only[beq_iff_eq,N6];omega
    simp[Instr.sameNow,h2]
   rw[h1];by_cases hk:d=k
   .subst hk;simp
   simp only[hk,decide_false,Nh,false_or];exact X61 d l
def Zg (S:List (List Nat)):Nat:=(S.map List.length).sum
theorem XcX {S:List (List Nat)} {tq:Nat} {l:List Nat} (h:S[tq]? =some l) (d:Nat):Zg (S.set tq (l++[d]))=Zg S+1:=by
 induction S generalizing tq with
 |nil=>cases h
 | cons a S ih=>
   cases tq with
   |zero=>cases h;simp[Zg];omega
   | succ tq=>
     have:=ih (tq:=tq) h;simp only[Zg,List.set_cons_succ,Ni,List.sum_cons]at this⊢;omega
theorem X8G {N:List Nd} {steps:List St} {nv:Nat} {S:List (List Nat)} (g:Gs N steps nv S):Zg S<=N.length*(steps.length+nv):=by
 have key:∀S:List (List Nat),(∀l∈S,l.length<=steps.length+nv)->Zg S<=S.length*(steps.length+nv):=by
  intro S
  induction S with
  |nil=>simp[Zg]
  | cons a S ih=>
    intro h;have h1:=h a (by simp);have h2:=ih fun l hl=>h l (by simp[hl]);simp only[Zg,Ni,List.sum_cons,List.length_cons,NP,Nat.one_mul]at h2⊢;omega
 have:=key S fun l hl=>Wz (g.nod l hl) (g.lt l hl)
 rwa [g.len]at this
theorem Gs.add {N:List Nd} {steps:List St} {nv tq d:Nat} {S:List (List Nat)} {l:List Nat} (g:Gs N steps nv S) (hl:S[tq]? =some l) (hd:d∉l) (hlt:d<steps.length+nv) (hr:Rc N steps nv tq d):Gs N steps nv (S.set tq (l++[d])):=by
 have hm:∀q∈S.set tq (l++[d]),q∈S\/q=l++[d]:=fun q hq=>Dg hq;refine⟨by rw[DF];exact g.len,fun q hq=>?_,fun q hq x hx=>?_,fun i q x hq hx=>?_⟩
 .rcases hm q hq with h|rfl
  .exact g.nod q h
  rw[List.nodup_append];exact⟨g.nod l (N3 hl),by simp,fun a ha b hb=>by rw[Nk.1 hb];exact fun e=>hd (e▸ha)⟩
 .rcases hm q hq with h|rfl
  .exact g.lt q h x hx
  rcases Ng.1 hx with h|h
  .exact g.lt l (N3 hl) x h
  rw[Nk.1 h];exact hlt
 rw[NY]at hq;split at hq
 .rename_i e;subst e;split at hq
  .cases hq;rcases Ng.1 hx with h|h
   .exact g.snd tq l x hl h
   rw[Nk.1 h];exact hr
  cases hq
 exact g.snd i q x hq hx
end Go.Proofs.YtdajceakaakdoaaGreat
namespace Go.Proofs.YtdajceakaakdoaaGreat
open Go Go.Hl
open Tryz(prog)
def X59 (m:Nat) (t:Int):Prop:=t=-1\/∃k:Nat,t=k/\k<m
structure ndOK (m n:Nat) (x:Nd):Prop where
 hn:X59 m x.n
 ho:X59 m x.o
 ha:(x.k≠2/\x.a=-1)\/∃t:Nat,x.a=t/\t<n
theorem X59.nat {m t:Nat} (h:t<m):X59 m (t:Int):=.inr ⟨t,rfl,h⟩
theorem X7B (s:St):1<=wdS s:=by cases s;simp only[wdS];split<;>omega
theorem X5k {l:List St} (h:l≠[]):1<=wdL l:=by
 cases l with
 |nil=>exact absurd rfl h
 |cons s l=>have:=X7B s;simp only[wdL];omega
theorem X59.ite {m:Nat} {t e:Int} {l:List St} (h1:X59 m t) (h2:l≠[]->X59 m e):X59 m (if l=[] then t else e):=by
 split
 .exact h1
 rename_i h;exact h2 h
theorem X59.mk {m:Nat} {t:Int} (k:Nat) (h:t=k) (hk:k<m):X59 m t:=.inr ⟨k,h,hk⟩
mutual
theorem layS_ok {m n:Nat}:∀(s:St) (p k after:Nat),gS s=true->p+szS s<=n->k+wdS s<=m->after<m->∀x∈X1u s p k after,ndOK m n x
 | .mk o c v q t a b bs,p,k,after,hg,hp,hk,haf,x,hx=>by
   simp only[gS,N4]at hg;simp only[szS]at hp;simp only[wdS]at hk;unfold X1u at hx;split at hx
   .rename_i h3;rw[N7 (by omega)]at hk;rcases Nh.1 hx with rfl|hx
    .refine⟨.ite (.nat haf) fun h=>.mk (k+1) (by simp) (by have:=X5k h;omega),.ite (.nat haf) fun h=>.mk (k+1+wdL a) (by simp) (by have:=X5k h;omega),.inr ⟨p,rfl,(show p<n by omega)⟩⟩
    rcases Ng.1 hx with hx|hx
    .exact X35 a (p+1) (k+1) after hg.2.1 (by omega) (by omega) haf x (by simpa using hx)
    exact X35 b (p+1+szL a) (k+1+wdL a) after hg.2.2 (by omega) (by omega) haf x (by simpa using hx)
   split at hx
   .rename_i h3 h4;rw[Na h4]at hk;rcases Nh.1 hx with rfl|hx
    .exact⟨.mk (k+1) (by simp) (by omega),.inl rfl,.inr ⟨p,rfl,(show p<n by omega)⟩⟩
    rcases Nh.1 hx with rfl|hx
    .exact⟨.ite (.mk (k+1) (by simp) (by omega)) fun h=>.mk (k+2) (by simp) (by have:=X5k h;omega),.nat haf,.inr ⟨p,rfl,(show p<n by omega)⟩⟩
    exact X35 a (p+1) (k+2) (k+1) hg.2.1 (by omega) (by omega) (by omega) x (by simpa using hx)
   rw[Nk.1 hx];have:1<=wdS (St.mk o c v q t a b bs):=X7B _;exact⟨X59.nat haf,.inl rfl,.inr ⟨p,rfl,(show p<n by omega)⟩⟩
theorem X35 {m n:Nat}:∀(l:List St) (p k after:Nat),gL l=true->p+szL l<=n->k+wdL l<=m->after<m->∀x∈X0d l p k after,ndOK m n x
 |[],_,_,_,_,_,_,_,x,hx=>by simp[X0d]at hx
 | s ::l,p,k,after,hg,hp,hk,haf,x,hx=>by
   simp only[gL,N4]at hg;simp only[szL]at hp;simp only[wdL]at hk;unfold X0d at hx;rcases Ng.1 hx with hx|hx
   .refine layS_ok s p k _ hg.1 (by omega) (by omega) ?_ x hx;split
    .exact haf
    rename_i h;have:=X5k h;omega
   exact X35 l (p+szS s) (k+wdS s) after hg.2 (by omega) (by omega) haf x (by simpa using hx)
end
theorem X88 {l:List St} (hg:gL l=true):∀x∈grN l,ndOK (grN l).length (szL l) x:=by
 rw[X1a hg];intro x hx;unfold grN at hx;rcases Nh.1 hx with rfl|hx
 .refine⟨.ite (.mk (1+wdL l) (by simp) (by omega)) fun h=>.mk 1 rfl (by omega),.inl rfl,.inl ⟨by simp,rfl⟩⟩
 rcases Ng.1 hx with hx|hx
 .exact X35 l 0 1 (1+wdL l) hg (by omega) (by omega) (by omega) x (by simpa using hx)
 rw[Nk.1 hx];exact⟨.inl rfl,.inl rfl,.inl ⟨by simp,rfl⟩⟩
structure Inv (N:List Nd) (steps:List St) (nv:Nat) (S0 S:List (List Nat)) (c:Bool) (P:Prop):Prop where
 g:Gs N steps nv S
 tot:Zg S0<=Zg S
 up:c=true->Zg S0<Zg S
 same:c=false->S=S0/\P
theorem Inv.mono {N:List Nd} {steps:List St} {nv:Nat} {S0 S:List (List Nat)} {c:Bool} {P Q:Prop} (h:Inv N steps nv S0 S c P) (hpq:S=S0->P->Q):Inv N steps nv S0 S c Q:=
 ⟨h.g,h.tot,h.up,fun hc=>⟨(h.same hc).1,hpq (h.same hc).1 (h.same hc).2⟩⟩
theorem Inv.add {N:List Nd} {steps:List St} {nv:Nat} {S0 S:List (List Nat)} {c:Bool} {P Q:Prop} (h:Inv N steps nv S0 S c P) {tq d:Nat} {l:List Nat} (hl:S[tq]? =some l) (hd:d∉l) (hlt:d<steps.length+nv) (hr:Rc N steps nv tq d):Inv N steps nv S0 (S.set tq (l++[d])) true Q:=by
 have:=XcX hl d;exact⟨h.g.add hl hd hlt hr,by have:=h.tot;omega,fun _=>by have:=h.tot;omega,fun hc=>by cases hc⟩
def inS (S:List (List Nat)) (tq:Int) (d:Nat):Prop:=∀(m:Nat) l,tq=(m:Int)->S[m]? =some l->d∈l
def msS (S:List (List Nat)):List (Option (List (Value×CD))):=S.map fun l=>some (mpI l)
@[simp] theorem len_msS (S:List (List Nat)):(msS S).length=S.length:=by simp[msS]
@[simp] theorem map_msS (S:List (List Nat)):(msS S).map (fun r=>[mpC r])=S.map fun l=>[CD.mp (mpI l)]:=by simp[msS,mpC]
theorem XbK {S:List (List Nat)} {i:Nat} {l:List Nat} (h:S[i]? =some l):(msS S)[i]? =some (some (mpI l)):=by simp[msS,h]
theorem set_msS (S:List (List Nat)) (i:Nat) (l:List Nat) (d:Nat):(msS S).set i (some (mpI l++[(.int .i64 d,bC true)]))=msS (S.set i (l++[d])):=by
 simp[msS,List.map_set,mpI]
def msI (y n:Nat):List (Option (List (Value×CD))):=List.replicate y (some [])++List.replicate (n - y) none
theorem msI_len {y n:Nat} (h:y<=n):(msI y n).length=n:=by simp[msI];omega
theorem msI_free {y n:Nat} (h:y<n):X1W (msI y n) y=true:=by
 obtain⟨k,hk⟩:∃k,n - y=k+1:=⟨n - y - 1,by omega⟩;simp[X1W,msI,hk,List.replicate_succ]
theorem msI_set {y n:Nat} (h:y<n):(msI y n).set y (some [])=msI (y+1) n:=by
 obtain⟨k,hk⟩:∃k,n - y=k+1:=⟨n - y - 1,by omega⟩;have e:n - (y+1)=k:=by omega
 have e2:List.replicate (y+1) (some ([]:List (Value×CD)))=List.replicate y (some [])++[some []]:=List.replicate_succ';simp only[msI,hk,e,e2];rw[List.set_append,N7 (by simp)];simp[List.replicate_succ]
theorem msI_zero (n:Nat):msI 0 n=List.replicate n none:=by simp[msI]
theorem msI_end (n:Nat):msI n n=msS (List.replicate n []):=by simp[msI,msS,mpI]
theorem Gs.empty (N:List Nd) (steps:List St) (nv:Nat):Gs N steps nv (List.replicate N.length []):=by
 refine⟨by simp,fun l hl=>?_,fun l hl=>?_,fun tq l d h hd=>?_⟩
 .rw[(List.mem_replicate.1 hl).2];exact List.nodup_nil
 .rw[(List.mem_replicate.1 hl).2];simp
 have:=N3 h;rw[(List.mem_replicate.1 this).2]at hd;cases hd
def X2G (l:List Nat):Option (List (List CD)):=if l=[] then none else some (QJ l)
def rwI (L:List (List Nat)) (y n:Nat):List (Option (List (List CD))):=(L.take y).map X2G++List.replicate (n - y) none
theorem rwI_len {L:List (List Nat)} {y n:Nat} (h:y<=n) (hL:L.length=n):(rwI L y n).length=n:=by simp[rwI,hL];omega
theorem rwI_get {L:List (List Nat)} {y n:Nat} (h:y<n) (hL:L.length=n):(rwI L y n)[y]? =some none:=by
 have ht:((L.take y).map X2G).length=y:=by rw[NO,NG];omega
 unfold rwI;rw[Nn (by rw[ht];exact NK _),ht,Nat.sub_self];obtain⟨k,hk⟩:∃k,n - y=k+1:=⟨n - y - 1,by omega⟩;rw[hk];rfl
theorem rwI_set {L:List (List Nat)} {y n:Nat} {l:List Nat} (hl:L[y]? =some l) (h:y<n) (hL:L.length=n):(rwI L y n).set y (X2G l)=rwI L (y+1) n:=by
 have ht:((L.take y).map X2G).length=y:=by rw[NO,NG];omega
 obtain⟨k,hk⟩:∃k,n - y=k+1:=⟨n - y - 1,by omega⟩;have e:n - (y+1)=k:=by omega
 unfold rwI;rw[List.set_append,N7 (by rw[ht];omega),ht,Nat.sub_self,List.take_add_one,hl,hk,e];simp[List.replicate_succ]
theorem rwI_zero (L:List (List Nat)) (n:Nat):rwI L 0 n=List.replicate n none:=by simp[rwI]
theorem rwI_end {L:List (List Nat)} {n:Nat} (hL:L.length=n):(rwI L n n).map (fun r=>[CD.sl 1 (r.getD [])])=Q8 L:=by
 unfold rwI Q8;rw[<-hL,List.take_length,Nat.sub_self];simp only[List.replicate_zero,Dq,List.map_map];refine List.map_congr_left fun l _=>?_;unfold X2G;simp only[Function.comp];split
 .rename_i h;subst h;rfl
 rfl
theorem X10 (l:List Nat):QJ l=Xi (l.map Int.ofNat):=by simp[QJ,Xi]
theorem X2U {vars:List Vr} {nh:Nat}:∀(l:List St) (top:Bool),ssC vars nh l top=0->∀q∈flL l,∃last,shB vars nh q.do_ q.var q.n q.term q.then_.length q.else_.length q.bounds last=true
 |[],_,_,q,hq=>by simp[flL]at hq
 | .mk d c v n t a b bs::l,top,h,q,hq=>by
   have hs:shB vars nh d v n t a.length b.length bs (top&&l.isEmpty)=true:=by
    simp only[ssC]at h;split at h
    .rename_i h0;unfold stC at h0;split at h0
     .cases h0
     rename_i hs;simpa using hs
    rename_i h0;exact absurd h h0
   have hr:ssC vars nh a false=0/\ssC vars nh b false=0/\ssC vars nh l top=0:=by
    simp only[ssC]at h;split at h
    .split at h
     .split at h
      .rename_i ha hb;exact⟨ha,hb,h⟩
      rename_i hb;exact absurd h hb
     rename_i ha;exact absurd h ha
    rename_i h0;exact absurd h h0
   simp only[flL,flS,List.cons_append,Nh,Ng]at hq;rcases hq with rfl|(hq|hq)|hq
   .exact⟨_,hs⟩
   .exact X2U a false hr.1 q hq
   .exact X2U b false hr.2.1 q hq
   exact X2U l top hr.2.2 q hq
mutual
def tmV:Tm->List Int
 | .mk o n ks=>(if o=24 then [n] else [])++ZV ks
def ZV:List Tm->List Int
 |[]=>[]
 |t::l=>tmV t++ZV l
end
mutual
theorem X3V:∀t:Tm,(tmV t).length<=t.nodes
 | .mk o n ks=>by
   have:=X9n ks;simp only[tmV,N9,Tm.nodes];split
   .simp only[List.length_singleton];omega
   simp only[List.length_nil];omega
theorem X9n:∀l:List Tm,(ZV l).length<=Qn l
 |[]=>by simp[ZV]
 |t::l=>by have:=X3V t;have:=X9n l;simp only[ZV,N9,Qn];omega
end
theorem St.lind {P:List St->Prop} (nil:P []) (cons:∀d c v n t a b bs l,P a->P b->P l->P (.mk d c v n t a b bs::l)):∀l,P l:=by
 apply St.lists;intro l ih
 induction l with
 |nil=>exact nil
 | cons s l ihl=>
   have h:=ih s (List.mem_cons_self ..);have h2:=ihl fun s hs=>ih s (NS _ hs);obtain⟨d,c,v,n,t,a,b,bs⟩:=s;exact cons d c v n t a b bs l h.1 h.2 h2
def Sub {T:Type} (N:List T) (k:Nat) (l:List T):Prop:=∀i x,l[i]? =some x->N[k+i]? =some x
theorem Sub.cons {T:Type} {N:List T} {k:Nat} {x:T} {l:List T} (h:Sub N k (x::l)):N[k]? =some x/\Sub N (k+1) l:=
 ⟨h 0 x rfl,fun i y hy=>by have:=h (i+1) y (by simpa using hy);rwa [show k+(i+1)=k+1+i by omega]at this⟩
theorem Sub.app {T:Type} {N:List T} {k:Nat} {a b:List T} (h:Sub N k (a++b)):Sub N k a/\Sub N (k+a.length) b:=by
 refine⟨fun i x hx=>h i x ?_,fun i x hx=>?_⟩
 .have hi:=(N5.1 hx).1;rw[Ns hi,hx]
 have:=h (a.length+i) x (by rw[Nn (by omega),show a.length+i - a.length=i by omega,hx])
 rwa [show k+(a.length+i)=k+a.length+i by omega]at this
theorem Sub.of_self {T:Type} (l:List T):Sub l 0 l:=fun i x hx=>by rwa [Nat.zero_add]
def updD (D:Nat->Nat) (v o:Nat):Nat->Nat:=fun x=>if x=v then o else D x
section
variable {vars:List Vr} {hv:List Int} {kO:Nat->Bool}
def Qt (lo hi:Nat) (x y:Sta×(Nat->Nat)):Prop:=∀v:Nat,(y.2 v=x.2 v/\y.1.vals[v]? =x.1.vals[v]?)\/(lo<=y.2 v/\y.2 v<hi)
theorem Qt.refl (lo hi:Nat) (x:Sta×(Nat->Nat)):Qt lo hi x x:=fun _=>.inl ⟨rfl,rfl⟩
theorem Qt.trans {lo hi:Nat} {x y z:Sta×(Nat->Nat)} (h:Qt lo hi x y) (h2:Qt lo hi y z):Qt lo hi x z:=fun v=>by
 rcases h2 v with⟨h3,h4⟩|h3
 .rcases h v with⟨h5,h6⟩|h5
  .exact .inl ⟨h3.trans h5,h4.trans h6⟩
  exact .inr ⟨by omega,by omega⟩
 exact .inr h3
theorem Qt.tick {lo hi:Nat} {x y:Sta×(Nat->Nat)} {c:Int} (h:Qt lo hi (tick x.1 c,x.2) y):Qt lo hi x y:=h
end
def rdB (x:Nd):Bool:=decide (0<=x.a)&&decide (x.k≠4)
def WI (l:List St) (k after:Nat):Nat:=if l=[] then after else k
structure Gd (N:List Nd) (steps:List St) (nv k:Nat) (D:Nat->Nat):Prop where
 all:∀v,v<nv->Rc N steps nv k (D v)/\Qr steps (D v)=(v:Int)
section
variable {N:List Nd} {steps:List St} {nv:Nat} {vars:List Vr} {hv:List Int} {kO:Nat->Bool}
theorem Gd.pass {k tq:Nat} {D:Nat->Nat} {x:Nd} (h:Gd N steps nv k D) (hx:N[k]? =some x) (h0:x.k≠0) (hs:WW x tq) (ha:W3 steps x=false):Gd N steps nv tq D:=
 ⟨fun v hv=>⟨.pass hx h0 hs (h.all v hv).1 (by rw[ha];rfl),(h.all v hv).2⟩⟩
theorem Gd.asg {k tq:Nat} {D:Nat->Nat} {x:Nd} {v:Int} (h:Gd N steps nv k D) (hx:N[k]? =some x) (h0:x.k≠0) (hs:WW x tq) (ha:W3 steps x=true) (hv0:0<=v) (hva:Zt steps x=v) (hvo:Qr steps x.a.toNat=v):Gd N steps nv tq (updD D v.toNat x.a.toNat):=by
 refine⟨fun y hy=>?_⟩;unfold updD;by_cases e:y=v.toNat
 .rw[Na e];exact⟨.gen hx h0 hs ha,by rw[hvo,e];omega⟩
 rw[N7 e];obtain⟨h1,h2⟩:=h.all y hy;refine⟨.pass hx h0 hs h1 ?_,h2⟩;rw[h2,hva];have:(y:Int)≠v:=by omega
 simp[this]
structure Lies (N:List Nd) (steps:List St) (vars:List Vr) (nh:Nat) (l:List St) (o k after:Nat):Prop where
 g:gL l=true
 wf:wfL vars nh l=true
 nd:Sub N k (X0d l o k after)
 st:Sub steps o (flL l)
structure Lie1 (N:List Nd) (steps:List St) (vars:List Vr) (nh:Nat) (d c v n:Int) (t:Tm) (a b:List St) (bs:List Int) (o k mid:Nat):Prop where
 g:gS (.mk d c v n t a b bs)=true
 wf:wfS vars nh (.mk d c v n t a b bs)=true
 nd:Sub N k (X1u (.mk d c v n t a b bs) o k mid)
 st:steps[o]? =some (.mk d c v n t a b bs)
 sa:Sub steps (o+1) (flL a)
 sb:Sub steps (o+1+szL a) (flL b)
variable {nh:Nat}
theorem Lies.cons {d c v n:Int} {t:Tm} {a b:List St} {bs:List Int} {l:List St} {o k after:Nat} (h:Lies N steps vars nh (.mk d c v n t a b bs::l) o k after):
  Lie1 N steps vars nh d c v n t a b bs o k (WI l (k+wdS (.mk d c v n t a b bs)) after)/\Lies N steps vars nh l (o+(1+szL a+szL b)) (k+wdS (.mk d c v n t a b bs)) after:=by
 obtain⟨hg,hw,hn,hs⟩:=h;simp only[gL,N4]at hg;simp only[wfL,N4]at hw;simp only[X0d]at hn;simp only[flL]at hs;obtain⟨n1,n2⟩:=hn.app;obtain⟨s1,s2⟩:=hs.app;rw[X6f _ _ _ _ hg.1]at n2;rw[Xb6]at s2;rw[Xac]at s1;simp only[szS,St.then_,St.else_]at s1 s2 n2;obtain⟨s3,s4⟩:=s1.cons;obtain⟨s5,s6⟩:=s4.app;rw[Q6]at s6;refine⟨⟨hg.1,hw.1,n1,s3,s5,s6⟩,hg.2,hw.2,?_,s2⟩;have:((o:Int)+((1+szL a+szL b:Nat):Int))=((o+(1+szL a+szL b):Nat):Int):=by omega
 rw[<-this];exact n2
theorem Lie1.if_ {d c v n:Int} {t:Tm} {a b:List St} {bs:List Int} {o k mid:Nat} (h:Lie1 N steps vars nh d c v n t a b bs o k mid) (hd:d=3):
  (∃x,N[k]? =some x/\x.k=3/\x.a=o/\WW x (WI a (k+1) mid)/\WW x (WI b (k+1+wdL a) mid))/\Lies N steps vars nh a (o+1) (k+1) mid/\Lies N steps vars nh b (o+1+szL a) (k+1+wdL a) mid:=by
 obtain⟨hg,hw,hn,_,hsa,hsb⟩:=h;simp only[gS,N4]at hg;simp only[wfS,N4]at hw;unfold X1u at hn;rw[Na hd]at hn;obtain⟨h1,h2⟩:=hn.cons;obtain⟨h3,h4⟩:=h2.app;rw[We _ _ _ _ hg.2.1]at h4;refine⟨⟨_,h1,rfl,rfl,?_,?_⟩,⟨hg.2.1,hw.2.2.2.2.2.1,h3,hsa⟩,⟨hg.2.2,hw.2.2.2.2.2.2,?_,hsb⟩⟩
 .by_cases e:a=[]<;>simp[WW,WI,e]
 .by_cases e:b=[]<;>simp[WW,WI,e]
 have:((o:Int)+1+(szL a:Int))=((o+1+szL a:Nat):Int):=by omega
 rw[<-this];exact h4
theorem Lie1.loop {d c v n:Int} {t:Tm} {a b:List St} {bs:List Int} {o k mid:Nat} (h:Lie1 N steps vars nh d c v n t a b bs o k mid) (hd:d=4):
  (∃x,N[k]? =some x/\x.k=4/\WW x (k+1))/\(∃x,N[k+1]? =some x/\x.k=5/\x.a=o/\WW x (WI a (k+2) (k+1))/\WW x mid)/\Lies N steps vars nh a (o+1) (k+2) (k+1)/\b=[]:=by
 obtain⟨hg,hw,hn,_,hsa,hsb⟩:=h;simp only[gS,N4,Nl,N6,Dj]at hg;simp only[wfS,N4]at hw;unfold X1u at hn;rw[N7 (by omega),Na hd]at hn;obtain⟨h1,h2⟩:=hn.cons;obtain⟨h3,h4⟩:=h2.cons;refine⟨⟨_,h1,rfl,?_⟩,⟨_,h3,rfl,rfl,?_,?_⟩,⟨hg.2.1,hw.2.2.2.2.2.1,h4,hsa⟩,?_⟩
 .simp[WW]
 .by_cases e:a=[]<;>simp[WW,WI,e]
 .simp[WW]
 rcases hg.1 with(h|h)|h
 .omega
 .exact h.2
 exact h.2
theorem Lie1.var {d c v n:Int} {t:Tm} {a b:List St} {bs:List Int} {o k mid:Nat} (h:Lie1 N steps vars nh d c v n t a b bs o k mid) (hd:d=0\/d=5):0<=v/\v.toNat<vars.length:=by
 have hw:=h.wf;simp only[wfS,N4,Nl,N6]at hw;have hl:=hw.2.1.resolve_left fun h=>by omega
 obtain⟨h0,w,hw2⟩:=X2a hl;exact⟨h0,(N5.1 hw2).1⟩
theorem asg_no {x:Nd} (h:x.k≠2):W3 steps x=false:=by simp[W3,h]
end
theorem lay_nums:∀l:List St,gL l=true->∀(p k after:Nat),(((X0d l p k after).filter rdB).map (·.a)).Pairwise (· < ·)/\∀z∈((X0d l p k after).filter rdB).map (·.a),(p:Int)<=z/\z<p+szL l:=by
 apply St.lind
 .intro _ p k after;simp[X0d]
 intro d c v n t a b bs l ia ib il hg p k after;simp only[gL,gS,N4]at hg;obtain⟨⟨hs,ga,gb⟩,gl⟩:=hg;have e1:((p:Int)+1)=((p+1:Nat):Int):=by omega
 have e2:(((p+1:Nat):Int)+(szL a:Int))=((p+1+szL a:Nat):Int):=by omega
 have e3:((p:Int)+(szS (.mk d c v n t a b bs):Int))=((p+(1+szL a+szL b):Nat):Int):=by simp only[szS];omega
 have hst:∀after,(((X1u (.mk d c v n t a b bs) p k after).filter rdB).map (·.a)).Pairwise (· < ·)/\∀z∈((X1u (.mk d c v n t a b bs) p k after).filter rdB).map (·.a),(p:Int)<=z/\z<p+(1+szL a+szL b:Nat):=by
  intro after;unfold X1u;rw[e1,e2];split
  .obtain⟨a1,a2⟩:=ia ga (p+1) (k+1) after;obtain⟨b1,b2⟩:=ib gb (p+1+szL a) (k+1+wdL a) after;have hr:rdB ⟨3,p,if a=[] then after else k+1,if b=[] then after else k+1+wdL a⟩=true:=by simp[rdB]
   rw[DH hr];simp only[Dl,Ni,Dr];refine⟨NQ.2 ⟨fun z hz=>?_,List.pairwise_append.2 ⟨a1,b1,fun x hx y hy=>?_⟩⟩,fun z hz=>?_⟩
   .rcases Ng.1 hz with h|h
    .have:=a2 z h;omega
    have:=b2 z h;omega
   .have:=a2 x hx;have:=b2 y hy;omega
   rcases Nh.1 hz with rfl|hz
   .omega
   rcases Ng.1 hz with h|h
   .have:=a2 z h;omega
   have:=b2 z h;omega
  split
  .obtain⟨a1,a2⟩:=ia ga (p+1) (k+2) (k+1);have hr:¬rdB ⟨4,p,(k:Int)+1,-1⟩=true:=by simp[rdB]
   have hr2:rdB ⟨5,p,if a=[] then(k:Int)+1 else(k:Int)+2,after⟩=true:=by simp[rdB]
   rw[DG hr,DH hr2];simp only[Ni];refine⟨NQ.2 ⟨fun z hz=>?_,a1⟩,fun z hz=>?_⟩
   .have:=a2 z hz;omega
   rcases Nh.1 hz with rfl|hz
   .omega
   have:=a2 z hz;omega
  have hr:rdB ⟨2,p,after,-1⟩=true:=by simp[rdB]
  rw[DH hr];simp only[List.filter_nil,Ni,Nr];refine⟨List.pairwise_singleton ..,fun z hz=>?_⟩;rw[Nk.1 hz];omega
 obtain⟨s1,s2⟩:=hst (if l=[] then after else k+wdS (.mk d c v n t a b bs));obtain⟨l1,l2⟩:=il gl (p+(1+szL a+szL b)) (k+wdS (.mk d c v n t a b bs)) after;simp only[X0d];rw[e3];simp only[Dl,Dr,szL,szS];refine⟨List.pairwise_append.2 ⟨s1,l1,fun x hx y hy=>?_⟩,fun z hz=>?_⟩
 .have:=s2 x hx;have:=l2 y hy;omega
 rcases Ng.1 hz with h|h
 .have:=s2 z h;omega
 have:=l2 z h;omega
theorem grN_nums {l:List St} (hg:gL l=true):(((grN l).filter rdB).map (·.a)).Pairwise (· < ·):=by
 unfold grN;have h0:∀x:Int,¬rdB ⟨0,-1,x,-1⟩=true:=fun x=>by simp[rdB]
 have h1:¬rdB ⟨1,-1,-1,-1⟩=true:=by simp[rdB]
 rw[DG (h0 _),Dl,DG h1,List.filter_nil,Dq];exact(lay_nums l hg 0 1 (1+wdL l)).1
end Go.Proofs.YtdajceakaakdoaaGreat
namespace Go.Proofs.YtdajceakaakdoaaGreat
open Go Go.Hl Go.Shelf Go.Sort
open Tryz(prog)
def sortR:Ren:=⟨fun f=>if f=125 then 89 else if f=128 then 159 else if f=129 then 160 else if f=189 then 46 else if f=215 then 176 else if f=216 then 156 else if f=257 then 88 else if f=294 then 150 else if f=295 then 151 else if f=296 then 152 else if f=297 then 153 else if f=298 then 154 else if f=299 then 155 else if f=300 then 157 else if f=301 then 158 else if f=328 then 207 else if f=329 then 208 else if f=330 then 209 else if f=331 then 210 else if f=332 then 211 else if f=343 then 245 else f,fun t=>if t=0 then 0 else if t=3 then 3 else if t=4 then 4 else if t=5 then 5 else if t=9 then 9 else if t=28 then 29 else if t=46 then 162 else if t=51 then 223 else if t=53 then 225 else if t=131 then 142 else if t=182 then 216 else if t=183 then 217 else if t=218 then 273 else if t=222 then 277 else if t=228 then 304 else if t=229 then 227 else t,fun g=>g⟩
theorem sortL:Lays.n189 prog sortR where
 mixed:=by kernel_rfl
 f125:=by kernel_rfl
 f128:=by kernel_rfl
 f129:=by kernel_rfl
 f189:=by kernel_rfl
 f215:=by kernel_rfl
 f216:=by kernel_rfl
 f257:=by kernel_rfl
 f294:=by kernel_rfl
 f295:=by kernel_rfl
 f296:=by kernel_rfl
 f297:=by kernel_rfl
 f298:=by kernel_rfl
 f299:=by kernel_rfl
 f300:=by kernel_rfl
 f301:=by kernel_rfl
 f328:=by kernel_rfl
 f329:=by kernel_rfl
 f330:=by kernel_rfl
 f331:=by kernel_rfl
 f332:=by kernel_rfl
 f343:=by kernel_rfl
 t0:=by kernel_rfl
 a0:=fun w=>rfl
 z0:=fun w=>rfl
 v0:=fun w=>rfl
 t3:=by kernel_rfl
 a3:=fun w=>rfl
 z3:=fun w=>rfl
 v3:=fun w=>rfl
 t4:=by kernel_rfl
 a4:=fun w=>rfl
 z4:=fun w=>rfl
 v4:=fun w=>rfl
 t5:=by kernel_rfl
 a5:=fun w=>rfl
 z5:=fun w=>rfl
 v5:=fun w=>rfl
 t9:=by kernel_rfl
 a9:=fun w=>rfl
 z9:=fun w=>rfl
 v9:=fun w=>rfl
 t28:=by kernel_rfl
 a28:=fun w=>rfl
 z28:=fun w=>rfl
 v28:=fun w=>rfl
 t46:=by kernel_rfl
 a46:=fun w=>rfl
 z46:=fun w=>rfl
 v46:=fun w=>rfl
 t51:=by kernel_rfl
 a51:=fun w=>rfl
 z51:=fun w=>rfl
 v51:=fun w=>rfl
 t53:=by kernel_rfl
 a53:=fun w=>rfl
 z53:=fun w=>rfl
 v53:=fun w=>rfl
 t131:=by kernel_rfl
 a131:=fun w=>rfl
 z131:=fun w=>rfl
 v131:=fun w=>rfl
 t182:=by kernel_rfl
 a182:=fun w=>rfl
 z182:=fun w=>rfl
 v182:=fun w=>rfl
 t183:=by kernel_rfl
 a183:=fun w=>rfl
 z183:=fun w=>rfl
 v183:=fun w=>rfl
 t218:=by kernel_rfl
 a218:=fun w=>rfl
 z218:=fun w=>rfl
 v218:=fun w=>rfl
 t222:=by kernel_rfl
 a222:=fun w=>rfl
 z222:=fun w=>rfl
 v222:=fun w=>rfl
 t228:=by kernel_rfl
 a228:=fun w=>rfl
 z228:=fun w=>rfl
 v228:=fun w=>rfl
 t229:=by kernel_rfl
 a229:=fun w=>rfl
 z229:=fun w=>rfl
 v229:=fun w=>rfl
def compR:Ren:=⟨fun f=>if f=20 then 47 else f,fun t=>if t=0 then 0 else if t=3 then 3 else if t=4 then 4 else if t=22 then 29 else t,fun g=>g⟩
theorem compL:Lays2.n20 prog compR where
 mixed:=by kernel_rfl
 f20:=by kernel_rfl
 t0:=by kernel_rfl
 a0:=fun w=>rfl
 z0:=fun w=>rfl
 v0:=fun w=>rfl
 t3:=by kernel_rfl
 a3:=fun w=>rfl
 z3:=fun w=>rfl
 v3:=fun w=>rfl
 t4:=by kernel_rfl
 a4:=fun w=>rfl
 z4:=fun w=>rfl
 v4:=fun w=>rfl
 t22:=by kernel_rfl
 a22:=fun w=>rfl
 z22:=fun w=>rfl
 v22:=fun w=>rfl
 i3:=by kernel_rfl
structure RowOut (w w':World) (g o:Nat) (ys:List Int):Prop where
 os:w'.os=w.os
 tape:w'.tape=w.tape
 output:w'.output=w.output
 size:w.heap.size<=w'.heap.size
 other:∀k,k<w.heap.size->k≠g->w'.heap[k]? =w.heap[k]?
 cells:∀cur t x,w.heap[g]? =some (.cells cur t x)->∃cur':Array Value,w'.heap[g]? =some (.cells cur' t x)/\cur'.size=cur.size/\∀k (hk:k<ys.length),o+k<cur.size->cur'[o+k]? =some (.int .i64 ys[k])
theorem X5W (w:World) (q g o:Nat) (os:Array Obj) (ys:List Int) (m:Nat) (hg:g<w.heap.size):RowOut w (grow (putRow (Value.int .i64) (Sort.ahead w q) g o (ys++List.replicate m 0).toArray) os) g o ys:=by
 have hsz:(putRow (Value.int .i64) (Sort.ahead w q) g o (ys++List.replicate m 0).toArray).heap.size=w.heap.size:=by simp[putRow,mapBlock]
 refine⟨rfl,rfl,rfl,by simp only[grow,Array.size_append,hsz];omega,fun k hk hne=>?_,fun cur t x hc=>?_⟩
 .rw[heap_grow_old _ _ (by rw[hsz];exact hk)];simp only[putRow,mapBlock,heap_ahead,Dw];rw[N7 fun h=>hne h.symm]
 refine⟨putCells (Value.int .i64) o (ys++List.replicate m 0).toArray cur,?_,by simp[putCells],fun k hk hkc=>?_⟩
 .rw[heap_grow_old _ _ (by rw[hsz];exact hg)];simp only[putRow,mapBlock,heap_ahead,Dw,Nf,hc];rfl
 simp only[putCells,Array.getElem?_mapIdx,NC hkc,Option.map_some,Nat.add_sub_cancel_left];rw[Na ⟨by omega,by simp;omega⟩];congr 2;rw[getElem!_pos _ k (by simp;omega)];simp[hk]
theorem X8f {zs:List Int} {a b:Nat} {d:CD} (h:XN (Xi zs) a b=some d):b=0/\∃n,zs[a]? =some n/\d=iC n:=by
 unfold XN at h;rw[X5o]at h;cases hz:zs[a]? with
 |none=>rw[hz]at h;cases h
 | some n=>
   rw[hz]at h;cases b with
   |zero=>cases h;exact⟨rfl,n,rfl,rfl⟩
   |succ b=>cases h
theorem row_con {f:FuncId} (hcall:Q5 prog f=true) (zs ys:List Int) (hz:0<zs.length) (hle:ys.length<=zs.length) (r:RV) (rv:Nat->Nat->Nat->Value) (hr:∀(F:Nat->Prop) (T:Nat->Value) (w:World) (g o cap:Nat),T 900001=.slice (some ⟨g,o,none⟩) ys.length cap->Xa F T w r (rv g o cap))
  (key:∀(g o cap:Nat) (w:World),Holds (Value.int .i64) w g o zs.toArray->g<w.heap.size->zs.length<=cap->cap<=maxLen->Calls prog f #[.slice (some ⟨g,o,none⟩) zs.length cap] w fun e w'=>e=.returned (rv g o cap)/\RowOut w w' g o ys):
  X46 prog f [(900001,.row 3 1 (Xi zs))] [.one (.own 900001)] r [(900001,.row 3 1 (Xi ys))]:=by
 refine⟨hcall,fun F T w vs hh hsz hargs=>?_⟩;have hob:=hh.ob 900001 _ rfl;have hap:=hh.apart 900001 _ rfl;obtain⟨h0,hrs,xs,⟨hxl,hown⟩,hx1,hc⟩:=hob;rcases hown with⟨_,hn⟩|⟨g,o,cap,cur,hv,hB,hg,hcap,hmax,hcs,htake⟩
 .rw[WZ]at hn;omega
 rw[WZ]at hxl hcap htake hv;rw[DL]at hxl htake hcs;obtain⟨l⟩:=vs
 match l,hsz with
 | [v0],_=>
   have a0:Xs F T w (.own 900001) v0:=hargs 0 _ v0 rfl rfl;have e0:v0=.slice (some ⟨g,o,none⟩) zs.length cap:=by rw[a0.1,hv];rfl
   subst e0
   have hcur:∀k (hk:k<zs.length),cur[o+k]? =some (.int .i64 zs[k]):=by
    intro k hk;obtain⟨u,hu,hr⟩:=hc k 0 (iC zs[k]) (by unfold XN;rw[X5o];simp[hk]);cases hr;have:xs[k]? =cur[o+k]? :=by rw[<-htake,NE,Na hk,Ny,D8]
    rw[<-this];simpa using hu
   have hH:Holds (Value.int .i64) w g o zs.toArray:=by
    intro k hk;have hk':k<zs.length:=by simpa using hk
    refine⟨?_,?_⟩
    .have:w.cell? ⟨g,o+k,none⟩=cur[o+k]? :=by simp[World.cell?,hg]
     rw[this,hcur k hk'];simp[hk']
    simp[World.frozen?,hg]
   have hgs:g<w.heap.size:=(NM.1 hg).1;refine(key g o cap w hH hgs hcap hmax).mono ?_;rintro e w' ⟨rfl,hout⟩;obtain⟨cur',hg',hcs',hcell⟩:=hout.cells cur _ _ hg
   have hkept:Kept (ownB T [(900001,.row 3 1 (Xi zs))] w) w w':=
    ⟨hout.os,hout.tape,hout.output,hout.size,fun k hk=>hout.other k hk.1 fun e=>by subst e;exact hB hk⟩
   have hnF:¬F g:=hap g (by rw[hv];rfl)
   let T':Nat->Value:=fun n=>if n=900001 then .slice (some ⟨g,o,none⟩) ys.length cap else T n
   have hγ:T' 900001=.slice (some ⟨g,o,none⟩) ys.length cap:=rfl
   have hrow:Xv (fun c=>F c\/False) w' (ownB T [(900001,.row 3 1 (Xi zs))] w) 3 1 (T' 900001) (Xi ys):=by
    refine⟨by decide,?_,ys.map (Value.int .i64),⟨by simp,.inr ⟨g,o,cap,cur',?_,hB,hg',by rw[WZ];omega,hmax,?_,?_⟩⟩,?_,?_⟩
    .intro r hr;simp only[Xi,NF]at hr;obtain⟨n,_,rfl⟩:=hr;rfl
    .rw[hγ,WZ]
    .rw[hcs',DL];exact hcs
    .rw[WZ,DL];apply NN;intro k;rw[NE,Ny,Np];by_cases hk:k<ys.length
     .rw[Na hk,D8,hcell k hk (by omega)];simp[hk]
     rw[N7 hk,Nx (by omega)];rfl
    .intro u hu;obtain⟨n,_,rfl⟩:=NF.1 hu;rfl
    intro a b d hd;obtain⟨rfl,n,hn,rfl⟩:=X8f hd;exact⟨.int .i64 n,by simp[hn],CRel.lit _⟩
   have hblk:∀b,Blk (T' 900001) b↔b=g:=by
    intro b;rw[hγ];exact⟨fun h=>by cases h;rfl,fun h=>by subst h;rfl⟩
   have hlook:∀n o,lkp [(900001,Ob.row 3 1 (Xi ys))] n=some o->n=900001/\o=.row 3 1 (Xi ys):=by
    intro n o hl;simp only[lkp]at hl;split at hl
    .rename_i e;cases hl;exact⟨e.symm,rfl⟩
    cases hl
   refine⟨_,fun _=>False,T',rfl,hkept,fun c hc=>hc.elim,hr _ T' w' g o cap hγ,?_,fun n cs hl=>?_⟩
   .exact {
     below:=hkept
     hB:=fun b hb=>NJ hb.1 hout.size
     fsz:=fun c hc=>NJ (hh.fsz c (hc.resolve_right id)) hout.size
     ob:=fun n o hl=>by
      obtain⟨rfl,rfl⟩:=hlook n o hl;exact hrow
     apart:=fun n o hl b hb hFb=>by
      obtain⟨rfl,rfl⟩:=hlook n o hl;rw[hblk]at hb;subst hb;exact hnF (hFb.resolve_right id)
     sep:=fun n m on om hn hm hne=>by
      obtain⟨rfl,_⟩:=hlook n on hn;obtain⟨rfl,_⟩:=hlook m om hm;exact absurd rfl hne
     pin:=fun n v hv=>by cases hv}
   simp only[lkp]at hl;split at hl
   .cases hl
   cases hl
theorem X8M (zs:List Int) (hz:0<zs.length) (hl:zs.length<=17592186044416):
  X46 prog 47 [(900001,.row 3 1 (Xi zs))] [.one (.own 900001)] (.v (.one (.own 900001))) [(900001,.row 3 1 (Xi (Lib.compact zs)))]:=by
 have hle:(Lib.compact zs).length<=zs.length:=by
  unfold Lib.compact Lib.compactUpTo;rw[NO];exact Dx (DC _ _) (by simp)
 refine row_con (by kernel_rfl) zs _ hz hle _ (fun g o cap=>.slice (some ⟨g,o,none⟩) (Lib.compact zs).length cap) (fun F T w g o cap h=>⟨by rw[h];rfl,rfl⟩) fun g o cap w hH hg hcap hmax=>?_;have h:=Any.slices_Compact_int compL g o cap zs w hH (by omega) hcap;refine h.mono ?_;rintro e w' ⟨rfl,q,rfl⟩;refine⟨rfl,?_⟩;have:=X5W w q g o #[] (Lib.compact zs) (zs.length - (Lib.compact zs).length) hg;have hgr:∀v:World,grow v #[]=v:=fun v=>by simp[grow]
 rwa [hgr]at this
theorem rowR_con {f:FuncId} (hcall:Q5 prog f=true) (zs ys:List Int) (hz:0<zs.length) (hle:ys.length=zs.length)
  (key:∀(g o cap:Nat) (w:World),Holds (Value.int .i64) w g o zs.toArray->g<w.heap.size->zs.length<=cap->cap<=maxLen->Calls prog f #[.slice (some ⟨g,o,none⟩) zs.length cap] w fun e w'=>e=.returned (.tuple #[])/\RowOut w w' g o ys):
  ConR prog f 3 1 (Xi zs) (Xi ys):=by
 refine⟨hcall,fun F B w v hro hF hvF=>?_⟩;obtain⟨h0,hrs,xs,⟨hxl,hown⟩,hx1,hc⟩:=hro;rcases hown with⟨_,hn⟩|⟨g,o,cap,cur,rfl,hB,hg,hcap,hmax,hcs,htake⟩
 .rw[WZ]at hn;omega
 rw[WZ]at hxl hcap htake⊢;rw[DL]at hxl htake hcs
 have hcur:∀k (hk:k<zs.length),cur[o+k]? =some (.int .i64 zs[k]):=by
  intro k hk;obtain⟨u,hu,hr⟩:=hc k 0 (iC zs[k]) (by unfold XN;rw[X5o];simp[hk]);cases hr;have:xs[k]? =cur[o+k]? :=by rw[<-htake,NE,Na hk,Ny,D8]
  rw[<-this];simpa using hu
 have hH:Holds (Value.int .i64) w g o zs.toArray:=by
  intro k hk;have hk':k<zs.length:=by simpa using hk
  refine⟨?_,?_⟩
  .have:w.cell? ⟨g,o+k,none⟩=cur[o+k]? :=by simp[World.cell?,hg]
   rw[this,hcur k hk'];simp[hk']
  simp[World.frozen?,hg]
 have hgs:g<w.heap.size:=(NM.1 hg).1;refine(key g o cap w hH hgs hcap hmax).mono ?_;rintro e w' ⟨rfl,hout⟩;obtain⟨cur',hg',hcs',hcell⟩:=hout.cells cur _ _ hg;refine⟨rfl,hout.os,hout.tape,hout.output,hout.size,fun k hk hne=>hout.other k hk fun e=>hne (by rw[e];rfl),by decide,?_,ys.map (Value.int .i64),⟨by simp,.inr ⟨g,o,cap,cur',?_,hB,hg',by rw[WZ];omega,hmax,?_,?_⟩⟩,?_,?_⟩
 .intro r hr;simp only[Xi,NF]at hr;obtain⟨n,_,rfl⟩:=hr;rfl
 .rw[WZ,hle]
 .rw[hcs',DL];exact hcs
 .rw[WZ,DL];apply NN;intro k;rw[NE,Ny,Np];by_cases hk:k<ys.length
  .rw[Na hk,D8,hcell k hk (by omega)];simp[hk]
  rw[N7 hk,Nx (by omega)];rfl
 .intro u hu;obtain⟨n,_,rfl⟩:=NF.1 hu;rfl
 intro a b d hd;obtain⟨rfl,n,hn,rfl⟩:=X8f hd;exact⟨.int .i64 n,by simp[hn],CRel.lit _⟩
theorem X4i (zs:List Int) (hz:0<zs.length) (hl:zs.length<=17592186044416):ConR prog 46 3 1 (Xi zs) (Xi (zs.mergeSort fun x y=>decide (x<=y))):=by
 refine rowR_con (by kernel_rfl) zs _ hz (List.length_mergeSort _) fun g o cap w hH hg hcap hmax=>?_;have h:=Any.slices_Sort_int sortL g o cap zs w hH hg (by omega);refine h.mono ?_;rintro e w' ⟨rfl,q,os,rfl⟩;refine⟨rfl,?_⟩;have:=X5W w q g o os (zs.mergeSort fun x y=>decide (x<=y)) 0 hg;simpa using this
theorem X4G (d:Nat):Con prog 46 true [lI []] (.tup []) none d:=by
 refine⟨by kernel_rfl,fun F w vs hF hsz hargs=>?_⟩;obtain⟨l⟩:=vs
 match l,hsz with
 | [v0],_=>
   have a0:CRel F w (.sl 1 []) v0:=hargs 0 _ v0 rfl rfl
   have key:∃p cap,v0=.slice p 0 cap:=by
    cases a0 with
    |nil=>exact⟨_,_,rfl⟩
    |emp a cap=>exact⟨_,_,rfl⟩
    |sl rows b o cap cells=>exact⟨_,_,rfl⟩
   obtain⟨p,cap,rfl⟩:=key;refine(Any.slices_Sort_int_none sortL p cap w).mono ?_;rintro e w' ⟨rfl,rfl⟩;exact⟨_,fun _=>False,noγ,rfl,⟨rfl,rfl,rfl,NK _,fun _ _=>rfl⟩,fun b hb=>hb.elim,⟨#[],rfl,rfl,fun j t u h1 h2=>by simp at h1⟩,fun o ho=>by cases ho⟩
end Go.Proofs.YtdajceakaakdoaaGreat
namespace Go.Proofs.YtdajceakaakdoaaGreat
open Go Go.Hl
open Tryz(prog)
def Pd (N:List Nd) (steps:List St) (nv:Nat) (S:List (List Nat)) (i:Nat) (Q:Prop):Prop:=(∀j,j<i->clo N steps nv S j)/\Q
def toA (xn xo:Int) (k:Nat):Int:=if k=0 then xn else xo
def toR (xn xo:Int):List (List CD):=[[iC xn],[iC xo]]
@[simp] theorem toR_len (xn xo:Int):(toR xn xo).length=2:=rfl
theorem toA_get {xn xo:Int} {k:Nat} (h:k<2):(toR xn xo)[k]? =some [iC (toA xn xo k)]:=by
 match k,h with
 |0,_=>rfl
 |1,_=>rfl
def lS2 (S:List (List Nat)) (tq:Int) (l:List Nat):Prop:=∀d∈l,inS S tq d
theorem clo_of {N:List Nd} {steps:List St} {nv i:Nat} {S:List (List Nat)} {x:Nd} {Si l:List Nat} (hx:N[i]? =some x) (hS:S[i]? =some Si) (hl:∀d,d∈l↔d∈X6s steps nv Si x) (h:∀j,j<2->lS2 S (toA x.n x.o j) l):clo N steps nv S i:=by
 intro x' Si' hx' hS' d hd tq q ht hq;rw[hx]at hx';rw[hS]at hS';cases hx';cases hS';rcases ht with ht|ht
 .exact h 0 (by omega) d ((hl d).2 hd) tq q ht hq
 exact h 1 (by omega) d ((hl d).2 hd) tq q ht hq
def X3B (R:List (Option (List (List CD)))) (y:Nat) (out:List Nat):List (Option (List (List CD))):=R.set y (X2G out)
@[simp] theorem matY_len (R:List (Option (List (List CD)))) (y:Nat) (out:List Nat):(X3B R y out).length=R.length:=by simp[X3B]
theorem X1H {R:List (Option (List (List CD)))} {y:Nat} (h:y+1<=R.length) (out:List Nat):(X3B R y out)[y]? =some (X2G out):=by
 unfold X3B;rw[NX (by omega)]
theorem Xca {R:List (Option (List (List CD)))} {y:Nat} (h:y+1<=R.length):X1W (X3B R y []) y=true:=by
 unfold X1W;rw[X1H h];rfl
theorem X9t (R:List (Option (List (List CD)))) (y:Nat) (out:List Nat) (r:Option (List (List CD))):(X3B R y out).set y r=R.set y r:=by simp[X3B]
theorem X6x (R:List (Option (List (List CD)))) (y:Nat) (out l:List Nat) (d:Nat):(X3B R y out).set y (some (QJ l++[[iC d]]))=X3B R y (l++[d]):=by
 rw[X9t];simp[X3B,X2G]
theorem Xd1 {R:List (Option (List (List CD)))} {y:Nat} (h:R[y]? =some none):X3B R y []=R:=by
 unfold X3B X2G;rw[Na rfl];apply NN;intro k;rw[NY];split
 .rename_i e;subst e;rw[Na (N5.1 h).1,h]
 rfl
theorem rcL_row {N:List Nd} {steps:List St} {nv:Nat} {S:List (List Nat)} (g:Gs N steps nv S) (hc:∀i,i<N.length->clo N steps nv S i) (hlt:∀tq d,Rc N steps nv tq d->d<steps.length+nv) {i:Nat} {Si:List Nat} (hS:S[i]? =some Si):
  ∃l,(rcL N steps nv)[i]? =some l/\(∀x,x∈Si↔x∈l)/\∀out:List Nat,out.Nodup->(∀x,x∈out↔x∈Si)->Xi (srtN out)=QJ l:=by
 classical
 have hi:i<N.length:=by rw[<-g.len];exact(N5.1 hS).1
 refine⟨(List.range (steps.length+nv)).filter fun d=>decide (Rc N steps nv i d),by simp[rcL,hi],?_,fun out hn ho=>?_⟩
 .intro x;rw[NR,List.mem_range,N6];exact⟨fun h=>⟨g.lt Si (N3 hS) x h,g.snd i Si x hS h⟩,fun h=>clo_rc g hc hS h.2⟩
 refine srt_eq hn fun x=>?_;rw[ho,N6];exact⟨fun h=>⟨g.lt Si (N3 hS) x h,g.snd i Si x hS h⟩,fun h=>clo_rc g hc hS h.2⟩
theorem X84 (N:List Nd) (steps:List St) (nv:Nat):(rcL N steps nv).length=N.length:=by simp[rcL]
theorem X65 (d:Nat):Con prog 46 true [.one (.c (.lit XY))] (.tup []) none d:=by
 obtain⟨h1,h2⟩:=X4G d;refine⟨h1,fun F w vs hF hsz hargs=>h2 F w vs hF hsz fun j t u ht hu=>?_⟩;cases j with
 | zero=>
   cases ht;have a0:CRel F w (.lit XY) u:=hargs 0 _ u rfl hu;cases a0;exact CRel.nil 1
 |succ j=>simp at ht
set_option maxHeartbeats 8000000 in
theorem X7Y (f:Fl) (h:Sm f) (h0:Qa f=0) (d:Nat):Con prog 64 false [aF f,.agg [.c (grC f.body)]] (.tup [.one (.c (.sl 1 (Q8 (rcL (grN f.body) (flL f.body) f.vars.length)))),li 0]) none d:=by
 have cc:=X89 f h h0;have cf:=X8R f.body h.sz;have hok:=X88 (X0z h0);have hlen:=X1a (X0z h0);have hsl:=Q6 f.body;have hsz:=h.sz;have hwd:=X4I f.body;have hv:=h.vars;have caft:=Xcp f (grN f.body) (flL f.body);obtain⟨vars,hats,body⟩:=f;simp only at cf hok hlen hsl hsz hwd hv caft;obtain⟨N,hN⟩:∃x,grN body=x:=⟨_,rfl⟩;obtain⟨steps,hst⟩:∃x,flL body=x:=⟨_,rfl⟩;simp only[grC,hN]at cc;rw[hN]at hok hlen;rw[hN,hst]at caft;rw[<-hsl]at hok;rw[hst]at cf hsl hok;simp only[grC,hN,hst];have hN2:N.length<=2002:=by omega
 have hs2:steps.length<=1000:=by omega
 clear hN hst h h0 hlen hwd hsl hsz;refine X6 Tryz.func64 ?_;simp only[Tryz.f64];simp only[aF,Fl.enc,Ni,Nr]at cc⊢;refine X1 ?_;refine X0<|X0<|(Xo [⟨true,.v (li 0),none⟩] ?_ ?_)
 .first|exact cc _|exact trivial|simpa[*]using cc _
 refine X1 ?_;refine(Xc rfl (fun h3=>?_) fun h3=>?_)
 .exact Bool.noConfusion h3
 (try simp only[BN]at h3);refine Xk [⟨false,.v (lS steps),none⟩] ?_ ?_
 .first|exact cf _|exact trivial|simpa[*]using cf _
 have hbig:(8:Int)*N.length<=281474976710656:=by omega
 have hmx:N.length<=maxLen:=by unfold maxLen;omega
 refine X1 ?_;refine XB (le_mps 36 (by decide) rfl rfl rfl) ?_;refine X0<|X0<|X2 ?_;refine X3<|(Xd [2,3,7,8,38] (fun(y:Nat)=>[(39,.v (li y))]) (fun y=>[(2,.box [.c (.sl 5 (Xm vars)),.c (.sl 6 (Xn hats)),.c (.sl 10 (X7 body))]),(3,.box [.c (.sl 4 (Qx N))]),(7,.box [.c (.sl 10 (X7 steps))]),(8,.box [.own 36]),(36,.mps 191 (msI y N.length))]) (fun y=>y<=N.length) (fun y=>N.length - y) (0:Nat) (Nq _) ?_ ?_)
 .exact Xl (fun n=>n) [] rfl (by simp[*,upS,X5]) (by simp[*,upS,msI_zero]) (by simp[upS])
 rintro y hy;simp only[upS,X5,Xy]
 try simp only[X5,KN,Nat.reduceBEq,Nf,Nc,ins,Nat.reduceLT]
 refine X1 ?_;refine X0<|(X8 rfl (fun h11=>Xb ?_) (fun h11=>?_))
 ·(try simp only[BN]at h11);have hlt:y<N.length:=by omega
  have hw1:=XE hlt (by omega);have hk1:y+1<=N.length:=hlt;have hin:y<(msI y N.length).length:=by rw[msI_len hy];exact hlt
  have hfr:=msI_free hlt;have hset:=msI_set hlt;clear hlt h11;refine X0<|X3<|X0<|X2 ?_;refine X2 ?_;refine X2 ?_;exact⟨y+1,hk1,by omega,X4 (fun n=>n) []⟩
 (try simp only[BN]at h11);have hyn:y=N.length:=by omega
 subst hyn;rw[msI_end];refine(Xg ?_);refine X1 ?_;refine X1 ?_;refine X0<|X0<|X2 ?_;refine X3<|(Xd [3,8,11] (fun(y:Bool×List (List Nat))=>[(12,.v (lb y.1))]) (fun(y:Bool×List (List Nat))=>[(2,.box [.c (.sl 5 (Xm vars)),.c (.sl 6 (Xn hats)),.c (.sl 10 (X7 body))]),(3,.box [.c (.sl 4 (Qx N))]),(7,.box [.c (.sl 10 (X7 steps))]),(8,.box [.own 36]),(10,.box [.fn 122 [(7,0)]]),(36,.mps 191 (msS y.2))]) (fun(y:Bool×List (List Nat))=>Gs N steps vars.length y.2/\(y.1=false->∀i,i<N.length->clo N steps vars.length y.2 i)) (fun(y:Bool×List (List Nat))=>2*(N.length*(steps.length+vars.length)+1 - Zg y.2)+(if y.1=true then 1 else 0)) (true,List.replicate N.length []) ⟨Gs.empty ..,fun h=>by cases h⟩ ?_ ?_)
 .exact X4 (fun n=>n) []
 rintro⟨c0,S0⟩ ⟨hg0,hcl0⟩;simp only[upS,X5,Xy]
 try simp only[X5,KN,Nat.reduceBEq,Nf,Nc,ins,Nat.reduceLT]
 simp only at hg0 hcl0;refine X0<|X0<|X2 ?_;refine(X8 rfl (fun h21=>Xb ?_) (fun h21=>?_))
 ·(try simp only[BN]at h21);have hc0:c0=true:=by simpa using h21
  subst hc0;clear hcl0 h21;have htot0:=X8G hg0;refine X3<|X0<|X2 ?_;refine X1 ?_;refine X3<|(Xd [3,8,11,51,52] (fun(y:Nat×Bool×List (List Nat))=>[(12,.v (lb y.2.1)),(53,.v (li y.1))]) (fun(y:Nat×Bool×List (List Nat))=>[(2,.box [.c (.sl 5 (Xm vars)),.c (.sl 6 (Xn hats)),.c (.sl 10 (X7 body))]),(3,.box [.c (.sl 4 (Qx N))]),(7,.box [.c (.sl 10 (X7 steps))]),(8,.box [.own 36]),(10,.box [.fn 122 [(7,0)]]),(36,.mps 191 (msS y.2.2))]) (fun(y:Nat×Bool×List (List Nat))=>y.1<=N.length/\Inv N steps vars.length S0 y.2.2 y.2.1 (Pd N steps vars.length S0 y.1 True)) (fun(y:Nat×Bool×List (List Nat))=>N.length - y.1) (0,false,S0) ⟨Nq _,hg0,NK _,fun h=>(by cases h),fun _=>⟨rfl,fun j hj=>absurd hj (Dy j),trivial⟩⟩ ?_ ?_)
  .exact X4 (fun n=>n) []
  rintro⟨i,c1,S1⟩ ⟨hi,hI⟩;simp only[upS,X5,Xy]
  try simp only[X5,KN,Nat.reduceBEq,Nf,Nc,ins,Nat.reduceLT]
  simp only at hi hI;refine X1 ?_;refine X0<|(X8 rfl (fun h26=>Xb ?_) (fun h26=>?_))
  ·(try simp only[BN]at h26);have hlt:i<N.length:=by omega
   have hw1:=XE hlt (by omega);have hk1:i+1<=N.length:=hlt;obtain⟨x,hx,_⟩:=Xu hlt;obtain⟨Si,hS,_⟩:=Xu (show i<S1.length by rw[hI.g.len];exact hlt);have hxe:=X3D hx;have hxo:=hok x (N3 hx);have hSm:Si∈S1:=N3 hS;have ca:=caft S1 i x Si hx hS (by omega) hv (Dx (Wz (hI.g.nod Si hSm) (hI.g.lt Si hSm)) (by omega)) (fun d hd=>by have:=hI.g.lt Si hSm d hd;omega) hxo.ha 60 (by decide);obtain⟨xk,xa,xn,xo⟩:=x;simp only[Nd.enc]at hxe;simp only[Fl.enc,setsC,kC]at ca;clear hlt h26;refine X0<|X3<|X0<|(Xp (by simp[*,XO];rfl) ?_);refine X0<|(Xw ?_);refine RunsN.cutE 2 [] (by simp;rfl) trivial (le_refl _) ?_;refine RunsN.callFA ca fun l hl=>?_;refine RunsN.doneE [] (by simp[HS.made];rfl) trivial ?_;have hrc:∀d∈l,∀tq,WW ⟨xk,xa,xn,xo⟩ tq->Rc N steps vars.length tq d:=fun d hd tq ht=>aft_rc hI.g hx hS ((hl.1 d).1 hd) ht
   have hrl:∀d∈l,∀tq,WW ⟨xk,xa,xn,xo⟩ tq->d<steps.length+vars.length:=fun d hd tq ht=>rc_lt (fun x hx ha=>by
    rcases(hok x hx).ha with h|⟨m,h1,h2⟩
    .simp[W3,h.1]at ha
    rw[h1];simpa using h2) (hrc d hd tq ht)
   have hclo:∀S,S=S0->c1=false->(∀j,j<2->lS2 S (toA xn xo j) l)->clo N steps vars.length S0 i:=by
    intro S hS0 hc h;obtain⟨h1,_⟩:=hI.same hc;subst h1;subst hS0;exact clo_of hx hS hl.1 h
   have hS1c:c1=false->S1=S0:=fun hc=>(hI.same hc).1;have hll:=hl.2;clear ca hxe hS hSm caft;refine X1 ?_;refine X3<|(Xd [3,8,11,15,51,52,53,65,66] (fun(y:Nat×Bool×List (List Nat))=>[(12,.v (lb y.2.1)),(67,.v (li y.1))]) (fun(y:Nat×Bool×List (List Nat))=>[(2,.box [.c (.sl 5 (Xm vars)),.c (.sl 6 (Xn hats)),.c (.sl 10 (X7 body))]),(3,.box [.c (.sl 4 (Qx N))]),(7,.box [.c (.sl 10 (X7 steps))]),(8,.box [.own 36]),(10,.box [.fn 122 [(7,0)]]),(36,.mps 191 (msS y.2.2)),(60,.row 3 1 (QJ l)),(65,.row 3 1 (toR xn xo))]) (fun(y:Nat×Bool×List (List Nat))=>y.1<=2/\Inv N steps vars.length S0 y.2.2 y.2.1 (Pd N steps vars.length S0 i (c1=false/\∀j,j<y.1->lS2 S0 (toA xn xo j) l))) (fun(y:Nat×Bool×List (List Nat))=>2 - y.1) (0,c1,S1) ⟨Nq _,⟨hI.g,hI.tot,hI.up,fun hc=>⟨(hI.same hc).1,(hI.same hc).2.1,hc,fun j hj=>absurd hj (Dy j)⟩⟩⟩ ?_ ?_)
   .exact Xl (fun n=>n) [] rfl (by simp[*,upS,X5]) (by simp[*,upS,toR]) (by simp[upS])
   rintro⟨k,c2,S2⟩ ⟨hk,hI2⟩;simp only[upS,X5,Xy]
   try simp only[X5,KN,Nat.reduceBEq,Nf,Nc,ins,Nat.reduceLT]
   simp only at hk hI2;refine X1 ?_;refine X0<|(X8 rfl (fun h32=>Xb ?_) (fun h32=>?_))
   .try simp only[BN]at h32
    have hk2:k<2:=by
     have:(k:Int)<2:=by simpa using h32
     omega
    have hwk:=XE hk2 (by omega);have hkk:k+1<=2:=hk2;have hto:=toA_get (xn:=xn) (xo:=xo) hk2
    have hsuc:∀t:Nat,toA xn xo k=t->WW ⟨xk,xa,xn,xo⟩ t:=by
     intro t ht;unfold toA at ht;split at ht
     .exact .inl ht
     exact .inr ht
    have htok:X59 N.length (toA xn xo k):=by
     unfold toA;split
     .exact hxo.hn
     exact hxo.ho
    obtain⟨tq,hto1⟩:∃x,toA xn xo k=x:=⟨_,rfl⟩;rw[hto1]at hto hsuc htok;clear h32 hk2;refine X0<|X3<|X0<|X2 ?_;refine X1 ?_;refine X3<|(Xd [3,8,11,15,17,51,52,53,65,66,67,71,72] (fun(y:Nat×Bool×List (List Nat))=>[(12,.v (lb y.2.1)),(73,.v (li y.1))]) (fun(y:Nat×Bool×List (List Nat))=>[(2,.box [.c (.sl 5 (Xm vars)),.c (.sl 6 (Xn hats)),.c (.sl 10 (X7 body))]),(3,.box [.c (.sl 4 (Qx N))]),(7,.box [.c (.sl 10 (X7 steps))]),(8,.box [.own 36]),(10,.box [.fn 122 [(7,0)]]),(36,.mps 191 (msS y.2.2)),(60,.row 3 1 (QJ l)),(65,.row 3 1 (toR xn xo))]) (fun(y:Nat×Bool×List (List Nat))=>y.1<=l.length/\Inv N steps vars.length S0 y.2.2 y.2.1 (Pd N steps vars.length S0 i (c1=false/\(∀j,j<k->lS2 S0 (toA xn xo j) l)/\lS2 S0 tq (l.take y.1)))) (fun(y:Nat×Bool×List (List Nat))=>l.length - y.1) (0,c2,S2) ⟨Nq _,hI2.mono fun _ h=>⟨h.1,h.2.1,h.2.2,fun d hd=>by simp at hd⟩⟩ ?_ ?_)
    .exact X4 (fun n=>n) []
    rintro⟨m,c3,S3⟩ ⟨hm,hI3⟩;simp only[upS,X5,Xy]
    try simp only[X5,KN,Nat.reduceBEq,Nf,Nc,ins,Nat.reduceLT]
    simp only at hm hI3;refine X1 ?_;refine X0<|(X8 rfl (fun h37=>Xb ?_) (fun h37=>?_))
    ·(try simp only[BN]at h37);have hml:m<l.length:=by simpa using h37
     have hwm:=XE hml (by omega);have hm1:m+1<=l.length:=hml;obtain⟨d,hd,_⟩:=Xu hml;have hde:(QJ l)[m]? =some [iC d]:=by simp[QJ,hd]
     have hdm:=N3 hd;clear h37 hml;refine X0<|X3<|X0<|X2 ?_;refine XM [3,8,11,12,15,17,19,51,52,53,65,66,67,71,72,73] (fun(q:Bool)=>[(87,.v (lb q))]) (fun(q:Bool)=>[(2,.box [.c (.sl 5 (Xm vars)),.c (.sl 6 (Xn hats)),.c (.sl 10 (X7 body))]),(3,.box [.c (.sl 4 (Qx N))]),(7,.box [.c (.sl 10 (X7 steps))]),(8,.box [.own 36]),(10,.box [.fn 122 [(7,0)]]),(36,.mps 191 (msS S3)),(60,.row 3 1 (QJ l)),(65,.row 3 1 (toR xn xo))]) (fun(q:Bool)=>(q=true->∃(t:Nat) (Lt:List Nat),tq=t/\S3[t]? =some Lt/\d∉Lt)/\(q=false->inS S3 tq d)) ?_ ?_
     .rcases htok with rfl|⟨t,rfl,htl⟩
      .refine Xp (by simp[*];rfl) ?_;refine⟨false,⟨fun h=>(by cases h),fun _ m l hm=>by omega⟩,Xl (fun n=>n) [] rfl (by simp[upS,X5]) (by simp[upS]) (by simp[upS])⟩
      obtain⟨Lt,hLt,_⟩:=Xu (show t<S3.length by rw[hI3.g.len];exact htl);have hms:=XbK hLt;have hfd:=X61 d Lt;have htl2:t+1<=S3.length:=by rw[hI3.g.len];exact htl
      by_cases hin:d∈Lt
      .rw[Na hin]at hfd;refine Xp (by simp[hwm,hms,hfd,htl2];rfl) ?_;refine⟨false,⟨fun h=>(by cases h),fun _ m l hm hl2=>by rw[<-Int.ofNat.inj hm,hLt]at hl2;cases hl2;exact hin⟩,Xl (fun n=>n) [] rfl (by simp[upS,X5]) (by simp[upS]) (by simp[upS])⟩
      rw[N7 hin]at hfd;refine Xp (by simp[hwm,hms,hfd,htl2];rfl) ?_;refine⟨true,⟨fun _=>⟨t,Lt,rfl,hLt,hin⟩,fun h=>(by cases h)⟩,Xl (fun n=>n) [] rfl (by simp[upS,X5]) (by simp[upS]) (by simp[upS])⟩
     rintro q hq;simp only[upS,X5,Xy]
     try simp only[X5,KN,Nat.reduceBEq,Nf,Nc,ins,Nat.reduceLT]
     refine(Xc rfl (fun h40=>?_) fun h40=>?_)
     ·(try simp only[BN]at h40);obtain⟨t,Lt,rfl,hLt,hnd⟩:=hq.1 (by simpa using h40);have hms:=XbK hLt;have hfd:=X61 d Lt;rw[N7 hnd]at hfd;have htl2:t+1<=S3.length:=(N5.1 hLt).1;have hset:=set_msS S3 t Lt d;have hinv:=hI3.add (Q:=Pd N steps vars.length S0 i (c1=false/\(∀j,j<k->lS2 S0 (toA xn xo j) l)/\lS2 S0 (t:Int) (l.take (m+1)))) hLt hnd (hrl d hdm t (hsuc t rfl)) (hrc d hdm t (hsuc t rfl));clear hq h40 hI3 hnd hLt;refine X0<|(Xp (by simp[hms,hfd,htl2,hset];rfl) ?_);refine X2 ?_;refine X2 ?_;exact⟨(m+1,true,S3.set t (Lt++[d])),⟨hm1,hinv⟩,by simp only;omega,X4 (fun n=>n) []⟩
     (try simp only[BN]at h40);have hq2:=hq.2 (by simpa using h40);clear hq h40;refine X2 ?_
     exact⟨(m+1,c3,S3),⟨hm1,hI3.mono fun hs h=>⟨h.1,h.2.1,h.2.2.1,fun e he=>by
      rw[List.take_add_one,hd]at he;rcases Ng.1 he with h4|h4
      .exact h.2.2.2 e h4
      have:e=d:=by simpa using h4
      rw[this,<-hs];exact hq2⟩⟩,by simp only;omega,X4 (fun n=>n) []⟩
    try simp only[BN]at h37
    have hml:m=l.length:=by
     have:¬m<l.length:=by simpa using h37
     omega
    subst hml;rw[List.take_length]at hI3;clear h37;refine(Xg ?_);refine X2 ?_
    exact⟨(k+1,c3,S3),⟨hkk,hI3.mono fun _ h=>⟨h.1,h.2.1,fun j hj=>by
     rcases Nat.lt_or_eq_of_le (Nat.le_of_lt_succ hj)with h4|h4
     .exact h.2.2.1 j h4
     rw[h4,hto1];exact h.2.2.2⟩⟩,by simp only;omega,X4 (fun n=>n) []⟩
   try simp only[BN]at h32
   have hk2:k=2:=by
    have:¬(k:Int)<2:=by simpa using h32
    omega
   subst hk2;clear h32;refine(Xg ?_);refine X2 ?_
   exact⟨(i+1,c2,S2),⟨hk1,hI2.mono fun hs h=>⟨fun j hj=>by
    rcases Nat.lt_or_eq_of_le (Nat.le_of_lt_succ hj)with h4|h4
    .exact h.1 j h4
    rw[h4];exact hclo S2 hs h.2.1 (by rw[hs];exact h.2.2),trivial⟩⟩,by simp only;omega,X4 (fun n=>n) []⟩
  (try simp only[BN]at h26);have hin:i=N.length:=by omega
  subst hin;have htot1:=X8G hI.g;refine(Xg ?_)
  exact⟨(c1,S1),⟨hI.g,fun hc j hj=>by obtain⟨rfl,h1,_⟩:=hI.same hc;exact h1 j hj⟩,by
   simp only;cases c1 with
   |true=>have:=hI.up rfl;simp only[Nf];omega
   |false=>obtain⟨rfl,_⟩:=hI.same rfl;simp,X4 (fun n=>n) []⟩
 (try simp only[BN]at h21);have hc0:c0=false:=by simpa using h21
 subst hc0;have hcl:=hcl0 rfl
 have hlt:∀tq d,Rc N steps vars.length tq d->d<steps.length+vars.length:=fun tq d h=>rc_lt (fun x hx ha=>by
  rcases(hok x hx).ha with h|⟨m,h1,h2⟩
  .simp[W3,h.1]at ha
  rw[h1];simpa using h2) h
 have hrow:=fun {i:Nat} {Si:List Nat}=>rcL_row (i:=i) (Si:=Si) hg0 hcl hlt;have hLl:=X84 N steps vars.length;obtain⟨L,hL⟩:∃x,rcL N steps vars.length=x:=⟨_,rfl⟩;rw[hL]at hLl⊢;simp only[hL]at hrow;have hSl:=hg0.len;have hbig2:(24:Int)*N.length<=281474976710656:=by omega
 have hSb:∀Si∈S0,Si.Nodup/\Si.length<=2000:=fun Si h=>⟨hg0.nod Si h,Dx (Wz (hg0.nod Si h) (hg0.lt Si h)) (by omega)⟩;clear hcl0 h21 hcl hlt hL caft hg0 hy h11 cf cc hok;refine(Xg ?_);refine XB (le_frzQ 36 rfl) ?_;refine XB (s':=⟨⟨129,none⟩,[(8,.v (.one (.at_ 8 0)))],[(8,.box [.c (.sl 1 (S0.map fun l=>[.mp (mpI l)]))])]⟩) (Xl (fun n=>n) [] rfl (by simp[HS.frz,W9,RV.frz,TV.frz,CV.frz]) (by simp[HS.frz,W9,Ob.frz,CV.frz,del]) (by simp)) ?_;refine X1 ?_;refine XB (XaX 98 3 1 (by decide) (by decide) rfl rfl rfl) ?_;refine X0<|X0<|X2 ?_;refine X3<|(Xd [20,99,100] (fun(y:Nat)=>[(101,.v (li y))]) (fun y=>[(98,.mat 29 3 1 (rwI L y N.length))]) (fun y=>y<=N.length) (fun y=>N.length - y) (0:Nat) (Nq _) ?_ ?_)
 .exact Xl (fun n=>n) [] rfl (by simp[*,upS,X5]) (by simp[*,upS,rwI_zero]) (by simp[upS])
 rintro y hy;simp only[upS,X5,Xy]
 try simp only[X5,KN,Nat.reduceBEq,Nf,Nc,ins,Nat.reduceLT]
 refine X1 ?_;refine X0<|(X8 rfl (fun h56=>Xb ?_) (fun h56=>?_))
 ·(try simp only[BN]at h56);have hlt:y<N.length:=by omega
  have hw1:=XE hlt (by omega);have hk1:y+1<=N.length:=hlt;obtain⟨Si,hS,_⟩:=Xu (show y<S0.length by omega);have hSr:(S0.map fun l=>[CD.mp (mpI l)])[y]? =some [CD.mp (mpI Si)]:=by simp[hS]
  obtain⟨hnod,hSi⟩:=hSb Si (N3 hS);obtain⟨lr,hlr,hmemr,hsrt⟩:=hrow hS;have hget:=rwI_get hlt hLl;have hRs:=rwI_set hlr hlt hLl;have hRl:y+1<=(rwI L y N.length).length:=by rw[rwI_len hy hLl];exact hlt
  obtain⟨R,hR⟩:∃x,rwI L y N.length=x:=⟨_,rfl⟩;rw[hR]at hget hRs hRl⊢;have hz:=Xd1 hget;clear hrow hSb hlt h56 hR hget hlr hS;refine X0<|X3<|X0<|X2 ?_;refine X0<|X0<|X2 ?_;refine X3<|(Xd [20,21,99,100,101,107] (fun(z:List Nat×List Nat)=>[]) (fun z=>[(98,.mat 29 3 1 (X3B R y z.2)),(107,.it (mpI Si) z.1)]) (fun z=>z.1.Nodup/\X3z z.1 Si.length/\(∀d,d∈z.2↔∃j∈z.1,Si[j]? =some d)/\z.2.Nodup/\z.2.length<=z.1.length) (fun z=>Si.length - z.1.length) ([],[]) ⟨List.nodup_nil,by simp[X3z],by simp,List.nodup_nil,NK _⟩ ?_ ?_)
  .exact X4 (fun n=>n) []
  rintro⟨seen,out⟩ ⟨j1,j2,j3,j4,j5⟩;simp only[upS,X5,Xy]
  try simp only[X5,KN,Nat.reduceBEq,Nf,Nc,ins,Nat.reduceLT]
  simp only at j1 j2 j3 j4 j5;refine X6o (fun j k v hj hn=>?_) (fun hall=>?_)
  skip
  ·(try simp only[BN]at h61);obtain⟨d,hd,rfl,rfl⟩:=XbH hj;have hjl:j<Si.length:=(N5.1 hd).1
   have hnd:(seen++[j]).Nodup:=by
    rw[List.nodup_append];exact⟨j1,by simp,fun a ha b hb=>by rw[Nk.1 hb];exact fun e=>hn (e▸ha)⟩
   have hin:X3z (seen++[j]) Si.length:=fun i hi=>by
    rcases Ng.1 hi with h|h
    .exact j2 i h
    rw[Nk.1 h];exact hjl
   have hle:=Wz hnd hin;simp only[N9,List.length_singleton]at hle
   have hmem:∀x,x∈out++[d]↔∃i∈seen++[j],Si[i]? =some x:=by
    intro x;rw[Ng,j3,Nk];constructor
    .rintro(⟨i,h1,h2⟩|rfl)
     .exact⟨i,List.mem_append_left _ h1,h2⟩
     exact⟨j,by simp,hd⟩
    rintro⟨i,h1,h2⟩;rcases Ng.1 h1 with h1|h1
    .exact .inl ⟨i,h1,h2⟩
    rw[Nk.1 h1,hd]at h2;exact .inr (Option.some.inj h2).symm
   have hdo:d∉out:=by
    intro h;obtain⟨i,h1,h2⟩:=(j3 d).1 h;have:=(List.getElem?_inj hjl hnod).1 (hd.trans h2.symm);exact hn (this▸h1)
   have hon:(out++[d]).Nodup:=by
    rw[List.nodup_append];exact⟨j4,by simp,fun a ha b hb=>by rw[Nk.1 hb];exact fun e=>hdo (e▸ha)⟩
   clear hjl j1 j3 j4 hn hdo hnod;refine X3<|X0<|X2 ?_;cases out with
   | nil=>
     have g1:=X1H hRl [];have g2:=Xca hRl;have g3:=X6x R y [] [] d;have hroom:W4 1 8:=XX (by omega) (by decide);simp only[X2G,Nf]at g1;simp only[encD_nil,List.nil_append]at g3;refine Xp (by simp[g1,g2,g3,hRl,hroom];rfl) ?_;exact⟨(seen++[j],[d]),⟨hnd,hin,hmem,hon,by simp⟩,by simp only[N9,List.length_singleton];omega,Xl (fun n=>n) [] rfl (by simp[upS,X5]) (by simp[upS]) (by simp[upS])⟩
   | cons a o=>
     have g1:=X1H hRl (a::o);have g3:=X6x R y (a::o) (a::o) d;have hroom:W4 ((a::o).length+1) 8:=XX (by omega) (by decide);simp only[X2G,List.cons_ne_nil,Nc]at g1;rw[List.length_cons]at hroom;refine Xw ?_;refine RunsN.cutE 8 [] (by simp[g1,hRl];rfl) trivial (le_refl _) ?_;refine RunsN.matA (by simp[X9c,neT,g1,g3,hroom];rfl) ?_;refine RunsN.doneE [] rfl trivial ?_;exact⟨(seen++[j],a::o++[d]),⟨hnd,hin,hmem,hon,by simp only[N9,List.length_singleton]at j5⊢;omega⟩,by simp only[N9,List.length_singleton];omega,Xl (fun n=>if n=98 then 120 else n) [] rfl (by simp[upS,X5,W9,RV.mv,TV.mv,CV.mv]) (by simp[upS,W9,Ob.mv,CV.mv]) (by simp[upS])⟩
  try simp only[BN]at h61
  have hout:∀x,x∈out↔x∈Si:=by
   intro x;rw[j3];constructor
   .rintro⟨i,_,h2⟩;exact N3 h2
   intro h;obtain⟨i,hi⟩:=NL.1 h;exact⟨i,hall i (by rw[Xbm];exact(N5.1 hi).1),hi⟩
  have hle:=Wz j1 j2;have hsrt:=hsrt out j4 hout
  have hlr0:lr=[]↔out=[]:=by
   constructor
   .intro h;rw[List.eq_nil_iff_forall_not_mem];intro x hx;have:=(hmemr x).1 ((hout x).1 hx);rw[h]at this;cases this
   intro h;rw[List.eq_nil_iff_forall_not_mem];intro x hx;have:=(hout x).2 ((hmemr x).2 hx);rw[h]at this;cases this
  have hfin:=X9t R y out (X2G lr);rw[hRs]at hfin;clear hall j1 j2 j3 j4 hRs hz hmemr hnod;refine(Xg ?_);cases out with
  | nil=>
    have g1:=X1H hRl [];have hlr1:=hlr0.2 rfl;subst hlr1
    have hz2:X3B R y []=rwI L (y+1) N.length:=by
     rw[<-hfin];apply NN;intro k;rw[NY];split
     .rename_i e;subst e;rw[Na (by rw[matY_len];omega),g1]
     rfl
    simp only[X2G,Nf]at g1;refine Wj [⟨true,.tup [],none⟩] (by simp[g1,hRl];first|exact⟨rfl,Iff.rfl⟩|exact⟨rfl,trivial⟩|rfl) ?_ ?_
    .first|exact X65 _|simpa using X65 _
    refine Xp (by simp[hw1];rfl) ?_;exact⟨y+1,hk1,by omega,Xl (fun n=>n) [] rfl (by simp[upS,X5]) (by simp[upS,hz2]) (by simp[upS])⟩
  | cons a o=>
    have g1:=X1H hRl (a::o);have hlr1:¬lr=[]:=fun h=>by have:=hlr0.1 h;cases this
    simp only[X2G,List.cons_ne_nil,Nc]at g1;simp only[X2G,hlr1,Nc]at hfin;have cs:=X4i ((a::o).map Int.ofNat) (by simp) (by simp only[NO];omega);rw[<-X10,show Xi (((a::o).map Int.ofNat).mergeSort fun x y=>decide (x<=y))=QJ lr from hsrt]at cs;refine Xw ?_;refine RunsN.cutE 4 [] (by simp[g1,hRl];rfl) trivial (le_refl _) ?_;refine RunsN.subA (by simp[X8Z,X23,g1];exact⟨rfl,rfl,rfl,rfl,rfl⟩) cs ?_;refine RunsN.doneE [] rfl trivial ?_;refine Xp (by simp[hw1];rfl) ?_;exact⟨y+1,hk1,by omega,Xl (fun n=>n) [] rfl (by simp[upS,X5]) (by simp[upS,hfin]) (by simp[upS])⟩
 (try simp only[BN]at h56);have hyn:y=N.length:=by omega
 subst hyn;have hend:=rwI_end hLl;clear hrow hSb;refine(Xg ?_);refine X1 ?_;refine XB (X9P 98 rfl) ?_;exact Qe ⟨.inr rfl,_,le_refl _,⟨_,by simp[HS.frz,W9,RV.frz,TV.frz,CV.frz];rfl,by simp[XL,hend]⟩,by simp,fun h=>by cases h⟩
mutual
def arS:St->Int->Nat->List Int
 | .mk _ _ _ _ _ a b _,outer,at_=>outer::(arL a at_ (at_+1)++arL b at_ (at_+1+szL a))
def arL:List St->Int->Nat->List Int
 |[],_,_=>[]
 |s::l,outer,at_=>arS s outer at_++arL l outer (at_+szS s)
end
@[simp] theorem encIs_app (a b:List Int):Xi (a++b)=Xi a++Xi b:=by simp[Xi]
mutual
theorem X83 {vars:List Vr} {inp:Bool}:∀t:Tm,QT vars inp t=true->∀v∈tmV t,0<=v/\v.toNat<vars.length
 | .mk o n ks,h,v,hv=>by
   simp only[QT,N4]at h;simp only[tmV,Ng]at hv;rcases hv with hv|hv
   .split at hv
    .rename_i h24;rw[Nk.1 hv];have h1:=h.1;unfold Qi at h1;rw[N7 (by omega),Na h24]at h1;simp only[N4]at h1;have h2:=h1.2;unfold ZX at h2;simp only[N4,N6]at h2;refine⟨h2.1,?_⟩;cases hw:vars[n.toNat]? with
     |none=>rw[hw]at h2;exact absurd h2.2 (by simp)
     |some w=>exact(N5.1 hw).1
    cases hv
   exact X8g ks h.2 v hv
theorem X8g {vars:List Vr} {inp:Bool}:∀l:List Tm,WC vars inp l=true->∀v∈ZV l,0<=v/\v.toNat<vars.length
 |[],_,v,hv=>by simp[ZV]at hv
 | t::l,h,v,hv=>by
   simp only[WC,N4]at h;simp only[ZV,Ng]at hv;rcases hv with hv|hv
   .exact X83 t h.1 v hv
   exact X8g l h.2 v hv
end
section
variable {N:List Nd} {steps:List St} {vars:List Vr} {nh:Nat} {hv:List Int} {K:Nat->Bool} {ar:List Int} {kO:Nat->Bool}
def upK (ar:List Int) (K:Nat->Bool):Prop:=∀(j:Nat) a,ar[j]? =some a->0<=a->K j=true->K a.toNat=true
structure Slc (N:List Nd) (steps:List St) (nv:Nat) (ar:List Int) (K:Nat->Bool):Prop where
 src:∀(o:Nat) q,K o=true->steps[o]? =some q->∀(k:Nat) (x:Nd),N[k]? =some x->x.k≠4->x.a=(o:Int)->∀d,Rc N steps nv k d->Qr steps d∈tmV q.term->d<steps.length->K d=true
 up:upK ar K
end
end Go.Proofs.YtdajceakaakdoaaGreat
namespace Go.Proofs.YtdajceakaakdoaaGreat
open Go Go.Hl
open Tryz(prog)
theorem X48 {f:Fl} (h:Sm f) (h0:Qa f=0):Lies (grN f.body) (flL f.body) f.vars f.hats.length f.body 0 1 (1+wdL f.body) where
 g:=X8l f.body true (W6 h0).2.2.2.1
 wf:=(XbJ h.bnd h0).1
 nd:=by
  have:Sub (grN f.body) 0 (grN f.body):=Sub.of_self _;exact(Sub.cons this).2.app.1
 st:=Sub.of_self _
structure Gw (N:List Nd) (steps:List St):Prop where
 ent:∃x,N[0]? =some x/\x.k=0
 k0:∀(i:Nat) x,N[i]? =some x->x.k=0->i=0
 n0:∀x∈N,x.n≠0/\x.o≠0
 inj:∀(i j:Nat) x y,N[i]? =some x->N[j]? =some y->W3 steps x=true->W3 steps y=true->x.a=y.a->i=j
 asg:∀x∈N,W3 steps x=true->(∃a:Nat,x.a=a/\a<steps.length)/\0<=Zt steps x
theorem varOf_at {steps:List St} {x:Nd} {a:Nat} (hx:x.a=a) (ha:a<steps.length):Qr steps a=Zt steps x:=by
 unfold Qr Zt;rw[hx,Int.toNat_natCast,NA ha]
theorem XcP (steps:List St) (v:Nat):Qr steps (steps.length+v)=v:=by
 unfold Qr;rw[Nx (by omega)];simp only[Int.natCast_add];omega
section
variable {N:List Nd} {df:Nd->Int} {v:Int} {i0:Nat}
end
mutual
theorem layS_n0:∀(s:St) (p:Int) (k after:Nat),1<=after->∀x∈X1u s p k after,x.k≠0/\x.n≠0/\x.o≠0
 | .mk o c v q t a b bs,p,k,after,haf,x,hx=>by
   unfold X1u at hx;split at hx
   .rcases Nh.1 hx with rfl|hx
    .refine⟨by simp,?_,?_⟩<;>(simp only;split<;>omega)
    rcases Ng.1 hx with hx|hx
    .exact X2n a _ _ _ haf x hx
    exact X2n b _ _ _ haf x hx
   split at hx
   .rcases Nh.1 hx with rfl|hx
    .refine⟨by simp,?_,by simp⟩;simp only;omega
    rcases Nh.1 hx with rfl|hx
    .refine⟨by simp,?_,?_⟩
     .simp only;split<;>omega
     simp only;omega
    exact X2n a _ _ _ (by omega) x hx
   rw[Nk.1 hx];refine⟨by simp,?_,by simp⟩;simp only;omega
theorem X2n:∀(l:List St) (p:Int) (k after:Nat),1<=after->∀x∈X0d l p k after,x.k≠0/\x.n≠0/\x.o≠0
 |[],_,_,_,_,x,hx=>by simp[X0d]at hx
 | s ::l,p,k,after,haf,x,hx=>by
   unfold X0d at hx;rcases Ng.1 hx with hx|hx
   .refine layS_n0 s p k _ ?_ x hx;split
    .exact haf
    have:=X7B s;omega
   exact X2n l _ _ _ haf x hx
end
theorem pw_at {T:Type} {r:T->T->Prop} {l:List T} (h:l.Pairwise r) {i j:Nat} {x y:T} (hi:l[i]? =some x) (hj:l[j]? =some y) (hij:i<j):r x y:=by
 obtain⟨h1,e1⟩:=N5.1 hi;obtain⟨h2,e2⟩:=N5.1 hj;rw[<-e1,<-e2];exact List.pairwise_iff_getElem.1 h i j h1 h2 hij
theorem nums_at {N:List Nd} (h:((N.filter rdB).map (·.a)).Pairwise (· < ·)):∀(i j:Nat) (x y:Nd),N[i]? =some x->N[j]? =some y->rdB x=true->rdB y=true->i<j->x.a<y.a:=by
 have h2:N.Pairwise fun x y=>rdB x=true->rdB y=true->x.a<y.a:=by
  rw[List.pairwise_map,List.pairwise_filter]at h;exact h.imp fun h a b=>h a b
 intro i j x y hi hj hx hy hij;exact pw_at h2 hi hj hij hx hy
theorem asg_rd {steps:List St} {x:Nd} (h:W3 steps x=true) (ha:0<=x.a):rdB x=true:=by
 unfold W3 at h;simp only[N4,N6]at h;simp[rdB,ha,h.1]
theorem grN_w {f:Fl} (hg:gL f.body=true) (hs:∀q∈flL f.body,q.do_=0\/q.do_=5->0<=q.var):Gw (grN f.body) (flL f.body):=by
 have hok:=X88 hg;have hnum:=nums_at (grN_nums hg);rw[<-Q6]at hok
 have hasg:∀x∈grN f.body,W3 (flL f.body) x=true->(∃a:Nat,x.a=a/\a<(flL f.body).length)/\0<=Zt (flL f.body) x:=by
  intro x hx ha
  have hk:x.k=2:=by
   unfold W3 at ha;simp only[N4,N6]at ha;exact ha.1
  obtain⟨a,h1,h2⟩:=(hok x hx).ha.resolve_left fun h=>h.1 hk;refine⟨⟨a,h1,h2⟩,?_⟩;unfold W3 at ha;unfold Zt;rw[h1,Int.toNat_natCast,NA h2]at ha⊢;simp only[N4,Nl,N6]at ha;exact hs _ (DA h2) (by simpa using ha.2)
 refine⟨⟨_,rfl,rfl⟩,?_,?_,?_,hasg⟩
 .intro i x hi h0;cases i with
  |zero=>rfl
  | succ i=>
    have hm:x∈X0d f.body 0 1 (1+wdL f.body)++[⟨1,-1,-1,-1⟩]:=N3 (by simpa[grN]using hi);rcases Ng.1 hm with h|h
    .exact absurd h0 (X2n _ _ _ _ (by omega) x h).1
    rw[Nk.1 h]at h0;simp at h0
 .intro x hx;unfold grN at hx;rcases Nh.1 hx with rfl|hx
  .refine⟨?_,by simp⟩;simp only;split<;>omega
  rcases Ng.1 hx with h|h
  .exact(X2n _ _ _ _ (by omega) x h).2
  rw[Nk.1 h];simp
 intro i j x y hi hj hx hy he;have rx:=asg_rd hx (by obtain⟨⟨a,h,_⟩,_⟩:=hasg x (N3 hi) hx;omega);have ry:=asg_rd hy (by obtain⟨⟨a,h,_⟩,_⟩:=hasg y (N3 hj) hy;omega);rcases Nat.lt_trichotomy i j with h|h|h
 .have:=hnum i j x y hi hj rx ry h;omega
 .exact h
 have:=hnum j i y x hj hi ry rx h;omega
section
variable {N:List Nd} {steps:List St} {n m:Nat} {S:List (List Nat)}
end
end Go.Proofs.YtdajceakaakdoaaGreat
namespace Go.Proofs.YtdajceakaakdoaaGreat
open Go Go.Hl
open Tryz(prog)
abbrev Ds:=Nat->Nat->Prop
def paL (v:Nat):List St->Bool
 |[]=>true
 | .mk o _ w _ _ a b _::l=>(if o=3 then paL v a||paL v b else if o=4 then true else !(decide (o=0\/o=5)&&decide (w.toNat=v)))&&paL v l
def geL (v:Nat):List St->Nat->Nat->Prop
 |[],_,_=>False
 | .mk o _ w _ _ a b _::l,p,d=>(paL v l=true/\(if o=3 then geL v a (p+1) d\/geL v b (p+1+szL a) d else if o=4 then geL v a (p+1) d else(o=0\/o=5)/\w.toNat=v/\d=p))\/geL v l (p+(1+szL a+szL b)) d
def trL (l:List St) (p:Nat) (D:Ds):Ds:=fun v d=>(paL v l=true/\D v d)\/geL v l p d
def tr1 (o w:Int) (a b:List St) (p:Nat) (D:Ds):Ds:=fun v d=>
 ((if o=3 then paL v a||paL v b else if o=4 then true else !(decide (o=0\/o=5)&&decide (w.toNat=v)))=true/\D v d)\/
   (if o=3 then geL v a (p+1) d\/geL v b (p+1+szL a) d else if o=4 then geL v a (p+1) d else(o=0\/o=5)/\w.toNat=v/\d=p)
def lpD (a:List St) (p:Nat) (D:Ds):Ds:=fun v d=>D v d\/geL v a (p+1) d
theorem X2p {p:Nat} {D:Ds} {v d:Nat}:trL [] p D v d↔D v d:=by simp[trL,paL,geL]
theorem X1T {o c w n:Int} {t:Tm} {a b:List St} {bs:List Int} {l:List St} {p:Nat} {D:Ds} {v d:Nat}:trL (.mk o c w n t a b bs::l) p D v d↔trL l (p+(1+szL a+szL b)) (tr1 o w a b p D) v d:=by
 simp only[trL,tr1,paL,geL,N4];constructor
 .rintro(⟨⟨h1,h2⟩,h3⟩|⟨h1,h2⟩|h)
  .exact .inl ⟨h2,.inl ⟨h1,h3⟩⟩
  .exact .inl ⟨h1,.inr h2⟩
  exact .inr h
 rintro(⟨h1,⟨h2,h3⟩|h2⟩|h)
 .exact .inl ⟨⟨h2,h1⟩,h3⟩
 .exact .inr (.inl ⟨h1,h2⟩)
 exact .inr (.inr h)
theorem X4t {w:Int} {a b:List St} {p:Nat} {D:Ds} {v d:Nat}:tr1 3 w a b p D v d↔trL a (p+1) D v d\/trL b (p+1+szL a) D v d:=by
 simp only[tr1,trL,Nf,Nl];constructor
 .rintro(⟨h1|h1,h2⟩|h1|h1)
  .exact .inl (.inl ⟨h1,h2⟩)
  .exact .inr (.inl ⟨h1,h2⟩)
  .exact .inl (.inr h1)
  exact .inr (.inr h1)
 rintro((⟨h1,h2⟩|h1)|⟨h1,h2⟩|h1)
 .exact .inl ⟨.inl h1,h2⟩
 .exact .inr (.inl h1)
 .exact .inl ⟨.inr h1,h2⟩
 exact .inr (.inr h1)
theorem X5J {w:Int} {a b:List St} {p:Nat} {D:Ds} {v d:Nat}:tr1 4 w a b p D v d↔lpD a p D v d:=by
 simp[tr1,lpD]
theorem X5p {o w:Int} {a b:List St} {p:Nat} {D:Ds} {v d:Nat} (h3:o≠3) (h4:o≠4):tr1 o w a b p D v d↔(¬((o=0\/o=5)/\w.toNat=v)/\D v d)\/((o=0\/o=5)/\w.toNat=v/\d=p):=by
 simp only[tr1,N7 h3,N7 h4,Nw,NB,Nj];refine or_congr (and_congr ?_ Iff.rfl) Iff.rfl;rw[Decidable.not_and_iff_or_not]
theorem trL_lp {a:List St} {p:Nat} {D:Ds} {v d:Nat} (h:trL a (p+1) (lpD a p D) v d):lpD a p D v d:=by
 rcases h with⟨_,h⟩|h
 .exact h
 exact .inr h
def lcL:List St->Nat->Nat->Ds->Nat->Ds->Prop
 |[],_,_,_,_,_=>False
 | .mk o c w q t a b bs::l,p,k,D,n,Dn=>
   (if o=3 then(n=k/\Dn=D)\/lcL a (p+1) (k+1) D n Dn\/lcL b (p+1+szL a) (k+1+wdL a) D n Dn
    else if o=4 then(n=k/\Dn=D)\/(n=k+1/\Dn=lpD a p D)\/lcL a (p+1) (k+2) (lpD a p D) n Dn
    else n=k/\Dn=D)\/lcL l (p+(1+szL a+szL b)) (k+wdS (.mk o c w q t a b bs)) (tr1 o w a b p D) n Dn
theorem X6n {l:List St} (h:l≠[]) (p k:Nat) (D:Ds):lcL l p k D k D:=by
 cases l with
 |nil=>exact absurd rfl h
 | cons s l=>
   obtain⟨o,c,w,q,t,a,b,bs⟩:=s;unfold lcL;refine .inl ?_;split
   .exact .inl ⟨rfl,rfl⟩
   split
   .exact .inl ⟨rfl,rfl⟩
   exact⟨rfl,rfl⟩
theorem X7Q:∀l:List St,∀(p k:Nat) (D:Ds) (n:Nat) (Dn:Ds),gL l=true->lcL l p k D n Dn->k<=n/\n<k+wdL l:=by
 apply St.lind
 .intro p k D n Dn _ h;simp[lcL]at h
 intro o c w q t a b bs l ia ib il p k D n Dn hg h;simp only[gL,gS,N4]at hg;unfold lcL at h;simp only[wdL];rcases h with h|h
 .simp only[wdS];by_cases h3:o=3
  .rw[Na h3]at h;rw[N7 (by omega)];rcases h with h|h|h
   .omega
   .have:=ia _ _ _ _ _ hg.1.2.1 h;omega
   have:=ib _ _ _ _ _ hg.1.2.2 h;omega
  rw[N7 h3]at h;by_cases h4:o=4
  .rw[Na h4]at h;rw[Na h4];rcases h with h|h|h
   .omega
   .omega
   have:=ia _ _ _ _ _ hg.1.2.1 h;omega
  rw[N7 h4]at h;rw[N7 h4];omega
 have:=il _ _ _ _ _ hg.2 h;omega
theorem lc_uni:∀l:List St,∀(p k:Nat) (D:Ds) (n:Nat) (Dn Dm:Ds),gL l=true->lcL l p k D n Dn->lcL l p k D n Dm->Dn=Dm:=by
 apply St.lind
 .intro p k D n Dn Dm _ h;simp[lcL]at h
 intro o c w q t a b bs l ia ib il p k D n Dn Dm hg h1 h2;have hg0:=hg;simp only[gL,gS,N4]at hg;have ra:=fun(p k:Nat) D n Dn=>X7Q a p k D n Dn hg.1.2.1;have rb:=fun(p k:Nat) D n Dn=>X7Q b p k D n Dn hg.1.2.2;have rl:=fun(p k:Nat) D n Dn=>X7Q l p k D n Dn hg.2
 have rf:∀Dn,(if o=3 then(n=k/\Dn=D)\/lcL a (p+1) (k+1) D n Dn\/lcL b (p+1+szL a) (k+1+wdL a) D n Dn
  else if o=4 then(n=k/\Dn=D)\/(n=k+1/\Dn=lpD a p D)\/lcL a (p+1) (k+2) (lpD a p D) n Dn
  else n=k/\Dn=D)->n<k+wdS (.mk o c w q t a b bs):=by
  intro Dn h;simp only[wdS];by_cases h3:o=3
  .rw[Na h3]at h;rw[N7 (by omega)];rcases h with h|h|h
   .omega
   .have:=ra _ _ _ _ _ h;omega
   have:=rb _ _ _ _ _ h;omega
  rw[N7 h3]at h;by_cases h4:o=4
  .rw[Na h4]at h;rw[Na h4];rcases h with h|h|h
   .omega
   .omega
   have:=ra _ _ _ _ _ h;omega
  rw[N7 h4]at h;rw[N7 h4];omega
 unfold lcL at h1 h2;rcases h1 with h1|h1
 .rcases h2 with h2|h2
  .split at h1
   .rename_i h3;rw[Na h3]at h2;rcases h1 with h1|h1|h1
    .rcases h2 with h2|h2|h2
     .rw[h1.2,h2.2]
     .have:=ra _ _ _ _ _ h2;omega
     have:=rb _ _ _ _ _ h2;omega
    .rcases h2 with h2|h2|h2
     .have:=ra _ _ _ _ _ h1;omega
     .exact ia _ _ _ _ _ _ hg.1.2.1 h1 h2
     have:=ra _ _ _ _ _ h1;have:=rb _ _ _ _ _ h2;omega
    rcases h2 with h2|h2|h2
    .have:=rb _ _ _ _ _ h1;omega
    .have:=rb _ _ _ _ _ h1;have:=ra _ _ _ _ _ h2;omega
    exact ib _ _ _ _ _ _ hg.1.2.2 h1 h2
   rename_i h3;rw[N7 h3]at h2;split at h1
   .rename_i h4;rw[Na h4]at h2;rcases h1 with h1|h1|h1
    .rcases h2 with h2|h2|h2
     .rw[h1.2,h2.2]
     .omega
     have:=ra _ _ _ _ _ h2;omega
    .rcases h2 with h2|h2|h2
     .omega
     .rw[h1.2,h2.2]
     have:=ra _ _ _ _ _ h2;omega
    rcases h2 with h2|h2|h2
    .have:=ra _ _ _ _ _ h1;omega
    .have:=ra _ _ _ _ _ h1;omega
    exact ia _ _ _ _ _ _ hg.1.2.1 h1 h2
   rename_i h4;rw[N7 h4]at h2;rw[h1.2,h2.2]
  have:=rf _ h1;have:=rl _ _ _ _ _ h2;omega
 rcases h2 with h2|h2
 .have:=rf _ h2;have:=rl _ _ _ _ _ h1;omega
 exact il _ _ _ _ _ _ hg.2 h1 h2
theorem lc_all:∀l:List St,∀(p k:Nat) (D:Ds) (n:Nat),gL l=true->k<=n->n<k+wdL l->∃Dn,lcL l p k D n Dn:=by
 apply St.lind
 .intro p k D n _ h1 h2;simp only[wdL]at h2;omega
 intro o c w q t a b bs l ia ib il p k D n hg h1 h2;simp only[gL,gS,N4,Nl,N6,Dj]at hg;simp only[wdL]at h2;by_cases hl:k+wdS (.mk o c w q t a b bs)<=n
 .obtain⟨Dn,h⟩:=il (p+(1+szL a+szL b)) (k+wdS (.mk o c w q t a b bs)) (tr1 o w a b p D) n hg.2 hl (by omega);exact⟨Dn,by unfold lcL;exact .inr h⟩
 have key:∃Dn,(if o=3 then(n=k/\Dn=D)\/lcL a (p+1) (k+1) D n Dn\/lcL b (p+1+szL a) (k+1+wdL a) D n Dn
 else if o=4 then(n=k/\Dn=D)\/(n=k+1/\Dn=lpD a p D)\/lcL a (p+1) (k+2) (lpD a p D) n Dn
 else n=k/\Dn=D):=by
  simp only[wdS]at hl;by_cases h3:o=3
  .simp only[Na h3];rw[N7 (by omega)]at hl;by_cases e:n=k
   .exact⟨D,.inl ⟨e,rfl⟩⟩
   by_cases ha:n<k+1+wdL a
   .obtain⟨Dn,h⟩:=ia (p+1) (k+1) D n hg.1.2.1 (by omega) ha;exact⟨Dn,.inr (.inl h)⟩
   obtain⟨Dn,h⟩:=ib (p+1+szL a) (k+1+wdL a) D n hg.1.2.2 (by omega) (by omega);exact⟨Dn,.inr (.inr h)⟩
  simp only[N7 h3];by_cases h4:o=4
  .have hb:b=[]:=by
    rcases hg.1.1 with(h|h)|h
    .exact absurd h h3
    .exact h.2
    exact h.2
   subst hb;simp only[Na h4];rw[Na h4]at hl;simp only[wdL]at hl;by_cases e:n=k
   .exact⟨D,.inl ⟨e,rfl⟩⟩
   by_cases e2:n=k+1
   .exact⟨_,.inr (.inl ⟨e2,rfl⟩)⟩
   obtain⟨Dn,h⟩:=ia (p+1) (k+2) (lpD a p D) n hg.1.2.1 (by omega) (by omega);exact⟨Dn,.inr (.inr h)⟩
  have hab:a=[]/\b=[]:=by
   rcases hg.1.1 with(h|h)|h
   .exact absurd h h3
   .exact absurd h.1 h4
   exact⟨h.1,h.2⟩
  obtain⟨rfl,rfl⟩:=hab;simp only[N7 h4];rw[N7 h4]at hl;simp only[wdL]at hl;exact⟨D,by omega,rfl⟩
 obtain⟨Dn,h⟩:=key;exact⟨Dn,by unfold lcL;exact .inl h⟩
section
variable {N:List Nd} {steps:List St} {nv nh:Nat} {vars:List Vr}
theorem Lie1.ifN {c v n:Int} {t:Tm} {a b:List St} {bs:List Int} {o k mid:Nat} (h:Lie1 N steps vars nh 3 c v n t a b bs o k mid):N[k]? =some ⟨3,o,(WI a (k+1) mid:Nat),(WI b (k+1+wdL a) mid:Nat)⟩:=by
 have hn:=h.nd;unfold X1u at hn;rw[Na rfl]at hn;rw[hn.cons.1];simp only[WI];congr 2
 .split<;>simp
 split<;>simp
theorem Lie1.loopN {c v n:Int} {t:Tm} {a b:List St} {bs:List Int} {o k mid:Nat} (h:Lie1 N steps vars nh 4 c v n t a b bs o k mid):N[k]? =some ⟨4,o,(k+1:Nat),-1⟩/\N[k+1]? =some ⟨5,o,(WI a (k+2) (k+1):Nat),(mid:Nat)⟩:=by
 have hn:=h.nd;unfold X1u at hn;rw[N7 (by decide),Na rfl]at hn;refine⟨by rw[hn.cons.1];simp,?_⟩;rw[hn.cons.2.cons.1];simp only[WI];congr 2;split<;>simp
theorem Lie1.leafN {d c v n:Int} {t:Tm} {a b:List St} {bs:List Int} {o k mid:Nat} (h:Lie1 N steps vars nh d c v n t a b bs o k mid) (h3:d≠3) (h4:d≠4):N[k]? =some ⟨2,o,(mid:Nat),-1⟩:=by
 have hn:=h.nd;unfold X1u at hn;rw[N7 h3,N7 h4]at hn;exact hn.cons.1
def flw (steps:List St) (x:Nd) (D:Ds):Ds:=fun v d=>(D v d/\¬(W3 steps x=true/\Zt steps x=(v:Int)))\/(W3 steps x=true/\Zt steps x=(v:Int)/\d=x.a.toNat)
theorem Xar {x:Nd} (h:x.k≠2) {D:Ds} {v d:Nat} (hf:flw steps x D v d):D v d:=by
 rcases hf with⟨h1,_⟩|⟨h1,_⟩
 .exact h1
 rw[asg_no h]at h1;cases h1
theorem X9H:∀l:List St,∀(p k after:Nat) (D:Ds),Lies N steps vars nh l p k after->∀(n:Nat) (Dn:Ds),lcL l p k D n Dn->
  ∃x,N[n]? =some x/\x.k≠0/\∀tq,WW x tq->∀v d,flw steps x Dn v d->(∃Dt,lcL l p k D tq Dt/\Dt v d)\/(tq=after/\trL l p D v d):=by
 apply St.lind
 .intro p k after D _ n Dn h;simp[lcL]at h
 intro o c w q t a b bs l ia ib il p k after D hl n Dn h;obtain⟨h1,h2⟩:=hl.cons;obtain⟨mid,hmid⟩:∃m,WI l (k+wdS (.mk o c w q t a b bs)) after=m:=⟨_,rfl⟩;rw[hmid]at h1
 have up:∀tq v d,tq=mid->tr1 o w a b p D v d->(∃Dt,lcL (.mk o c w q t a b bs::l) p k D tq Dt/\Dt v d)\/(tq=after/\trL (.mk o c w q t a b bs::l) p D v d):=by
  intro tq v d hto ht;by_cases e:l=[]
  .subst e;refine .inr ⟨?_,X1T.2 (X2p.2 ht)⟩;rw[hto,<-hmid,WI,Na rfl]
  refine .inl ⟨_,?_,ht⟩;unfold lcL;rw[hto,<-hmid,WI,N7 e];exact .inr (X6n e _ _ _)
 unfold lcL at h;rcases h with h|h
 .by_cases h3:o=3
  .subst h3;rw[Na rfl]at h;have inA:∀tq Dt,lcL a (p+1) (k+1) D tq Dt->lcL (.mk 3 c w q t a b bs::l) p k D tq Dt:=fun tq Dt h=>by unfold lcL;rw[Na rfl];exact .inl (.inr (.inl h))
   have inB:∀tq Dt,lcL b (p+1+szL a) (k+1+wdL a) D tq Dt->lcL (.mk 3 c w q t a b bs::l) p k D tq Dt:=fun tq Dt h=>by unfold lcL;rw[Na rfl];exact .inl (.inr (.inr h))
   obtain⟨_,la,lb⟩:=h1.if_ rfl;rcases h with⟨rfl,rfl⟩|h|h
   .refine⟨_,h1.ifN,by simp,fun tq hs v d hf=>?_⟩;have hD:=Xar (by simp) hf;simp only[WW]at hs;rcases hs with hs|hs
    .have hs:tq=WI a (n+1) mid:=by omega
     by_cases e:a=[]
     .subst e;exact up tq v d (by rw[hs,WI,Na rfl]) (X4t.2 (.inl (X2p.2 hD)))
     refine .inl ⟨_,inA _ _ ?_,hD⟩;rw[hs,WI,N7 e];exact X6n e _ _ _
    have hs:tq=WI b (n+1+wdL a) mid:=by omega
    by_cases e:b=[]
    .subst e;exact up tq v d (by rw[hs,WI,Na rfl]) (X4t.2 (.inr (X2p.2 hD)))
    refine .inl ⟨_,inB _ _ ?_,hD⟩;rw[hs,WI,N7 e];exact X6n e _ _ _
   .obtain⟨x,hx,hk,hc⟩:=ia _ _ _ D la n Dn h;refine⟨x,hx,hk,fun tq hs v d hf=>?_⟩;rcases hc tq hs v d hf with⟨Dt,h5,h6⟩|⟨h5,h6⟩
    .exact .inl ⟨Dt,inA _ _ h5,h6⟩
    exact up tq v d h5 (X4t.2 (.inl h6))
   obtain⟨x,hx,hk,hc⟩:=ib _ _ _ D lb n Dn h;refine⟨x,hx,hk,fun tq hs v d hf=>?_⟩;rcases hc tq hs v d hf with⟨Dt,h5,h6⟩|⟨h5,h6⟩
   .exact .inl ⟨Dt,inB _ _ h5,h6⟩
   exact up tq v d h5 (X4t.2 (.inr h6))
  rw[N7 h3]at h;by_cases h4:o=4
  .subst h4;rw[Na rfl]at h;have inH:lcL (.mk 4 c w q t a b bs::l) p k D (k+1) (lpD a p D):=by unfold lcL;rw[N7 (by decide),Na rfl];exact .inl (.inr (.inl ⟨rfl,rfl⟩))
   have inA:∀tq Dt,lcL a (p+1) (k+2) (lpD a p D) tq Dt->lcL (.mk 4 c w q t a b bs::l) p k D tq Dt:=fun tq Dt h=>by unfold lcL;rw[N7 (by decide),Na rfl];exact .inl (.inr (.inr h))
   obtain⟨_,_,la,_⟩:=h1.loop rfl;obtain⟨n1,n2⟩:=h1.loopN;rcases h with⟨rfl,rfl⟩|⟨rfl,rfl⟩|h
   .refine⟨_,n1,by simp,fun tq hs v d hf=>?_⟩;have hD:=Xar (by simp) hf;simp only[WW]at hs;have hs:tq=n+1:=by omega
    subst hs;exact .inl ⟨_,inH,.inl hD⟩
   .refine⟨_,n2,by simp,fun tq hs v d hf=>?_⟩;have hD:=Xar (by simp) hf;simp only[WW]at hs;rcases hs with hs|hs
    .have hs:tq=WI a (k+2) (k+1):=by omega
     by_cases e:a=[]
     .subst e;refine .inl ⟨_,?_,hD⟩;rw[hs,WI,Na rfl];exact inH
     refine .inl ⟨_,inA _ _ ?_,hD⟩;rw[hs,WI,N7 e];exact X6n e _ _ _
    exact up tq v d (by omega) (X5J.2 hD)
   obtain⟨x,hx,hk,hc⟩:=ia _ _ _ (lpD a p D) la n Dn h;refine⟨x,hx,hk,fun tq hs v d hf=>?_⟩;rcases hc tq hs v d hf with⟨Dt,h5,h6⟩|⟨h5,h6⟩
   .exact .inl ⟨Dt,inA _ _ h5,h6⟩
   subst h5;exact .inl ⟨_,inH,trL_lp h6⟩
  rw[N7 h4]at h;obtain⟨rfl,rfl⟩:=h;refine⟨_,h1.leafN h3 h4,by simp,fun tq hs v d hf=>up tq v d ?_ ((X5p h3 h4).2 ?_)⟩
  .simp only[WW]at hs;omega
  have hst:=h1.st
  have hisA:W3 steps ⟨2,(p:Int),(mid:Int),-1⟩=true↔o=0\/o=5:=by
   unfold W3;rw[Int.toNat_natCast,hst];show(decide ((2:Int)=2)&&(decide (o=0)||decide (o=5)))=true↔_;simp
  have hvA:Zt steps ⟨2,(p:Int),(mid:Int),-1⟩=w:=by simp[Zt,hst,St.var]
  rcases hf with⟨hD,hn⟩|⟨ha,hv,hd⟩
  .refine .inl ⟨fun⟨h5,h6⟩=>hn ⟨hisA.2 h5,?_⟩,hD⟩;have:=(h1.var h5).1;rw[hvA];omega
  refine .inr ⟨hisA.1 ha,?_,by simpa using hd⟩;rw[hvA]at hv;omega
 obtain⟨x,hx,hk,hc⟩:=il _ _ _ (tr1 o w a b p D) h2 n Dn h;refine⟨x,hx,hk,fun tq hs v d hf=>?_⟩;rcases hc tq hs v d hf with⟨Dt,h5,h6⟩|⟨h5,h6⟩
 .exact .inl ⟨Dt,by unfold lcL;exact .inr h5,h6⟩
 exact .inr ⟨h5,X1T.2 h6⟩
def sdD (N:List Nd) (steps:List St) (nv k:Nat) (D:Ds):Prop:=∀v d,D v d->Rc N steps nv k d/\Qr steps d=(v:Int)
theorem sdD.go {k tq:Nat} {D:Ds} {x:Nd} (h:sdD N steps nv k D) (hx:N[k]? =some x) (h0:x.k≠0) (h2:x.k≠2) (hs:WW x tq):sdD N steps nv tq D:=
 fun v d hd=>⟨.pass hx h0 hs (h v d hd).1 (by rw[asg_no h2];rfl),(h v d hd).2⟩
theorem lc_snd:∀l:List St,∀(p k after:Nat) (D:Ds),Lies N steps vars nh l p k after->sdD N steps nv (WI l k after) D->
  (∀(n:Nat) (Dn:Ds),lcL l p k D n Dn->sdD N steps nv n Dn)/\sdD N steps nv after (trL l p D):=by
 apply St.lind
 .intro p k after D _ hD;refine⟨fun n Dn h=>by simp[lcL]at h,fun v d hd=>?_⟩;have:=hD v d (X2p.1 hd)
  rwa [WI,Na rfl]at this
 intro o c w q t a b bs l ia ib il p k after D hl hD;rw[WI,N7 (by simp)]at hD;obtain⟨h1,h2⟩:=hl.cons;obtain⟨mid,hmid⟩:∃m,WI l (k+wdS (.mk o c w q t a b bs)) after=m:=⟨_,rfl⟩;rw[hmid]at h1
 have key:(∀n Dn,(if o=3 then(n=k/\Dn=D)\/lcL a (p+1) (k+1) D n Dn\/lcL b (p+1+szL a) (k+1+wdL a) D n Dn
  else if o=4 then(n=k/\Dn=D)\/(n=k+1/\Dn=lpD a p D)\/lcL a (p+1) (k+2) (lpD a p D) n Dn
  else n=k/\Dn=D)->sdD N steps nv n Dn)/\sdD N steps nv mid (tr1 o w a b p D):=by
  by_cases h3:o=3
  .subst h3;obtain⟨_,la,lb⟩:=h1.if_ rfl;have hx:=h1.ifN;obtain⟨a1,a2⟩:=ia _ _ _ D la (hD.go hx (by simp) (by simp) (.inl rfl));obtain⟨b1,b2⟩:=ib _ _ _ D lb (hD.go hx (by simp) (by simp) (.inr rfl));refine⟨fun n Dn h=>?_,fun v d hd=>?_⟩
   .rw[Na rfl]at h;rcases h with⟨rfl,rfl⟩|h|h
    .exact hD
    .exact a1 n Dn h
    exact b1 n Dn h
   rcases X4t.1 hd with h|h
   .exact a2 v d h
   exact b2 v d h
  by_cases h4:o=4
  .subst h4;obtain⟨_,_,la,_⟩:=h1.loop rfl;obtain⟨n1,n2⟩:=h1.loopN;have hH:sdD N steps nv (k+1) D:=hD.go n1 (by simp) (by simp) (.inl rfl);obtain⟨_,a2⟩:=ia _ _ _ D la (hH.go n2 (by simp) (by simp) (.inl rfl))
   have hE:sdD N steps nv (k+1) (lpD a p D):=by
    rintro v d (h|h)
    .exact hH v d h
    exact a2 v d (.inr h)
   obtain⟨e1,_⟩:=ia _ _ _ (lpD a p D) la (hE.go n2 (by simp) (by simp) (.inl rfl));refine⟨fun n Dn h=>?_,fun v d hd=>hE.go n2 (by simp) (by simp) (.inr rfl) v d (X5J.1 hd)⟩;rw[N7 h3,Na rfl]at h;rcases h with⟨rfl,rfl⟩|⟨rfl,rfl⟩|h
   .exact hD
   .exact hE
   exact e1 n Dn h
  have hx:=h1.leafN h3 h4;have hst:=h1.st
  have hisA:W3 steps ⟨2,(p:Int),(mid:Int),-1⟩=true↔o=0\/o=5:=by
   unfold W3;rw[Int.toNat_natCast,hst];show(decide ((2:Int)=2)&&(decide (o=0)||decide (o=5)))=true↔_;simp
  have hvA:Zt steps ⟨2,(p:Int),(mid:Int),-1⟩=w:=by simp[Zt,hst,St.var]
  refine⟨fun n Dn h=>?_,fun v d hd=>?_⟩
  .rw[N7 h3,N7 h4]at h;obtain⟨rfl,rfl⟩:=h;exact hD
  rcases(X5p h3 h4).1 hd with⟨h5,h6⟩|⟨h5,h6,rfl⟩
  .obtain⟨r1,r2⟩:=hD v d h6;refine⟨.pass hx (by simp) (.inl rfl) r1 ?_,r2⟩;rw[r2,hvA];by_cases e:W3 steps ⟨2,(p:Int),(mid:Int),-1⟩=true
   .have hA:=hisA.1 e;have:=(h1.var hA).1;have h8:(v:Int)≠w:=fun e=>h5 ⟨hA,by omega⟩;simp[h8]
   simp[e]
  have hA:=h5;have h7:=(h1.var hA).1;refine⟨?_,?_⟩
  .have:=Rc.gen (nv:=nv) hx (by simp) (.inl rfl) (hisA.2 hA);simpa using this
  unfold Qr;rw[hst];simp only[St.var];omega
 obtain⟨k1,k2⟩:=key;obtain⟨l1,l2⟩:=il _ _ _ (tr1 o w a b p D) h2 (by rw[hmid];exact k2);refine⟨fun n Dn h=>?_,fun v d hd=>l2 v d (X1T.1 hd)⟩;unfold lcL at h;rcases h with h|h
 .exact k1 n Dn h
 exact l1 n Dn h
end
def stD0 (n nv:Nat):Ds:=fun v d=>v<nv/\d=n+v
theorem lc_rc {f:Fl} (h:Sm f) (h0:Qa f=0) {n:Nat} {Dn:Ds} (hn:lcL f.body 0 1 (stD0 (flL f.body).length f.vars.length) n Dn) (v d:Nat):Dn v d↔Rc (grN f.body) (flL f.body) f.vars.length n d/\Qr (flL f.body) d=(v:Int):=by
 have hg:=X0z h0;have hl:=X48 h h0
 have hw:Gw (grN f.body) (flL f.body):=grN_w hg fun q hq hd=>by
  obtain⟨i,hi⟩:=NL.1 hq;obtain⟨last,hsh⟩:=X2U f.body true (W6 h0).2.2.2.1 q hq;unfold shB at hsh;rcases hd with hd|hd
  .rw[Na hd]at hsh;simp only[N4]at hsh;have:=hsh.1.1.2;unfold W5 at this;simp only[N4,N6]at this;omega
  rw[hd]at hsh;simp only[N4,reduceCtorEq,Nc,Nf,Int.reduceEq]at hsh;have:=hsh.1.1.1.1.2;unfold W5 at this;simp only[N4,N6]at this;omega
 obtain⟨e0,he0,hk0⟩:=hw.ent
 have hent:WW e0 (WI f.body 1 (1+wdL f.body))/\∀tq,WW e0 tq->tq=WI f.body 1 (1+wdL f.body):=by
  have:e0=⟨0,-1,if f.body=[] then((1+wdL f.body:Nat):Int)else 1,-1⟩:=by
   unfold grN at he0;simp only[List.getElem?_cons_zero,Option.some.injEq]at he0;rw[<-he0];congr 1
  subst this;refine⟨.inl ?_,fun tq hs=>?_⟩
  .simp only[WI];split<;>simp
  simp only[WW,WI]at hs⊢;split at hs
  .rename_i e;rw[Na e];omega
  rename_i e;rw[N7 e];omega
 have hvo:∀v:Nat,Qr (flL f.body) ((flL f.body).length+v)=(v:Int):=XcP _;constructor
 .intro hd;refine(lc_snd f.body 0 1 (1+wdL f.body) (stD0 (flL f.body).length f.vars.length) hl ?_).1 n Dn hn v d hd;rintro v d ⟨h1,rfl⟩;exact⟨.entry he0 hk0 hent.1 h1,hvo v⟩
 rintro⟨hr,hv⟩
 -- all that reaches a node is in its state, the end apart
 have key:∀tq d,Rc (grN f.body) (flL f.body) f.vars.length tq d->∀v:Nat,Qr (flL f.body) d=(v:Int)->(∃Dt,lcL f.body 0 1 (stD0 (flL f.body).length f.vars.length) tq Dt/\Dt v d)\/tq=1+wdL f.body:=by
  intro tq d hr
  induction hr with
  | entry hx hxk hs hlt=>
    rename_i i tq u x;intro v hv;have hi:=hw.k0 i x hx hxk;subst hi;rw[he0]at hx;cases hx;rw[hvo]at hv;have:u=v:=by omega
    subst this;have hto:=hent.2 tq hs;by_cases e:f.body=[]
    .refine .inr ?_;rw[hto,WI,Na e]
    refine .inl ⟨stD0 (flL f.body).length f.vars.length,?_,hlt,rfl⟩;rw[hto,WI,N7 e];exact X6n e _ _ _
  | pass hx hxk hs _ hp ih=>
    rename_i i tq d x _;intro v hv;rcases ih v hv with⟨Di,h1,h2⟩|h1
    .obtain⟨y,hy,_,hc⟩:=X9H f.body 0 1 (1+wdL f.body) _ hl i Di h1;rw[hx]at hy;cases hy;rcases hc tq hs v d (.inl ⟨h2,fun⟨h3,h4⟩=>by rw[h3,hv,h4]at hp;simp at hp⟩)with h5|⟨h5,_⟩
     .exact .inl h5
     exact .inr h5
    exfalso;have hlen:=X1a hg;subst h1
    have:(grN f.body)[1+wdL f.body]? =some ⟨1,-1,-1,-1⟩:=by
     unfold grN;rw[Nat.add_comm,List.getElem?_cons_succ,Nn (by rw[We _ _ _ _ hg];omega),We _ _ _ _ hg,Nat.sub_self];rfl
    rw[this]at hx;cases hx;simp only[WW]at hs;omega
  | gen hx hxk hs ha=>
    rename_i i tq x;intro v hv;have hil:=(N5.1 hx).1;have hlen:=X1a hg
    have hi0:i≠0:=by
     rintro rfl;rw[he0]at hx;cases hx;exact hxk hk0
    by_cases hie:i=1+wdL f.body
    .exfalso;subst hie
     have:(grN f.body)[1+wdL f.body]? =some ⟨1,-1,-1,-1⟩:=by
      unfold grN;rw[Nat.add_comm,List.getElem?_cons_succ,Nn (by rw[We _ _ _ _ hg];omega),We _ _ _ _ hg,Nat.sub_self];rfl
     rw[this]at hx;cases hx;simp only[WW]at hs;omega
    obtain⟨Di,h1⟩:=lc_all f.body 0 1 (stD0 (flL f.body).length f.vars.length) i hg (by omega) (by omega);obtain⟨y,hy,_,hc⟩:=X9H f.body 0 1 (1+wdL f.body) _ hl i Di h1;rw[hx]at hy;cases hy;obtain⟨⟨m,hm1,hm2⟩,_⟩:=hw.asg x (N3 hx) ha
    have hva:Zt (flL f.body) x=(v:Int):=by
     rw[<-hv,hm1,Int.toNat_natCast];exact(varOf_at hm1 hm2).symm
    rcases hc tq hs v x.a.toNat (.inr ⟨ha,hva,rfl⟩)with h5|⟨h5,_⟩
    .exact .inl h5
    exact .inr h5
 rcases key n d hr v hv with⟨Dt,h1,h2⟩|h1
 .rw[lc_uni f.body 0 1 _ n Dn Dt hg hn h1];exact h2
 have:=X7Q f.body 0 1 _ n Dn hg hn;omega
@[simp] theorem mpI_nil:mpI []=[]:=rfl
def addN (t:List Nat) (v:Nat):List Nat:=if v∈t then t else t++[v]
def addAll:List Nat->List Nat->List Nat
 |[],t=>t
 |v::l,t=>addAll l (addN t v)
structure Nb (n:Nat) (t:List Nat):Prop where
 nd:t.Nodup
 lt:∀d∈t,d<n
theorem Nb.len {n:Nat} {t:List Nat} (h:Nb n t):t.length<=n:=Wz h.nd h.lt
theorem Nb.add {n v:Nat} {t:List Nat} (h:Nb n t) (hv:v<n):Nb n (addN t v):=by
 unfold addN;split
 .exact h
 rename_i hm;refine⟨?_,?_⟩
 .rw[List.nodup_append];exact⟨h.nd,by simp,fun a ha b hb=>by rw[Nk.1 hb];rintro rfl;exact hm ha⟩
 intro d hd;rcases Ng.1 hd with hd|hd
 .exact h.lt d hd
 rw[Nk.1 hd];exact hv
theorem Nb.nil (n:Nat):Nb n []:=⟨by simp,by simp⟩
theorem Nb.addAll {n:Nat} (l:List Nat) (hl:∀d∈l,d<n):∀{t},Nb n t->Nb n (addAll l t):=by
 induction l with
 |nil=>intro t h;exact h
 |cons v l ih=>intro t h;exact ih (fun d hd=>hl d (by simp[hd])) (h.add (hl v (by simp)))
theorem addN_mem (t:List Nat) (v d:Nat):d∈addN t v↔d∈t\/d=v:=by
 unfold addN;split
 .rename_i h;constructor
  .exact .inl
  rintro(h1|rfl)
  .exact h1
  exact h
 simp
theorem Xa3 (l:List Nat):∀(t:List Nat) (d:Nat),d∈addAll l t↔d∈t\/d∈l:=by
 induction l with
 |nil=>intro t d;simp[addAll]
 |cons v l ih=>intro t d;rw[addAll,ih,addN_mem,Nh,or_assoc]
structure Dp where
 f:Int
 t:Int
 k:Int
 deriving DecidableEq
def Dp.enc (x:Dp):List CD:=[iC x.f,iC x.t,iC x.k]
attribute [simp] Dp.enc
def XG (l:List Dp):List (List CD):=l.map Dp.enc
@[simp] theorem ZZ (l:List Dp):(XG l).length=l.length:=by simp[XG]
theorem X02 {l:List Dp} {i:Nat} {x:Dp} (h:l[i]? =some x):(XG l)[i]? =some x.enc:=by simp[XG,h]
@[simp] theorem encDp_nil:XG []=[]:=rfl
theorem X6z (a b:List Dp):XG (a++b)=XG a++XG b:=by simp[XG]
abbrev Dfs:=List (List Nat)
def X55 (a b:List Nat):List Nat:=(addAll b a).mergeSort fun x y=>decide (x<=y)
def XZ:Dfs->Dfs->Dfs
 |a::A,b::B=>X55 a b::XZ A B
 |_,_=>[]
mutual
def ouS:St->Nat->Dfs->Dfs
 | .mk o _ w _ _ a b _,p,D=>if o=3 then XZ (ouL a (p+1) D) (ouL b (p+1+szL a) D)else if o=4 then XZ D (ouL a (p+1) D)else if o=0\/o=5 then D.set w.toNat [p] else D
def ouL:List St->Nat->Dfs->Dfs
 |[],_,D=>D
 |s::l,p,D=>ouL l (p+szS s) (ouS s p D)
end
def rdE (p:Nat) (D:Dfs) (t:Tm):List Dp:=(tmV t).flatMap fun v=>(D[v.toNat]?.getD []).map fun d:Nat=>(⟨(d:Int),(p:Int),0⟩:Dp)
def rlE (n p:Nat) (t:Tm):List Dp:=(tmV t).map fun v:Int=>(⟨(n:Int)+v,(p:Int),2⟩:Dp)
def ctE (c:Int) (p:Nat):List Dp:=if 0<=c then [⟨c,p,1⟩] else []
mutual
def edS (n:Nat) (hats:List Ht):St->Int->Nat->Dfs->List Dp
 | .mk o _ _ q t a b _,c,p,D=>ctE c p++(if o=0\/o=1 then rdE p D t else if o=5 then(match hats[q.toNat]? with|some h=>rlE n p h.term|none=>[])
   else if o=3 then rdE p D t++(edL n hats a p (p+1) D++edL n hats b p (p+1+szL a) D)
   else if o=4 then rdE p (XZ D (ouL a (p+1) D)) t++(⟨p,p,1⟩::edL n hats a p (p+1) (XZ D (ouL a (p+1) D)))else [])
def edL (n:Nat) (hats:List Ht):List St->Int->Nat->Dfs->List Dp
 |[],_,_,_=>[]
 |s::l,c,p,D=>edS n hats s c p D++edL n hats l c (p+szS s) (ouS s p D)
end
def ctL:List St->Int->Nat->List Dp
 |[],_,_=>[]
 | .mk o _ _ _ _ a b _::l,c,p=>ctE c p++((if o=4 then [⟨p,p,1⟩] else [])++(ctL a p (p+1)++(ctL b p (p+1+szL a)++ctL l c (p+(1+szL a+szL b)))))
structure okD (nv:Nat) (D:Dfs):Prop where
 len:D.length=nv
 asc:∀r∈D,r.Pairwise (· < ·)
def inD (D:Dfs):Ds:=fun v d=>∃r,D[v]? =some r/\d∈r
theorem X7F (l:List Nat):∀(t:List Nat),t.Nodup->(addAll l t).Nodup:=by
 induction l with
 |nil=>intro t h;exact h
 | cons v l ih=>
   intro t h;refine ih _ ?_;unfold addN;split
   .exact h
   rename_i hn;rw[List.nodup_append];exact⟨h,by simp,fun a ha b hb=>by rw[Nk.1 hb];rintro rfl;exact hn ha⟩
theorem XcE {l:List Nat} (h:l.Nodup):(l.mergeSort fun x y=>decide (x<=y)).Pairwise (· < ·):=by
 have h3:=List.pairwise_mergeSort (le:=fun x y:Nat=>decide (x<=y)) (fun a b c h1 h2=>by simp at*;omega) (fun a b=>by simp;omega) l;have h4:(l.mergeSort fun x y=>decide (x<=y)).Nodup:=(List.mergeSort_perm l _).nodup_iff.2 h;refine(List.pairwise_and_iff.2 ⟨h3,h4⟩).imp fun {a b} ⟨h5,h6⟩=>?_;have h5:a<=b:=by simpa using h5
 have h6:a≠b:=h6;omega
theorem Xch {l:List Nat} (h:l.Pairwise (· < ·)):l.Nodup:=h.imp fun {a b} h=>by show a≠b;omega
theorem X3u (a b:List Nat) (x:Nat):x∈X55 a b↔x∈a\/x∈b:=by rw[X55,List.mem_mergeSort,Xa3]
theorem X9a {a:List Nat} (b:List Nat) (h:a.Pairwise (· < ·)):(X55 a b).Pairwise (· < ·):=XcE (X7F _ _ (Xch h))
theorem Zw:∀{A B:Dfs},A.length=B.length->(XZ A B).length=A.length
 |[],[],_=>rfl
 |_::A,_::B,h=>by simp only[XZ,List.length_cons]at h⊢;rw[Zw (by omega)]
theorem X4x:∀{A B:Dfs} {i:Nat} {a b:List Nat},A[i]? =some a->B[i]? =some b->(XZ A B)[i]? =some (X55 a b)
 |x::A,y::B,0,a,b,h1,h2=>by cases h1;cases h2;rfl
 |x::A,y::B,i+1,a,b,h1,h2=>by simp only[XZ,List.getElem?_cons_succ]at h1 h2⊢;exact X4x h1 h2
 |[],_,_,_,_,h1,_=>by simp at h1
 |_::_,[],_,_,_,_,h2=>by simp at h2
theorem X0M {nv:Nat} {A B:Dfs} (ha:okD nv A) (hb:B.length=nv):okD nv (XZ A B):=by
 refine⟨by rw[Zw (by rw[ha.len,hb]),ha.len],fun r hr=>?_⟩;obtain⟨i,hi⟩:=NL.1 hr;have hlt:=(N5.1 hi).1;rw[Zw (by rw[ha.len,hb])]at hlt;obtain⟨a,h1,_⟩:=Xu hlt;obtain⟨b,h2,_⟩:=Xu (show i<B.length by rw[hb,<-ha.len];exact hlt);rw[X4x h1 h2]at hi;cases hi;exact X9a b (ha.asc a (N3 h1))
theorem X3R {nv:Nat} {A B:Dfs} (ha:A.length=nv) (hb:B.length=nv) (v d:Nat):inD (XZ A B) v d↔inD A v d\/inD B v d:=by
 by_cases hv:v<nv
 .obtain⟨a,h1,_⟩:=Xu (show v<A.length by omega);obtain⟨b,h2,_⟩:=Xu (show v<B.length by omega);have h3:=X4x h1 h2;unfold inD;rw[h1,h2,h3];simp only[Option.some.injEq,exists_eq_left'];exact X3u a b d
 have e1:A[v]? =none:=Nx (by omega);have e2:B[v]? =none:=Nx (by omega);have e3:(XZ A B)[v]? =none:=Nx (by rw[Zw (by omega)];omega);unfold inD;rw[e1,e2,e3];simp
theorem set_in {D:Dfs} {i:Nat} {r:List Nat} (h:i<D.length) (v d:Nat):inD (D.set i r) v d↔if v=i then d∈r else inD D v d:=by
 unfold inD;rw[NY];by_cases e:i=v
 .subst e;simp[h]
 rw[N7 e,N7 (Ne.symm e)]
theorem set_ok {nv:Nat} {D:Dfs} (h:okD nv D) (i p:Nat):okD nv (D.set i [p]):=by
 refine⟨by rw[DF];exact h.len,fun r hr=>?_⟩;rcases Dg hr with h1|h1
 .exact h.asc r h1
 rw[h1];simp
def vaL (nv:Nat):List St->Bool
 |[]=>true
 | .mk o _ w _ _ a b _::l=>(!decide (o=0\/o=5)||decide (w.toNat<nv))&&vaL nv a&&vaL nv b&&vaL nv l
theorem X66 (o c w q:Int) (t:Tm) (a b:List St) (bs:List Int) (p:Nat) (D:Dfs):ouS (.mk o c w q t a b bs) p D=if o=3 then XZ (ouL a (p+1) D) (ouL b (p+1+szL a) D)else if o=4 then XZ D (ouL a (p+1) D)else if o=0\/o=5 then D.set w.toNat [p] else D:=by
 rw[ouS]
theorem X0w {nv:Nat}:∀l:List St,∀(p:Nat) (D:Dfs),okD nv D->okD nv (ouL l p D):=by
 apply St.lind
 .intro p D h;rw[ouL];exact h
 intro o c w q t a b bs l ia ib il p D h;rw[ouL,X66];refine il _ _ ?_;split
 .exact X0M (ia _ _ h) (ib _ _ h).len
 split
 .exact X0M h (ia _ _ h).len
 split
 .exact set_ok h _ _
 exact h
theorem XaQ {nv:Nat}:∀l:List St,∀(p:Nat) (D:Dfs),vaL nv l=true->okD nv D->∀v d,inD (ouL l p D) v d↔trL l p (inD D) v d:=by
 apply St.lind
 .intro p D _ h v d;rw[ouL];exact X2p.symm
 intro o c w q t a b bs l ia ib il p D hv h v d;simp only[vaL,N4,Nl,Nw,Nj,N6]at hv
 have hs:okD nv (ouS (.mk o c w q t a b bs) p D):=by
  have:=X0w (nv:=nv) [.mk o c w q t a b bs] p D h
  rwa [ouL,ouL]at this
 rw[ouL,il _ _ hv.2 hs,X1T,szS]
 have key:∀v d,inD (ouS (.mk o c w q t a b bs) p D) v d↔tr1 o w a b p (inD D) v d:=by
  intro v d;rw[X66];by_cases h3:o=3
  .subst h3;rw[Na rfl,X3R (X0w a _ _ h).len (X0w b _ _ h).len,ia _ _ hv.1.1.2 h,ib _ _ hv.1.2 h,X4t]
  rw[N7 h3];by_cases h4:o=4
  .subst h4;rw[Na rfl,X3R h.len (X0w a _ _ h).len,ia _ _ hv.1.1.2 h,X5J];constructor
   .rintro(h1|⟨_,h1⟩|h1)
    .exact .inl h1
    .exact .inl h1
    exact .inr h1
   rintro(h1|h1)
   .exact .inl h1
   exact .inr (.inr h1)
  rw[N7 h4,X5p h3 h4];by_cases h5:o=0\/o=5
  .rw[Na h5,set_in (by rw[h.len];exact hv.1.1.1.resolve_left fun h=>h h5)];by_cases e:v=w.toNat
   .subst e;simp[h5]
   simp[h5,e,Ne.symm e]
  rw[N7 h5];simp[h5]
 have e:tr1 o w a b p (inD D)=inD (ouS (.mk o c w q t a b bs) p D):=by
  funext v d
  exact propext (key v d).symm
 rw[e]
theorem X7M {nv:Nat} {a:List St} {p:Nat} {D:Dfs} (hv:vaL nv a=true) (h:okD nv D):inD (XZ D (ouL a (p+1) D))=lpD a p (inD D):=by
 funext v d
 refine propext ?_;rw[X3R h.len (X0w a _ _ h).len,XaQ a _ _ hv h];constructor
 .rintro(h1|⟨_,h1⟩|h1)
  .exact .inl h1
  .exact .inl h1
  exact .inr h1
 rintro(h1|h1)
 .exact .inl h1
 exact .inr (.inr h1)
theorem ouS_tr {nv:Nat} {o c w q:Int} {t:Tm} {a b:List St} {bs:List Int} {p:Nat} {D:Dfs} (hv:vaL nv [.mk o c w q t a b bs]=true) (h:okD nv D):inD (ouS (.mk o c w q t a b bs) p D)=tr1 o w a b p (inD D):=by
 funext v d
 refine propext ?_;have:=XaQ (nv:=nv) [.mk o c w q t a b bs] p D hv h v d;rw[ouL,ouL,X1T,X2p]at this;exact this
theorem okD_ext {nv:Nat} {A B:Dfs} (ha:okD nv A) (hb:okD nv B) (h:∀v d,inD A v d↔inD B v d):A=B:=by
 apply NN;intro i;by_cases hi:i<nv
 .obtain⟨a,h1,_⟩:=Xu (show i<A.length by rw[ha.len];exact hi);obtain⟨b,h2,_⟩:=Xu (show i<B.length by rw[hb.len];exact hi);rw[h1,h2];congr 1;refine X5g (ha.asc a (N3 h1)) (hb.asc b (N3 h2)) fun x=>?_;have:=h i x;unfold inD at this;rw[h1,h2]at this;simpa using this
 rw[Nx (by rw[ha.len];omega),Nx (by rw[hb.len];omega)]
theorem loop_fix {nv:Nat} {a:List St} {p:Nat} {D:Dfs} (hv:vaL nv a=true) (h:okD nv D):XZ (XZ D (ouL a (p+1) D)) (ouL a (p+1) (XZ D (ouL a (p+1) D)))=XZ D (ouL a (p+1) D):=by
 have h1:=X0M h (X0w a (p+1) D h).len;refine okD_ext (X0M h1 (X0w a _ _ h1).len) h1 fun v d=>?_;rw[X3R h1.len (X0w a _ _ h1).len,XaQ a _ _ hv h1,X7M hv h];exact⟨fun h=>h.elim id trL_lp,.inl⟩
def ndE (n:Nat) (hats:List Ht) (s:St) (a:Nat) (Dn:Ds) (e:Dp):Prop:=
 if s.do_=5 then ∃h,hats[s.n.toNat]? =some h/\∃v∈tmV h.term,e=⟨(n:Int)+v,a,2⟩
 else ∃v∈tmV s.term,∃d:Nat,Dn v.toNat d/\e=⟨d,a,0⟩
theorem X7E {p:Nat} {D:Dfs} {t:Tm} {e:Dp}:e∈rdE p D t↔∃v∈tmV t,∃d:Nat,inD D v.toNat d/\e=⟨d,p,0⟩:=by
 unfold rdE;simp only[List.mem_flatMap,NF];refine exists_congr fun v=>and_congr Iff.rfl ?_;constructor
 .rintro⟨d,hd,rfl⟩;cases h:D[v.toNat]? with
  |none=>rw[h]at hd;simp at hd
  |some r=>rw[h]at hd;exact⟨d,⟨r,h,by simpa using hd⟩,rfl⟩
 rintro⟨d,⟨r,h,hd⟩,rfl⟩;exact⟨d,by rw[h];exact hd,rfl⟩
theorem X8e {n p:Nat} {t:Tm} {e:Dp}:e∈rlE n p t↔∃v∈tmV t,e=⟨(n:Int)+v,p,2⟩:=by
 unfold rlE;simp only[NF];exact exists_congr fun v=>and_congr Iff.rfl eq_comm
def quL:List St->Bool
 |[]=>true
 | .mk o _ _ _ t a b _::l=>(decide (o=0\/o=1\/o=3\/o=4\/o=5)||decide (tmV t=[]))&&quL a&&quL b&&quL l
section
variable {N:List Nd} {steps:List St} {vars:List Vr} {nh:Nat}
def bkE (N:List Nd) (steps:List St) (n0:Nat) (hats:List Ht) (l:List St) (p k:Nat) (D:Ds) (e:Dp):Prop:=
 ∃(n:Nat) (Dn:Ds) (x:Nd) (a:Nat) (s:St),lcL l p k D n Dn/\N[n]? =some x/\x.k≠4/\x.a=(a:Int)/\steps[a]? =some s/\ndE n0 hats s a Dn e
theorem ed_mem {nv n0:Nat} {hats:List Ht}:∀l:List St,∀(c:Int) (p k after:Nat) (D:Dfs),Lies N steps vars nh l p k after->vaL nv l=true->quL l=true->okD nv D->∀e,
  e∈edL n0 hats l c p D↔e∈ctL l c p\/bkE N steps n0 hats l p k (inD D) e:=by
 apply St.lind
 .intro c p k after D _ _ _ _ e;simp[edL,ctL,bkE,lcL]
 intro o c' w q t a b bs l ia ib il c p k after D hl hv hq hD e;obtain⟨h1,h2⟩:=hl.cons;obtain⟨mid,hmid⟩:∃m,WI l (k+wdS (.mk o c' w q t a b bs)) after=m:=⟨_,rfl⟩;rw[hmid]at h1;have hv0:=hv;simp only[vaL,N4]at hv;simp only[quL,N4,Nl,N6]at hq
 have hs:okD nv (ouS (.mk o c' w q t a b bs) p D):=by
  have:=X0w (nv:=nv) [.mk o c' w q t a b bs] p D hD
  rwa [ouL,ouL]at this
 have htr:inD (ouS (.mk o c' w q t a b bs) p D)=tr1 o w a b p (inD D):=ouS_tr (nv:=nv) (by simp[vaL,hv.1.1.2,hv.1.2];simpa using hv.1.1.1) hD;have hL:=il c (p+(1+szL a+szL b)) (k+wdS (.mk o c' w q t a b bs)) after _ h2 hv.2 hq.2 hs e;rw[htr]at hL;rw[edL,ctL,szS,Ng,hL];have hst:=h1.st
 -- the first step
 have key:e∈edS n0 hats (.mk o c' w q t a b bs) c p D↔(e∈ctE c p\/(e∈(if o=4 then [(⟨p,p,1⟩:Dp)] else [])\/(e∈ctL a p (p+1)\/e∈ctL b p (p+1+szL a))))\/
   ∃(n:Nat) (Dn:Ds) (x:Nd) (m:Nat) (s:St),(if o=3 then(n=k/\Dn=inD D)\/lcL a (p+1) (k+1) (inD D) n Dn\/lcL b (p+1+szL a) (k+1+wdL a) (inD D) n Dn
    else if o=4 then(n=k/\Dn=inD D)\/(n=k+1/\Dn=lpD a p (inD D))\/lcL a (p+1) (k+2) (lpD a p (inD D)) n Dn
    else n=k/\Dn=inD D)/\N[n]? =some x/\x.k≠4/\x.a=(m:Int)/\steps[m]? =some s/\ndE n0 hats s m Dn e:=by
  rw[edS,Ng];by_cases h3:o=3
  .subst h3;obtain⟨_,la,lb⟩:=h1.if_ rfl;have hx:=h1.ifN;have hA:=ia p (p+1) (k+1) mid D la hv.1.1.2 hq.1.1.2 hD e;have hB:=ib p (p+1+szL a) (k+1+wdL a) mid D lb hv.1.2 hq.1.2 hD e;simp only[show ¬((3:Int)=0\/(3:Int)=1) by decide,show ¬(3:Int)=5 by decide,show ¬(3:Int)=4 by decide,Nf,Nc,Ng,De,false_or];rw[hA,hB,X7E];constructor
   .rintro(h|h|(h|h)|(h|h))
    .exact .inl (.inl h)
    .exact .inr ⟨k,_,_,p,_,.inl ⟨rfl,rfl⟩,hx,by simp,rfl,hst,by simpa[ndE,St.do_,St.term]using h⟩
    .exact .inl (.inr (.inl h))
    .obtain⟨n,Dn,x,m,s,g1,g2⟩:=h;exact .inr ⟨n,Dn,x,m,s,.inr (.inl g1),g2⟩
    .exact .inl (.inr (.inr h))
    obtain⟨n,Dn,x,m,s,g1,g2⟩:=h;exact .inr ⟨n,Dn,x,m,s,.inr (.inr g1),g2⟩
   rintro((h|h|h)|⟨n,Dn,x,m,s,(⟨rfl,rfl⟩|g1|g1),g2⟩)
   .exact .inl h
   .exact .inr (.inr (.inl (.inl h)))
   .exact .inr (.inr (.inr (.inl h)))
   .obtain⟨g2,g3,g4,g5,g6⟩:=g2;rw[hx]at g2;cases g2;have:m=p:=by simp only at g4;omega
    subst this;rw[hst]at g5;cases g5;exact .inr (.inl (by simpa[ndE,St.do_,St.term]using g6))
   .exact .inr (.inr (.inl (.inr ⟨n,Dn,x,m,s,g1,g2⟩)))
   exact .inr (.inr (.inr (.inr ⟨n,Dn,x,m,s,g1,g2⟩)))
  by_cases h4:o=4
  .subst h4;obtain⟨_,_,la,hb⟩:=h1.loop rfl;subst hb;obtain⟨n1,n2⟩:=h1.loopN;have hE:okD nv (XZ D (ouL a (p+1) D)):=X0M hD (X0w a _ _ hD).len;have hA:=ia p (p+1) (k+2) (k+1) _ la hv.1.1.2 hq.1.1.2 hE e;rw[X7M hv.1.1.2 hD]at hA;simp only[show ¬((4:Int)=0\/(4:Int)=1) by decide,show ¬(4:Int)=5 by decide,show ¬(4:Int)=3 by decide,Nf,Nc,Ng,Nh,De,or_false,ctL];rw[hA,X7E,X7M hv.1.1.2 hD];constructor
   .rintro(h|h|h|(h|h))
    .exact .inl (.inl h)
    .exact .inr ⟨k+1,_,_,p,_,.inr (.inl ⟨rfl,rfl⟩),n2,by simp,rfl,hst,by simpa[ndE,St.do_,St.term]using h⟩
    .exact .inl (.inr (.inl h))
    .exact .inl (.inr (.inr h))
    obtain⟨n,Dn,x,m,s,g1,g2⟩:=h;exact .inr ⟨n,Dn,x,m,s,.inr (.inr g1),g2⟩
   rintro((h|h|h)|⟨n,Dn,x,m,s,(⟨rfl,rfl⟩|⟨rfl,rfl⟩|g1),g2⟩)
   .exact .inl h
   .exact .inr (.inr (.inl h))
   .exact .inr (.inr (.inr (.inl h)))
   .rw[n1]at g2;obtain⟨g2,g3,_⟩:=g2;cases g2;exact absurd rfl g3
   .obtain⟨g2,g3,g4,g5,g6⟩:=g2;rw[n2]at g2;cases g2;have:m=p:=by simp only at g4;omega
    subst this;rw[hst]at g5;cases g5;exact .inr (.inl (by simpa[ndE,St.do_,St.term]using g6))
   exact .inr (.inr (.inr (.inr ⟨n,Dn,x,m,s,g1,g2⟩)))
  have hab:a=[]/\b=[]:=by
   have:=h1.g;simp only[gS,N4,Nl,N6,Dj]at this;rcases this.1 with(h|h)|h
   .exact absurd h h3
   .exact absurd h.1 h4
   exact⟨h.1,h.2⟩
  obtain⟨rfl,rfl⟩:=hab;have hx:=h1.leafN h3 h4;simp only[N7 h3,N7 h4,ctL,De,or_false]
  have hnd:(∃(n:Nat) (Dn:Ds) (x:Nd) (m:Nat) (s:St),(n=k/\Dn=inD D)/\N[n]? =some x/\x.k≠4/\x.a=(m:Int)/\steps[m]? =some s/\ndE n0 hats s m Dn e)↔ndE n0 hats (.mk o c' w q t [] [] bs) p (inD D) e:=by
   constructor
   .rintro⟨n,Dn,x,m,s,⟨rfl,rfl⟩,g2,g3,g4,g5,g6⟩;rw[hx]at g2;cases g2;have:m=p:=by simp only at g4;omega
    subst this;rw[hst]at g5;cases g5;exact g6
   intro h;exact⟨k,_,_,p,_,⟨rfl,rfl⟩,hx,by simp,rfl,hst,h⟩
  rw[hnd];refine or_congr Iff.rfl ?_
  have hnd2:ndE n0 hats (.mk o c' w q t [] [] bs) p (inD D) e↔(if o=5 then ∃h,hats[q.toNat]? =some h/\∃v∈tmV h.term,e=⟨(n0:Int)+v,p,2⟩
   else ∃v∈tmV t,∃d:Nat,inD D v.toNat d/\e=⟨d,p,0⟩):=Iff.rfl
  rw[hnd2];by_cases h01:o=0\/o=1
  .rw[Na h01,N7 (by omega),X7E]
  rw[N7 h01];by_cases h5:o=5
  .rw[Na h5,Na h5];cases hh:hats[q.toNat]? with
   |none=>simp
   | some h=>
     simp only[X8e,Option.some.injEq,exists_eq_left']
  rw[N7 h5,N7 h5]
  have ht:tmV t=[]:=hq.1.1.1.resolve_left fun h=>by
   have e1:¬o=0:=fun h=>h01 (.inl h);have e2:¬o=1:=fun h=>h01 (.inr h);rcases h with h|h|h|h|h
   .exact e1 h
   .exact e2 h
   .exact h3 h
   .exact h4 h
   exact h5 h
  simp[ht]
 rw[key];simp only[Ng]
 have hsp:bkE N steps n0 hats (.mk o c' w q t a b bs::l) p k (inD D) e↔(∃(n:Nat) (Dn:Ds) (x:Nd) (m:Nat) (s:St),(if o=3 then(n=k/\Dn=inD D)\/lcL a (p+1) (k+1) (inD D) n Dn\/lcL b (p+1+szL a) (k+1+wdL a) (inD D) n Dn
    else if o=4 then(n=k/\Dn=inD D)\/(n=k+1/\Dn=lpD a p (inD D))\/lcL a (p+1) (k+2) (lpD a p (inD D)) n Dn
    else n=k/\Dn=inD D)/\N[n]? =some x/\x.k≠4/\x.a=(m:Int)/\steps[m]? =some s/\ndE n0 hats s m Dn e)\/bkE N steps n0 hats l (p+(1+szL a+szL b)) (k+wdS (.mk o c' w q t a b bs)) (tr1 o w a b p (inD D)) e:=by
  unfold bkE;constructor
  .rintro⟨n,Dn,x,m,s,g1,g2⟩;unfold lcL at g1;rcases g1 with g1|g1
   .exact .inl ⟨n,Dn,x,m,s,g1,g2⟩
   exact .inr ⟨n,Dn,x,m,s,g1,g2⟩
  rintro(⟨n,Dn,x,m,s,g1,g2⟩|⟨n,Dn,x,m,s,g1,g2⟩)
  .exact⟨n,Dn,x,m,s,by unfold lcL;exact .inl g1,g2⟩
  exact⟨n,Dn,x,m,s,by unfold lcL;exact .inr g1,g2⟩
 rw[hsp];constructor
 .rintro(((h|h|h|h)|h)|(h|h))
  .exact .inl (.inl h)
  .exact .inl (.inr (.inl h))
  .exact .inl (.inr (.inr (.inl h)))
  .exact .inl (.inr (.inr (.inr (.inl h))))
  .exact .inr (.inl h)
  .exact .inl (.inr (.inr (.inr (.inr h))))
  exact .inr (.inr h)
 rintro((h|h|h|h|h)|(h|h))
 .exact .inl (.inl (.inl h))
 .exact .inl (.inl (.inr (.inl h)))
 .exact .inl (.inl (.inr (.inr (.inl h))))
 .exact .inl (.inl (.inr (.inr (.inr h))))
 .exact .inr (.inl h)
 .exact .inl (.inr h)
 exact .inr (.inr h)
end
end Go.Proofs.YtdajceakaakdoaaGreat
namespace Go.Proofs.YtdajceakaakdoaaGreat
open Go Go.Hl
open Tryz(prog)
def X3P (n0:Nat) (hats:List Ht) (steps:List St) (x:Nd) (row:List Nat):List Dp:=
 if x.a<0\/x.k=4 then [] else match steps[x.a.toNat]? with
  | some s=>if s.do_=5 then(match hats[s.n.toNat]? with|some h=>rlE n0 x.a.toNat h.term|none=>[])
    else(tmV s.term).flatMap fun v=>(row.filter fun d=>decide (Qr steps d=v)).map fun d:Nat=>(⟨(d:Int),(x.a.toNat:Int),0⟩:Dp)
  |none=>[]
def X5y (n0:Nat) (hats:List Ht) (steps:List St) (N:List Nd) (R:List (List Nat)):List Dp:=(N.zip R).flatMap fun p=>X3P n0 hats steps p.1 p.2
def D0 (n nv:Nat):Dfs:=(List.range nv).map fun x=>[n+x]
theorem D0_ok (n nv:Nat):okD nv (D0 n nv):=by
 refine⟨by simp[D0],fun r hr=>?_⟩;unfold D0 at hr;obtain⟨x,_,rfl⟩:=NF.1 hr;simp
theorem D0_in (n nv:Nat):inD (D0 n nv)=stD0 n nv:=by
 funext v d
 refine propext ?_;unfold inD stD0 D0;rw[Np];by_cases h:v<nv
 .rw[List.getElem?_range h];simp[h]
 rw[Nx (by simpa using h)];simp[h]
theorem wf_va {vars:List Vr} {nh:Nat}:∀l:List St,wfL vars nh l=true->vaL vars.length l=true:=by
 apply St.lind
 .intro _;simp[vaL]
 intro o c w q t a b bs l ia ib il h;simp only[wfL,wfS,N4]at h;simp only[vaL,N4];refine⟨⟨⟨?_,ia h.1.2.2.2.2.2.1⟩,ib h.1.2.2.2.2.2.2⟩,il h.2⟩;simp only[Nl,Nw,Nj,N6];by_cases h5:o=0\/o=5
 .refine .inr ?_;have hw:=h.1.2.1;simp only[Nl,N4,N6]at hw;have hl:=hw.resolve_left fun h=>by omega
  obtain⟨h0,x,hx⟩:=X2a hl;exact(N5.1 hx).1
 exact .inl h5
theorem X9q {t:Tm} (h:WE t=true):tmV t=[]:=by
 obtain⟨o,n,ks⟩:=t;simp only[WE,N4,N6]at h;obtain⟨ho,_,hk⟩:=h;have hk:ks=[]:=Nv hk;simp[tmV,ZV,hk,ho]
theorem ss_qu {vars:List Vr} {nh:Nat}:∀l:List St,(∀q∈flL l,∃last,shB vars nh q.do_ q.var q.n q.term q.then_.length q.else_.length q.bounds last=true)->quL l=true:=by
 apply St.lind
 .intro _;simp[quL]
 intro o c w q t a b bs l ia ib il h;simp only[flL,flS,Ng,Nh]at h;simp only[quL,N4];refine⟨⟨⟨?_,ia fun q hq=>h q (.inl (.inr (.inl hq)))⟩,ib fun q hq=>h q (.inl (.inr (.inr hq)))⟩,il fun q hq=>h q (.inr hq)⟩;obtain⟨last,hs⟩:=h (.mk o c w q t a b bs) (.inl (.inl rfl));simp only[St.do_,St.var,St.n,St.term,St.then_,St.else_,St.bounds]at hs;simp only[Nl,N6];unfold shB at hs;by_cases h2:o=2
 .subst h2;simp only[N4,Int.reduceEq,Nc,Nf]at hs;exact .inr (X9q hs.2)
 by_cases h6:o=6
 .subst h6;simp only[N4,Int.reduceEq,Nc,Nf]at hs;exact .inr (X9q hs.1.2)
 refine .inl ?_;by_cases h0:o=0
 .exact .inl h0
 by_cases h1:o=1
 .exact .inr (.inl h1)
 by_cases h3:o=3
 .exact .inr (.inr (.inl h3))
 by_cases h4:o=4
 .exact .inr (.inr (.inr (.inl h4)))
 by_cases h5:o=5
 .exact .inr (.inr (.inr (.inr h5)))
 rw[N7 h0,N7 h1,N7 h2,N7 h3,N7 h4,N7 h5,N7 h6]at hs;cases hs
theorem Xbb {N:List Nd} {steps:List St} {nv n:Nat} {r:List Nat} (h:(rcL N steps nv)[n]? =some r) (d:Nat):d∈r↔d<steps.length+nv/\Rc N steps nv n d:=by
 classical
 have hlt:n<N.length:=by have:=(N5.1 h).1;simpa[rcL]using this
 have:(rcL N steps nv)[n]? =some ((List.range (steps.length+nv)).filter fun d=>decide (Rc N steps nv n d)):=by simp[rcL,hlt]
 rw[this]at h;cases h;rw[NR,List.mem_range,N6]
theorem X5e {T Y:Type}:∀{l:List T} {m:List Y} {p:T×Y},p∈l.zip m↔∃i:Nat,l[i]? =some p.1/\m[i]? =some p.2
 |[],m,p=>by simp
 |a::l,[],p=>by simp
 | a ::l,b::m,p=>by
   rw[List.zip_cons_cons,Nh,X5e];constructor
   .rintro(rfl|⟨i,h1,h2⟩)
    .exact⟨0,rfl,rfl⟩
    exact⟨i+1,by simpa using h1,by simpa using h2⟩
   rintro⟨i,h1,h2⟩;cases i with
   | zero=>
     simp only[List.getElem?_cons_zero,Option.some.injEq]at h1 h2;exact .inl (by obtain⟨x,y⟩:=p;simp only at h1 h2;rw[h1,h2])
   |succ i=>exact .inr ⟨i,by simpa using h1,by simpa using h2⟩
theorem dat_bk {f:Fl} (h:Sm f) (h0:Qa f=0) (hvf:∀q∈flL f.body,∀v∈tmV q.term,0<=v) (e:Dp):
  e∈X5y (flL f.body).length f.hats (flL f.body) (grN f.body) (rcL (grN f.body) (flL f.body) f.vars.length)↔bkE (grN f.body) (flL f.body) (flL f.body).length f.hats f.body 0 1 (stD0 (flL f.body).length f.vars.length) e:=by
 have hg:=X0z h0;have hl:=X48 h h0;have hok:=X88 hg;have hlen:=X1a hg;have hrl:(rcL (grN f.body) (flL f.body) f.vars.length).length=(grN f.body).length:=X84 _ _ _;unfold X5y bkE;simp only[List.mem_flatMap]
 have key:∀(n:Nat) (x:Nd) (r:List Nat) (Dn:Ds),(grN f.body)[n]? =some x->(rcL (grN f.body) (flL f.body) f.vars.length)[n]? =some r->lcL f.body 0 1 (stD0 (flL f.body).length f.vars.length) n Dn->0<=x.a->x.k≠4->∀s,(flL f.body)[x.a.toNat]? =some s->
   (e∈X3P (flL f.body).length f.hats (flL f.body) x r↔ndE (flL f.body).length f.hats s x.a.toNat Dn e):=by
  intro n x r Dn hx hr hD ha hk s hs;unfold X3P ndE;rw[N7 (by omega),hs];simp only;split
  .cases hh:f.hats[s.n.toNat]? with
   |none=>simp
   |some hh=>simp only[X8e,Option.some.injEq,exists_eq_left']
  simp only[List.mem_flatMap,NF,NR,N6];constructor
  .rintro⟨v,hv,d,⟨hd,hvo⟩,rfl⟩;have hv0:=hvf s (N3 hs) v hv;refine⟨v,hv,d,(lc_rc h h0 hD _ _).2 ⟨((Xbb hr d).1 hd).2,by rw[hvo];omega⟩,rfl⟩
  rintro⟨v,hv,d,hd,rfl⟩;have hv0:=hvf s (N3 hs) v hv;obtain⟨h1,h2⟩:=(lc_rc h h0 hD _ _).1 hd;refine⟨v,hv,d,⟨(Xbb hr d).2 ⟨rc_lt (fun y hy hay=>?_) h1,h1⟩,by rw[h2];omega⟩,rfl⟩;rcases(hok y hy).ha with h5|⟨m,h5,h6⟩
  .simp[W3,h5.1]at hay
  rw[h5,Q6];simpa using h6
 constructor
 .rintro⟨⟨x,r⟩,hp,he⟩;obtain⟨n,hx,hr⟩:=X5e.1 hp;simp only at hx hr he
  have hnz:0<=x.a/\x.k≠4:=by
   by_cases hc:x.a<0\/x.k=4
   .unfold X3P at he;rw[Na hc]at he;cases he
   omega
  have hrange:1<=n/\n<1+wdL f.body:=by
   have hnl:=(N5.1 hx).1;rw[hlen]at hnl;refine⟨Nat.pos_of_ne_zero ?_,?_⟩
   .rintro rfl;unfold grN at hx;simp only[List.getElem?_cons_zero,Option.some.injEq]at hx;rw[<-hx]at hnz;simp at hnz
   refine Nat.lt_of_le_of_ne (by omega) ?_;intro e'
   have:(grN f.body)[1+wdL f.body]? =some ⟨1,-1,-1,-1⟩:=by
    unfold grN;rw[Nat.add_comm,List.getElem?_cons_succ,Nn (by rw[We _ _ _ _ hg];omega),We _ _ _ _ hg,Nat.sub_self];rfl
   rw[e',this]at hx;cases hx;simp at hnz
  obtain⟨Dn,hD⟩:=lc_all f.body 0 1 (stD0 (flL f.body).length f.vars.length) n hg hrange.1 hrange.2;obtain⟨m,hm1,hm2⟩:=((hok x (N3 hx)).ha).resolve_left fun h=>by omega
  rw[<-Q6]at hm2;have hs:(flL f.body)[x.a.toNat]? =some (flL f.body)[m]:=by rw[hm1,Int.toNat_natCast,NA hm2]
  have:=(key n x r Dn hx hr hD hnz.1 hnz.2 _ hs).1 he;exact⟨n,Dn,x,x.a.toNat,_,hD,hx,hnz.2,by omega,hs,this⟩
 rintro⟨n,Dn,x,a,s,hD,hx,hk,ha,hs,he⟩;have hnl:=(N5.1 hx).1;obtain⟨r,hr,_⟩:=Xu (show n<(rcL (grN f.body) (flL f.body) f.vars.length).length by rw[hrl];exact hnl);have ha2:x.a.toNat=a:=by omega
 refine⟨(x,r),X5e.2 ⟨n,hx,hr⟩,?_⟩;exact(key n x r Dn hx hr hD (by omega) hk s (by rw[ha2];exact hs)).2 (by rw[ha2];exact he)
theorem prog_ref {f:Fl} (h:Sm f) (h0:Qa f=0) (hvf:∀q∈flL f.body,∀v∈tmV q.term,0<=v) (e:Dp):
  e∈ctL f.body (-1) 0++X5y (flL f.body).length f.hats (flL f.body) (grN f.body) (rcL (grN f.body) (flL f.body) f.vars.length)↔e∈edL (flL f.body).length f.hats f.body (-1) 0 (D0 (flL f.body).length f.vars.length):=by
 have hl:=X48 h h0;rw[Ng,dat_bk h h0 hvf,ed_mem f.body (-1) 0 1 (1+wdL f.body) _ hl (wf_va _ hl.wf) (ss_qu _ (X2U f.body true (W6 h0).2.2.2.1)) (D0_ok _ _),D0_in]
def tmL (cnd:St->Bool) (end_:Int):List St->Nat->List Dp
 |[],_=>[]
 | .mk o c w q t a b bs::l,p=>tmL cnd end_ a (p+1)++(tmL cnd end_ b (p+1+szL a)++((if cnd (.mk o c w q t a b bs)=true then [⟨p,end_,1⟩] else [])++tmL cnd end_ l (p+(1+szL a+szL b))))
def tmP (cnd:St->Bool) (end_:Int) (steps:List St):List Dp:=(steps.zipIdx).flatMap fun s=>if cnd s.1=true then [⟨s.2,end_,1⟩] else []
theorem tmL_mem (cnd:St->Bool) (end_:Int):∀l:List St,∀(p:Nat) (e:Dp),e∈tmL cnd end_ l p↔∃(i:Nat) (s:St),(flL l)[i]? =some s/\cnd s=true/\e=⟨(p+i:Nat),end_,1⟩:=by
 apply St.lind
 .intro p e;simp[tmL,flL]
 intro o c w q t a b bs l ia ib il p e;simp only[tmL,Ng,ia,ib,il];have hf:flL (.mk o c w q t a b bs::l)=.mk o c w q t a b bs::((flL a++flL b)++flL l):=by simp[flL,flS]
 have la:=Q6 a;have lb:=Q6 b;rw[hf];constructor
 .rintro(⟨i,s,h1,h2,rfl⟩|⟨i,s,h1,h2,rfl⟩|h|⟨i,s,h1,h2,rfl⟩)
  .have hi:=(N5.1 h1).1;refine⟨i+1,s,?_,h2,by congr 2;omega⟩;rw[List.getElem?_cons_succ,Ns (by simp;omega),Ns hi,h1]
  .have hi:=(N5.1 h1).1;refine⟨szL a+i+1,s,?_,h2,by congr 2;omega⟩;rw[List.getElem?_cons_succ,Ns (by simp;omega),Nn (by omega),la,Nat.add_sub_cancel_left,h1]
  .split at h
   .rename_i hc;exact⟨0,_,rfl,hc,by simpa using h⟩
   cases h
  refine⟨szL a+szL b+i+1,s,?_,h2,by congr 2;omega⟩;rw[List.getElem?_cons_succ,Nn (by simp;omega),N9,la,lb,Nat.add_sub_cancel_left,h1]
 rintro⟨i,s,h1,h2,rfl⟩;cases i with
 | zero=>
   cases h1;exact .inr (.inr (.inl (by rw[Na h2];simp)))
 | succ i=>
   rw[List.getElem?_cons_succ]at h1;by_cases h5:i<szL a
   .rw[Ns (by simp;omega),Ns (by omega)]at h1;exact .inl ⟨i,s,h1,h2,by congr 2;omega⟩
   by_cases h6:i<szL a+szL b
   .rw[Ns (by simp;omega),Nn (by omega),la]at h1;exact .inr (.inl ⟨i - szL a,s,h1,h2,by congr 2;omega⟩)
   rw[Nn (by simp;omega),N9,la,lb]at h1;exact .inr (.inr (.inr ⟨i - (szL a+szL b),s,h1,h2,by congr 2;omega⟩))
theorem Xbs (cnd:St->Bool) (end_:Int) (steps:List St) (e:Dp):e∈tmP cnd end_ steps↔∃(i:Nat) (s:St),steps[i]? =some s/\cnd s=true/\e=⟨(i:Nat),end_,1⟩:=by
 unfold tmP;simp only[List.mem_flatMap];constructor
 .rintro⟨⟨s,i⟩,hs,he⟩;have hs':=List.mem_zipIdx_iff_getElem?.1 hs;simp only at he hs';split at he
  .rename_i hc;exact⟨i,s,hs',hc,by simpa using he⟩
  cases he
 rintro⟨i,s,hs,hc,rfl⟩;exact⟨(s,i),List.mem_zipIdx_iff_getElem?.2 hs,by simp[hc]⟩
def dpB (a b:Dp):Bool:=decide (a.f<b.f)||(decide (a.f=b.f)&&(decide (a.t<b.t)||(decide (a.t=b.t)&&decide (a.k<b.k))))
theorem Zb {a b:Dp}:dpB a b=true↔a.f<b.f\/(a.f=b.f/\(a.t<b.t\/(a.t=b.t/\a.k<b.k))):=by simp[dpB]
theorem Xad:∀{l m:List Dp},l.Pairwise (fun a b=>dpB a b=true)->m.Pairwise (fun a b=>dpB a b=true)->(∀x,x∈l↔x∈m)->l=m
 |[],[],_,_,_=>rfl
 |[],b::m,_,_,h=>absurd ((h b).2 (by simp)) (by simp)
 |a::l,[],_,_,h=>absurd ((h a).1 (by simp)) (by simp)
 | a ::l,b::m,hl,hm,h=>by
   rw[NQ]at hl hm
   have hab:a=b:=by
    rcases Nh.1 ((h a).1 (by simp))with e|e
    .exact e
    rcases Nh.1 ((h b).2 (by simp))with e2|e2
    .exact e2.symm
    have h1:=Zb.1 (hm.1 a e);have h2:=Zb.1 (hl.1 b e2);omega
   subst hab;have irr:∀x:Dp,¬dpB x x=true:=fun x hx=>by have:=Zb.1 hx;omega
   congr 1;refine Xad hl.2 hm.2 fun x=>?_;constructor
   .intro hx;rcases Nh.1 ((h x).1 (by simp[hx]))with e|e
    .subst e;exact absurd (hl.1 x hx) (irr x)
    exact e
   intro hx;rcases Nh.1 ((h x).2 (by simp[hx]))with e|e
   .subst e;exact absurd (hm.1 x hx) (irr x)
   exact e
def Wm (t:List Dp) (v:Dp):List Dp:=if v∈t then t else t++[v]
def XS:List Dp->List Dp->List Dp
 |[],t=>t
 |v::l,t=>XS l (Wm t v)
theorem X00 (a b:List Dp):∀t,XS (a++b) t=XS b (XS a t):=by
 induction a with
 |nil=>intro t;rfl
 |cons v a ih=>intro t;exact ih _
theorem XbO (t:List Dp) (v x:Dp):x∈Wm t v↔x∈t\/x=v:=by
 unfold Wm;split
 .rename_i h;exact⟨.inl,fun h2=>h2.elim id fun e=>e▸h⟩
 simp
theorem WL (l:List Dp):∀(t:List Dp) (x:Dp),x∈XS l t↔x∈t\/x∈l:=by
 induction l with
 |nil=>intro t x;simp[XS]
 | cons v l ih=>
   intro t x;rw[XS,ih,XbO,Nh,or_assoc]
theorem X9o {t:List Dp} (h:t.Nodup) (v:Dp):(Wm t v).Nodup:=by
 unfold Wm;split
 .exact h
 rename_i hn;rw[List.nodup_append];exact⟨h,by simp,fun a ha b hb=>by rw[Nk.1 hb];rintro rfl;exact hn ha⟩
theorem Zf (l:List Dp):∀(t:List Dp),t.Nodup->(XS l t).Nodup:=by
 induction l with
 |nil=>intro t h;exact h
 |cons v l ih=>intro t h;exact ih _ (X9o h v)
theorem X7f (t:List Dp) (v:Dp):(Wm t v).length<=t.length+1:=by unfold Wm;split<;>simp
theorem XcT (l:List Dp):∀(t:List Dp),(XS l t).length<=t.length+l.length:=by
 induction l with
 |nil=>intro t;simp[XS]
 |cons v l ih=>intro t;have:=ih (Wm t v);have:=X7f t v;simp only[XS,List.length_cons];omega
def QU (l:List Dp):List Dp:=(XS l []).mergeSort fun a b=> !dpB b a
theorem XcN (a b:Dp):(!dpB b a|| !dpB a b)=true:=by
 cases h1:dpB b a with
 |false=>rfl
 | true=>
   cases h2:dpB a b with
   |false=>rfl
   |true=>have:=Zb.1 h1;have:=Zb.1 h2;omega
theorem Xd5 (a b c:Dp) (h1:(!dpB b a)=true) (h2:(!dpB c b)=true):(!dpB c a)=true:=by
 simp only[Nw,<-Bool.not_eq_true]at*;rw[Zb]at*;omega
theorem X0L (l:List Dp) (x:Dp):x∈QU l↔x∈l:=by
 rw[QU,List.mem_mergeSort,WL];simp
theorem X0P (l:List Dp):(QU l).Pairwise (fun a b=>dpB a b=true):=by
 have h3:=List.pairwise_mergeSort (le:=fun a b=> !dpB b a) (fun a b c=>Xd5 a b c) (fun a b=>XcN a b) (XS l []);have h4:(QU l).Nodup:=(List.mergeSort_perm _ _).nodup_iff.2 (Zf l [] (by simp));refine(List.pairwise_and_iff.2 ⟨h3,h4⟩).imp fun {a b} ⟨h5,h6⟩=>?_;simp only[Nw,<-Bool.not_eq_true]at h5;rw[Zb]at h5⊢;have h6:a≠b:=h6;have:¬(a.f=b.f/\a.t=b.t/\a.k=b.k):=fun⟨e1,e2,e3⟩=>h6 (by obtain⟨x,y,z⟩:=a;obtain⟨x',y',z'⟩:=b;simp only at e1 e2 e3;rw[e1,e2,e3]);omega
theorem X25 {l m:List Dp} (h:∀x,x∈l↔x∈m):QU l=QU m:=Xad (X0P l) (X0P m) fun x=>by rw[X0L,X0L,h]
theorem X9u {l m:List Dp} (h:m.Pairwise (fun a b=>dpB a b=true)) (hm:∀x,x∈m↔x∈l):m=QU l:=Xad h (X0P l) fun x=>by rw[X0L,hm]
def Inp.enc (i:Inp):List CD:=[.sl 1 (Xi i.s),.sl 1 (Xi i.p),.sl 1 (Xi i.r)]
def X1M (l:List Inp):List (List CD):=l.map Inp.enc
@[simp] theorem encNms_app (a b:List Inp):X1M (a++b)=X1M a++X1M b:=by simp[X1M]
@[simp] theorem encNms_len (l:List Inp):(X1M l).length=l.length:=by simp[X1M]
@[simp] theorem get_encNm (l:List Inp) (i:Nat):(X1M l)[i]? =l[i]?.map Inp.enc:=by simp[X1M]
mutual
def tL:Tm->Int->Int
 | .mk _ _ ks,left=>tLs ks (left - 1)
def tLs:List Tm->Int->Int
 |[],left=>left
 |t::l,left=>if 0<=left then tLs l (tL t left)else left
end
def lo1 (x:Int):Int:=if x<0 then x else -1
mutual
theorem X5H:∀(t:Tm) (left:Int),lo1 (left - 1)<=tL t left/\tL t left<=left - 1
 | .mk _ _ ks,left=>by
   simp only[tL];exact Xa7 ks (left - 1)
theorem Xa7:∀(l:List Tm) (left:Int),lo1 left<=tLs l left/\tLs l left<=left
 | [],left=>by
   simp only[tLs,lo1];split<;>omega
 | t ::l,left=>by
   simp only[tLs];split
   .have h1:=X5H t left;have h2:=Xa7 l (tL t left);unfold lo1 at*;refine⟨?_,by omega⟩;split
    .omega
    refine Int.le_trans ?_ h2.1;split<;>(try split at h1)<;>omega
   unfold lo1;split<;>omega
end
theorem tLs_neg (l:List Tm) (left:Int) (h:left<0):tLs l left=left:=by
 cases l with
 |nil=>rfl
 |cons t l=>simp only[tLs];rw[N7 (by omega)]
mutual
theorem XaC:∀(t:Tm) (left:Int),0<=tL t left->tL t left=left - t.nodes
 | .mk _ _ ks,left=>by
   simp only[tL,Tm.nodes];intro h;have:=Xb4 ks (left - 1) h;omega
theorem Xb4:∀(l:List Tm) (left:Int),0<=tLs l left->tLs l left=left - Qn l
 |[],left=>by simp[tLs,Qn]
 | t::l,left=>by
   simp only[tLs,Qn];split
   .intro h;have h1:=Xb4 l (tL t left) h;have h2:=Xa7 l (tL t left);have h3:=XaC t left (by omega);omega
   intro h;omega
end
def sL:List St->Int->Int
 |[],left=>left
 | .mk _ _ _ _ t a b bs::l,left=>
   if 0<=left then(if tL t (left - 1)<bs.length then -1 else sL l (sL b (sL a (tL t (left - 1) - bs.length))))else left
theorem sL_neg (l:List St) (left:Int) (h:left<0):sL l left=left:=by
 cases l with
 |nil=>simp[sL]
 |cons s l=>obtain⟨d,c,v,n,t,a,b,bs⟩:=s;simp only[sL];rw[N7 (by omega)]
theorem X3W:∀(l:List St) (left:Int),lo1 left<=sL l left/\sL l left<=left
 | [],left=>by
   simp only[sL,lo1];split<;>omega
 | .mk _ _ _ _ t a b bs::l,left=>by
   simp only[sL];by_cases h0:0<=left
   .rw[Na h0];have e:lo1 left=-1:=by unfold lo1;rw[N7 (by omega)]
    rw[e];split
    .omega
    have h1:=X5H t (left - 1);have ha:=X3W a (tL t (left - 1) - bs.length);have hb:=X3W b (sL a (tL t (left - 1) - bs.length));have hl:=X3W l (sL b (sL a (tL t (left - 1) - bs.length)));refine⟨?_,by omega⟩;generalize sL l (sL b (sL a (tL t (left - 1) - bs.length)))=z at*;generalize sL b (sL a (tL t (left - 1) - bs.length))=y at*;generalize sL a (tL t (left - 1) - bs.length)=x at*;generalize tL t (left - 1)=w at*;unfold lo1 at ha hb hl
    (repeat' split at ha)<;>(repeat' split at hb)<;>(repeat' split at hl)<;>omega
   rw[N7 h0];unfold lo1;split<;>omega
theorem X85:∀(l:List St) (left:Int),left<=1000000->0<=sL l left->sL l left<=left - Xh l/\Z6 l=true
 |[],left,_,_=>by simp[sL,Xh,Z6]
 | .mk _ _ _ _ t a b bs::l,left,hle,h=>by
   simp only[sL]at h⊢;by_cases h0:0<=left
   .rw[Na h0]at h⊢;split at h
    .omega
    rename_i hbs;rw[N7 hbs];have i0:=X5H t (left - 1);have ia:=X3W a (tL t (left - 1) - bs.length);have ib:=X3W b (sL a (tL t (left - 1) - bs.length));have il:=X3W l (sL b (sL a (tL t (left - 1) - bs.length)));have p3:=X85 l (sL b (sL a (tL t (left - 1) - bs.length))) (by omega) h;have p2:=X85 b (sL a (tL t (left - 1) - bs.length)) (by omega) (by omega);have p1:=X85 a (tL t (left - 1) - bs.length) (by omega) (by omega);have p0:=XaC t (left - 1) (by omega);simp only[Xh,St.nodes,Z6,X43,p1.2,p2.2,p3.2,Bool.and_true,N6];omega
   rw[N7 h0]at h;omega
def hL:List Ht->Int->Int
 |[],m=>m
 |h::l,m=>hL l (tL h.term m)
theorem hL_le:∀(l:List Ht) (m:Int),hL l m<=m
 |[],m=>by simp[hL]
 | h::l,m=>by
   have h1:=hL_le l (tL h.term m);have h2:=X5H h.term m;simp only[hL];omega
theorem hL_pos:∀(l:List Ht) (m:Int),0<=hL l m->hL l m=m - Qu l
 |[],m,_=>by simp[hL,Qu]
 | h::l,m,h0=>by
   simp only[hL,Qu]at h0⊢;have h1:=hL_pos l _ h0;have h2:=hL_le l (tL h.term m);have h3:=XaC h.term m (by omega);omega
def fewB (f:Fl) (vars nodes:Int):Bool:=if vars<f.vars.length\/vars<f.hats.length then false else decide (0<=hL f.hats (sL f.body nodes))
theorem fewB_in {f:Fl} {vars nodes:Int} (hn:nodes<=1000000) (h:fewB f vars nodes=true):f.vars.length<=vars/\f.hats.length<=vars/\Xh f.body+Qu f.hats<=nodes/\Z6 f.body=true:=by
 unfold fewB at h;split at h
 .cases h
 rename_i h1;simp only[N6]at h;have e1:=hL_pos _ _ h;have e2:=hL_le f.hats (sL f.body nodes);have e3:=X85 f.body nodes hn (by omega);exact⟨by omega,by omega,by omega,e3.2⟩
theorem X7a (t:Tm):∀left:Int,-1000000<=left->left<=1000000->∀d:Nat,Con prog 42 true [aT t,li left] (.v (li (tL t left))) none d:=by
 induction t using Tm.ind with
 |h o n ks ih=>
 intro left h1 h2 d;obtain⟨res,hres⟩:∃r,tL (.mk o n ks) left=r:=⟨_,rfl⟩;rw[hres];simp only[tL]at hres;have hw0:IntKind.i64.wrap (left - 1)=left - 1:=X9;refine X6 Tryz.func42 ?_;simp only[Tryz.f42];simp only[aT,Tm.enc];refine X1 ?_;refine X1 ?_;refine X0<|X0<|X2 ?_;refine X3<|(Xd [2] (fun(x:Nat×Int)=>[(1,.v (li x.2)),(5,.v (li x.1))]) (fun x=>[(2,.box [.c (iC o),.c (iC n),.c (.sl 3 (XA ks))])]) (fun x=>x.1<=ks.length/\tLs (ks.drop x.1) x.2=res∧-1000001<=x.2/\x.2+x.1<=1000000) (fun x=>ks.length - x.1) (0,left - 1) ⟨Nq _,by simpa using hres,by simp only;omega,by simp only;omega⟩ ?_ ?_)
 .exact X4 (fun n=>n) []
 rintro⟨k,m⟩ ⟨hk,hJ,hm,hm2⟩;simp only[upS,X5,Xy]
 try simp only[X5,KN,Nat.reduceBEq,Nf,Nc,ins,Nat.reduceLT]
 simp only at hk hJ hm hm2;refine X0<|X0<|X2 ?_;refine(X8 rfl (fun h5=>Xb ?_) (fun h5=>?_))
 ·(try simp only[BN]at h5);have hlt:k<ks.length:=by omega
  have hm0:0<=m:=by omega
  obtain⟨⟨eo,en,ek⟩,he,hd⟩:=Xu hlt;have he':=Wx he;simp only[Tm.enc]at he';have hw1:IntKind.i64.wrap ((k:Int)+1)=(k:Int)+1:=X9;rw[hd]at hJ;simp only[tLs]at hJ;rw[Na hm0]at hJ;have hk1:k+1<=ks.length:=hlt;have c:=ih _ (N3 he) m (by omega) (by omega);have hti:=X5H (.mk eo en ek) m;have hlo:-1<=lo1 (m - 1):=by unfold lo1;split<;>omega
  obtain⟨M,hM⟩:∃x,tL (.mk eo en ek) m=x:=⟨_,rfl⟩;rw[hM]at c hJ hti;clear hlt h5 hM ih hd;refine X0<|X3<|(Xo [⟨true,.v (li M),none⟩] ?_ ?_)
  .first|exact c _|exact trivial|simpa[*]using c _
  refine X2 ?_;exact⟨(k+1,M),⟨hk1,hJ,by simp only;omega,by simp only;omega⟩,by simp only;omega,X4 (fun n=>n) []⟩
 try simp only[BN]at h5
 have hz:tLs (ks.drop k) m=m:=by
  by_cases hm0:m<0
  .exact tLs_neg _ _ hm0
  have hkl:k=ks.length:=by omega
  rw[hkl,Nt];rfl
 rw[hz]at hJ;subst hJ;refine(Xg ?_);refine X1 ?_;exact Xf
theorem Xc9 (l:List St):∀left:Int,-1000000<=left->left<=1000000->∀d:Nat,Con prog 41 true [lS l,li left] (.v (li (sL l left))) none d:=by
 revert l
 apply St.lists;intro l ih left h1 h2 d;obtain⟨res,hres⟩:∃r,sL l left=r:=⟨_,rfl⟩;rw[hres];refine X6 Tryz.func41 ?_;simp only[Tryz.f41];refine X1 ?_;refine X0<|X0<|X2 ?_;refine X3<|(Xd [0] (fun(x:Nat×Int)=>[(1,.v (li x.2)),(5,.v (li x.1))]) (fun x=>[]) (fun x=>x.1<=l.length/\sL (l.drop x.1) x.2=res∧-1000001<=x.2/\x.2+x.1<=1000000) (fun x=>l.length - x.1) (0,left) ⟨Nq _,hres,by simp only;omega,by simp only;omega⟩ ?_ ?_)
 .exact X4 (fun n=>n) []
 rintro⟨k,m⟩ ⟨hk,hJ,hm,hm2⟩;simp only[upS,X5,Xy]
 try simp only[X5,KN,Nat.reduceBEq,Nf,Nc,ins,Nat.reduceLT]
 simp only at hk hJ hm hm2;clear hres;refine X0<|X0<|X2 ?_;refine(X8 rfl (fun h4=>Xb ?_) (fun h4=>?_))
 ·(try simp only[BN]at h4);have hlt:k<l.length:=by omega
  have hm0:0<=m:=by omega
  obtain⟨s,he,hd⟩:=Xu hlt;have hmem:s∈l:=N3 he;have iha:=(ih s hmem).1;have ihb:=(ih s hmem).2;have hw1:IntKind.i64.wrap ((k:Int)+1)=(k:Int)+1:=X9;have hk1:k+1<=l.length:=hlt;have he':=Q2 he;obtain⟨sd,sc,sv,sn,⟨so,stn,sks⟩,sa,sb,sbs⟩:=s;simp only[St.then_,St.else_]at iha ihb;simp only[St.enc,Tm.enc,List.cons_append,List.nil_append]at he';rw[hd]at hJ;simp only[sL]at hJ;rw[Na hm0]at hJ;have hw2:IntKind.i64.wrap (m - 1)=m - 1:=X9;have c:=X7a (.mk so stn sks) (m - 1) (by omega) (by omega);have hti:=X5H (.mk so stn sks) (m - 1);have hlo:-2<=lo1 (m - 1 - 1):=by unfold lo1;split<;>omega
  obtain⟨M,hM⟩:∃x,tL (.mk so stn sks) (m - 1)=x:=⟨_,rfl⟩;rw[hM]at c hJ hti;simp only[aT,Tm.enc,Ni,Nr]at c;clear hlt h4 hM ih hd hmem;refine X0<|X3<|X0<|(Xo [⟨true,.v (li M),none⟩] ?_ ?_)
  .first|exact c _|exact trivial|simpa[*]using c _
  refine X0<|X0<|X2 ?_;refine(Xc rfl (fun h7=>?_) fun h7=>?_)
  ·(try simp only[BN]at h7);rw[Na h7]at hJ;subst hJ;refine X1 ?_;exact Xf
  (try simp only[BN]at h7);rw[N7 (by omega)]at hJ;have hw3:IntKind.i64.wrap (M - (sbs.length:Int))=M - (sbs.length:Int):=X9;have c1:=iha (M - sbs.length) (by omega) (by omega);have s1:=X3W sa (M - sbs.length);have hl1:-1<=lo1 (M - sbs.length):=by unfold lo1;split<;>omega
  obtain⟨M1,hM1⟩:∃x,sL sa (M - sbs.length)=x:=⟨_,rfl⟩;rw[hM1]at c1 s1 hJ;have c2:=ihb M1 (by omega) (by omega);have s2:=X3W sb M1;have hl2:-1<=lo1 M1:=by unfold lo1;split<;>omega
  obtain⟨M2,hM2⟩:∃x,sL sb M1=x:=⟨_,rfl⟩;rw[hM2]at c2 s2 hJ;clear iha ihb hM1 hM2 h7 c;refine(QC [⟨true,.v (li M1),none⟩,⟨true,.v (li M2),none⟩] (by kernel_rfl) (by kernel_rfl) (by rfl) (by simp[*];first|exact⟨rfl,Iff.rfl⟩|exact⟨rfl,trivial⟩|rfl) ?_ ?_)
  .first|exact⟨c1 _,c2 _⟩|exact trivial|(repeat' first|exact trivial|exact c1 _|exact c2 _|apply And.intro)
  refine X2 ?_;exact⟨(k+1,M2),⟨hk1,hJ,by simp only;omega,by simp only;omega⟩,by simp only;omega,X4 (fun n=>n) []⟩
 try simp only[BN]at h4
 have hz:sL (l.drop k) m=m:=by
  by_cases hm0:m<0
  .exact sL_neg _ _ hm0
  have hkl:k=l.length:=by omega
  rw[hkl,Nt];simp[sL]
 rw[hz]at hJ;subst hJ;refine(Xg ?_);refine X1 ?_;exact Xf
theorem few_con (f:Fl) (vars nodes:Int) (hv:0<=vars/\vars<=1000) (hn:0<=nodes/\nodes<=1000) (d:Nat):Con prog 13 true [aF f,li vars,li nodes] (.v (lb (fewB f vars nodes))) none d:=by
 obtain⟨vs,hats,body⟩:=f;obtain⟨res,hres⟩:∃r,fewB ⟨vs,hats,body⟩ vars nodes=r:=⟨_,rfl⟩;rw[hres];unfold fewB at hres;simp only at hres;have cs:=Xc9 body nodes (by omega) (by omega);have hsi:=X3W body nodes;have hlo:-2<=lo1 nodes:=by unfold lo1;split<;>omega
 obtain⟨S,hS⟩:∃x,sL body nodes=x:=⟨_,rfl⟩;rw[hS]at hres cs hsi;clear hS;refine X6 Tryz.func13 ?_;simp only[Tryz.f13];simp only[aF,Fl.enc,Ni,Nr];refine X1 ?_;refine X0<|X0<|X2 ?_;refine(Xc rfl (fun h2=>?_) fun h2=>?_)
 ·(try simp only[BN]at h2);rw[Na (by omega)]at hres;subst hres;refine X1 ?_;exact Xf
 (try simp only[BN]at h2);rw[N7 (by omega)]at hres;obtain⟨E,hE⟩:∃x,hL hats S=x:=⟨_,rfl⟩;rw[hE]at hres;refine Xk [⟨true,.v (li S),none⟩] ?_ ?_
 .first|exact cs _|exact trivial|simpa[*]using cs _
 refine X0<|X0<|X2 ?_;refine X3<|(Xd [27,28] (fun(x:Nat×Int)=>[(7,.v (li x.2)),(29,.v (li x.1))]) (fun x=>[]) (fun x=>x.1<=hats.length/\hL (hats.drop x.1) x.2=E∧-2 - (x.1:Int)<=x.2/\x.2<=1000) (fun x=>hats.length - x.1) (0,S) ⟨Nq _,hE,by simp only;omega,by simp only;omega⟩ ?_ ?_)
 .exact X4 (fun n=>n) []
 rintro⟨k,m⟩ ⟨hk,hJ,hm,hm2⟩;simp only[upS,X5,Xy]
 try simp only[X5,KN,Nat.reduceBEq,Nf,Nc,ins,Nat.reduceLT]
 simp only at hk hJ hm hm2;clear hE;refine X1 ?_;refine X0<|(X8 rfl (fun h9=>Xb ?_) (fun h9=>?_))
 ·(try simp only[BN]at h9);have hlt:k<hats.length:=by omega
  obtain⟨h,he,hd⟩:=Xu hlt;have hw1:IntKind.i64.wrap ((k:Int)+1)=(k:Int)+1:=X9;have hk1:k+1<=hats.length:=hlt;have c:=X7a h.term m (by omega) (by omega);have hti:=X5H h.term m;have hl1:-3 - (k:Int)<=lo1 (m - 1):=by unfold lo1;split<;>omega
  rw[hd]at hJ;simp only[hL]at hJ;obtain⟨nm,lo,hi,⟨o,tn,ks⟩⟩:=h;simp only at c hti hJ;obtain⟨M,hM⟩:∃x,tL (.mk o tn ks) m=x:=⟨_,rfl⟩;rw[hM]at c hJ hti;simp only[aT,Tm.enc,Ni,Nr]at c;clear hlt h9 hM hd;refine X0<|X3<|X0<|X2 ?_;refine(Xo [⟨true,.v (li M),none⟩] ?_ ?_)
  .first|exact c _|exact trivial|simpa[*]using c _
  refine X2 ?_;exact⟨(k+1,M),⟨hk1,hJ,by simp only;omega,by simp only;omega⟩,by simp only;omega,X4 (fun n=>n) []⟩
 (try simp only[BN]at h9);have hkl:k=hats.length:=by omega
 rw[hkl,Nt]at hJ;simp only[hL]at hJ;subst hJ;subst hres;refine(Xg ?_);refine X1 ?_;exact Xf
structure Fit (f:Fl) (a b c:Int):Prop where
 hv:f.vars.length<=10
 hh:f.hats.length<=10
 hn:Xh f.body+Qu f.hats<=80
 hb:Z6 f.body=true
 code:Qa f=0
 good:X1K f.vars
 s1:spc f.vars 1<=a
 s2:spc f.vars 2<=b
 s3:spc f.vars 3<=c
def evL:List St->List St
 |[]=>[]
 | .mk d c v n t a b bs::l=>balS (.mk d c v n t (evL a) (evL b) bs)::evL l
def X4k:List Int->Int->Nat->Int
 |[],_,_=>-1
 |y::l,x,k=>if x=y then k else X4k l x (k+1)
theorem X9m:∀(l:List Int) (x:Int) (k:Nat),x∈l->0<=X4k l x k
 |[],_,_,h=>by cases h
 | y::l,x,k,h=>by
   simp only[X4k];split
   .omega
   rename_i hne;rcases Nh.1 h with h|h
   .exact absurd h hne
   exact X9m l x _ h
theorem XcS (l:List Int) (x:Int) (hl:l.length<=1000000000) (d:Nat):Con prog 74 true [lI l,li x] (.v (li (X4k l x 0))) none d:=by
 obtain⟨res,hres⟩:∃r,X4k l x 0=r:=⟨_,rfl⟩;rw[hres];refine X6 Tryz.func74 ?_;simp only[Tryz.f74];refine X1 ?_;refine X0<|X0<|X2 ?_;refine X3<|(Xd [0,1,7] (fun(z:Nat)=>[(8,.v (li z))]) (fun z=>[]) (fun z=>z<=l.length/\X4k (l.drop z) x z=res) (fun z=>l.length - z) (0:Nat) ⟨Nq _,hres⟩ ?_ ?_)
 .exact X4 (fun n=>n) []
 rintro k ⟨hk,hJ⟩;simp only[upS,X5,Xy]
 try simp only[X5,KN,Nat.reduceBEq,Nf,Nc,ins,Nat.reduceLT]
 clear hres;refine X1 ?_;refine X0<|(X8 rfl (fun h4=>Xb ?_) (fun h4=>?_))
 ·(try simp only[BN]at h4);have hlt:k<l.length:=by omega
  obtain⟨b,he,hd⟩:=Xu hlt;have hw1:=XE hlt (by omega);have hk1:k+1<=l.length:=hlt;rw[hd]at hJ;simp only[X4k]at hJ;clear hlt h4 hd;refine X0<|X3<|X0<|X2 ?_;refine X1 ?_;refine(Xc rfl (fun h7=>?_) fun h7=>?_)
  ·(try simp only[BN]at h7);rw[Na (by simpa using h7)]at hJ;subst hJ;refine X1 ?_;exact Xf
  (try simp only[BN]at h7);rw[N7 (by simpa using h7)]at hJ;refine X2 ?_;exact⟨k+1,⟨hk1,hJ⟩,by omega,X4 (fun n=>n) []⟩
 (try simp only[BN]at h4);have hkl:k=l.length:=by omega
 rw[hkl,Nt]at hJ;simp only[X4k]at hJ;subst hJ;refine(Xg ?_);refine X1 ?_;exact Xf
theorem X7H (l:List Int) (x:Int) (hl:l.length<=1000000000) (d:Nat):Con prog 36 true [lI l,li x] (.v (lb (decide (0<=X4k l x 0)))) none d:=by
 have ci:=XcS l x hl;obtain⟨res,hres⟩:∃r,X4k l x 0=r:=⟨_,rfl⟩;rw[hres]at ci⊢;clear hres;refine X6 Tryz.func36 ?_;simp only[Tryz.f36];refine X1 ?_;refine Xk [⟨true,.v (li res),none⟩] ?_ ?_
 .first|exact ci _|exact trivial|simpa[*]using ci _
 exact Xf
theorem X9A (f:Fl) (hv:f.vars.length<=1000000) (hh:f.hats.length<=1000000) (hn:Xh f.body+Qu f.hats<=900000000) (hb:Z6 f.body=true) (hc:Qa f=0) (d:Nat):
  Con prog 191 true [aF f] (.tup [li (bdL CP f.body ⟨0,0,0⟩).s,li (bdL CP f.body ⟨0,0,0⟩).o,li (bdL CP f.body ⟨0,0,0⟩).t,li 0]) none d:=by
 have cc:=X1m f hv hh hn hb;have cu:=X6N f.body (by omega) (X0E _ _ (W6 hc).2.2.2.1);rw[hc]at cc;obtain⟨vars,hats,body⟩:=f;simp only at cu⊢;obtain⟨⟨bs,bo,bt⟩,hB⟩:∃x,bdL CP body ⟨0,0,0⟩=x:=⟨_,rfl⟩;rw[hB]at cu⊢;simp only[aB]at cu⊢;clear hB hc hn hb hv hh;refine X6 Tryz.func191 ?_;simp only[Tryz.f191];simp only[aF,Fl.enc,Ni,Nr]at cc⊢;refine X1 ?_;refine X0<|X0<|(Xo [⟨true,.v (li 0),none⟩] ?_ ?_)
 .first|exact cc _|exact trivial|simpa[*]using cc _
 refine X1 ?_;refine(Xc rfl (fun h3=>?_) fun h3=>?_)
 .exact absurd h3 (by simp)
 (try simp only[BN]at h3);refine Xk [⟨true,.v (.agg [.c (iC bs),.c (iC bo),.c (iC bt)]),none⟩] ?_ ?_
 .first|exact cu _|exact trivial|simpa[*]using cu _
 refine X0<|(N0 ?_);exact Xf
def Dp.d3 (x:Dp):D3:=(x.f,x.t,x.k)
theorem Dp.d3_inj {x y:Dp} (h:x.d3=y.d3):x=y:=by
 obtain⟨a,b,c⟩:=x;obtain⟨a',b',c'⟩:=y;simp only[Dp.d3,Prod.mk.injEq]at h;rw[h.1,h.2.1,h.2.2]
def dpM (l:List Dp):List (Value×CD):=d3M (l.map Dp.d3)
theorem Xbz (l:List Dp) (x:Dp):d3M (ins3 (l.map Dp.d3) x.d3)=dpM (Wm l x):=by
 unfold ins3 Wm dpM
 have:x.d3∈l.map Dp.d3↔x∈l:=by
  rw[NF];exact⟨fun⟨y,hy,he⟩=>Dp.d3_inj he▸hy,fun h=>⟨x,h,rfl⟩⟩
 by_cases h:x∈l
 .rw[Na h,Na (this.2 h)]
 rw[N7 h,N7 (fun h2=>h (this.1 h2))];simp
@[simp] theorem len_dpM (l:List Dp):(dpM l).length=l.length:=by simp[dpM,d3M]
def pdO (vars:List Vr) (hats:List Ht) (body st:List St) (dp:List Dp):List (Nat×Ob):=[(900001,.row 70 10 (X7 st)),(900002,.mp (dpM dp)),(1000001,.box [.c (.sl 5 (Xm vars)),.c (.sl 6 (Xn hats)),.c (.sl 10 (X7 body)),.own 900001,.own 900002])]
theorem pd_pin {vars:List Vr} {hats:List Ht} {body st:List St} {dp:List Dp}:∀n cs,lkp (pdO vars hats body st dp) n=some (.box cs)->1000000<=n:=by
 intro n cs h;simp only[pdO,lkp]at h
 repeat' split at h
 all_goals first|omega|cases h
def pdF (vars:List Vr) (hats:List Ht) (body st:List St) (dp:List Dp):List (Nat×Ob):=[(900002,.mp (dpM dp)),(1000001,.box [.c (.sl 5 (Xm vars)),.c (.sl 6 (Xn hats)),.c (.sl 10 (X7 body)),.c (.sl 10 (X7 st)),.own 900002])]
theorem XaF {vars:List Vr} {hats:List Ht} {body st:List St} {dp:List Dp}:∀n cs,lkp (pdF vars hats body st dp) n=some (.box cs)->1000000<=n:=by
 intro n cs h;simp only[pdF,lkp]at h
 repeat' split at h
 all_goals first|omega|cases h
abbrev pdC (vars:List Vr) (hats:List Ht) (body st:List St) (dp:List Dp):TV:=.one (.c (.ptr [.sl 5 (Xm vars),.sl 6 (Xn hats),.sl 10 (X7 body),.sl 10 (X7 st),.mp (dpM dp)]))
section
variable (vars:List Vr) (hats:List Ht) (body st:List St) (dp:List Dp)
theorem X9O (a b k:Int):Z7 prog 124 none (pdO vars hats body st dp) [.one (.at_ 1000001 0),li a,li b,li k] (fun _:Unit=>True) (fun _=>.tup []) (fun _=>pdO vars hats body st (Wm dp ⟨a,b,k⟩)):=by
 refine XV Tryz.func124 rfl (by kernel_rfl) (NH rfl) pd_pin (fun v h=>by cases h) ?_;simp only[Tryz.f124];have hins:=Xbz dp ⟨a,b,k⟩;simp only[Dp.d3]at hins;simp only[pdO];refine(Xw ?_);refine RunsN.cutE 8 [] (by simp;rfl) trivial (le_refl _) ?_;refine RunsN.upd3 (l:=dp.map Dp.d3) (x:=(a,b,k)) rfl rfl rfl (by kernel_rfl) rfl rfl rfl rfl ?_;refine RunsN.doneE [] rfl trivial ?_;exact⟨.inl rfl,(),trivial,⟨⟨16,none⟩,[],[(900001,.row 70 10 (X7 st)),(900002,.mp (dpM (Wm dp ⟨a,b,k⟩))),(1000001,.box [.c (.sl 5 (Xm vars)),.c (.sl 6 (Xn hats)),.c (.sl 10 (X7 body)),.own 900001,.own 900002])]⟩,Xl (fun n=>n) [] rfl (by simp) (by simp[<-hins,ins,HS.put]) (by simp),⟨[],rfl,rfl⟩,fun n o h=>h⟩
theorem X5F (a b k:Int):Z7 prog 124 none (pdF vars hats body st dp) [.one (.at_ 1000001 0),li a,li b,li k] (fun _:Unit=>True) (fun _=>.tup []) (fun _=>pdF vars hats body st (Wm dp ⟨a,b,k⟩)):=by
 refine XV Tryz.func124 rfl (by kernel_rfl) (NH rfl) XaF (fun v h=>by cases h) ?_;simp only[Tryz.f124];have hins:=Xbz dp ⟨a,b,k⟩;simp only[Dp.d3]at hins;simp only[pdF];refine(Xw ?_);refine RunsN.cutE 8 [] (by simp;rfl) trivial (le_refl _) ?_;refine RunsN.upd3 (l:=dp.map Dp.d3) (x:=(a,b,k)) rfl rfl rfl (by kernel_rfl) rfl rfl rfl rfl ?_;refine RunsN.doneE [] rfl trivial ?_;exact⟨.inl rfl,(),trivial,⟨⟨16,none⟩,[],[(900002,.mp (dpM (Wm dp ⟨a,b,k⟩))),(1000001,.box [.c (.sl 5 (Xm vars)),.c (.sl 6 (Xn hats)),.c (.sl 10 (X7 body)),.c (.sl 10 (X7 st)),.own 900002])]⟩,Xl (fun n=>n) [] rfl (by simp) (by simp[<-hins,ins,HS.put]) (by simp),⟨[],rfl,rfl⟩,fun n o h=>h⟩
theorem X2D (v:Int) (hv:0<=v) (hv2:v<=1000000) (hs:st.length<=1000000) (d:Nat):Con prog 126 true [pdC vars hats body st dp,li v] (.v (li ((st.length:Int)+v))) none d:=by
 have hw:IntKind.i64.wrap ((st.length:Int)+v)=(st.length:Int)+v:=X9;refine X6 Tryz.func126 ?_;simp only[Tryz.f126];refine X1 ?_;refine X1 ?_;exact Xf
theorem X7U (e v:Int) (he:0<=e) (hv:0<=v) (hv2:v<=1000000) (hs:st.length<=1000000) (d:Nat):Con prog 127 true [pdC vars hats body st dp,li e,li v] (.v (lb (decide (Qr st e.toNat=v)))) none d:=by
 have cs:=X2D vars hats body st dp v hv hv2 hs;obtain⟨e,rfl⟩:∃n:Nat,e=n:=⟨e.toNat,by omega⟩;rw[Int.toNat_natCast];by_cases hl:st.length<=e
 .have hvo:decide (Qr st e=v)=decide ((e:Int)=(st.length:Int)+v):=by
   unfold Qr;rw[Nx hl,Dk,N6,N6];simp only;omega
  rw[hvo];refine X6 Tryz.func127 ?_;simp only[Tryz.f127];refine X1 ?_;refine X0<|X0<|X2 ?_;refine(Xc rfl (fun h2=>?_) fun h2=>?_)
  ·(try simp only[BN]at h2);refine Xk [⟨true,.v (li ((st.length:Int)+v)),none⟩] ?_ ?_
   .first|exact cs _|exact trivial|simpa[*]using cs _
   exact Xf
  exfalso;simp at h2<;>omega
 obtain⟨s,he,_⟩:=Xu (show e<st.length by omega);have he':=Q2 he;have hvo:Qr st e=s.var:=by unfold Qr;rw[he]
 rw[hvo];obtain⟨so,sc,sv,sn,⟨tq,tn,tk⟩,sa,sb,sbs⟩:=s;simp only[St.enc,Tm.enc,List.cons_append,List.nil_append]at he';simp only[St.var];have hl2:e+1<=st.length:=by omega
 clear he hvo hl;refine X6 Tryz.func127 ?_;simp only[Tryz.f127];refine X1 ?_;refine X0<|X0<|X2 ?_;refine(Xc rfl (fun h2=>?_) fun h2=>?_)
 .exfalso;simp at h2<;>omega
 (try simp only[BN]at h2);refine X1 ?_;exact Xf
end
mutual
def meV:Tm->List Int
 | .mk o n ks=>if o=24 then [n] else X3x ks
def X3x:List Tm->List Int
 |[]=>[]
 |t::l=>meV t++X3x l
end
mutual
theorem meV_len:∀t:Tm,(meV t).length<=t.nodes
 | .mk o n ks=>by
   have:=X5B ks;simp only[meV,Tm.nodes];split<;>simp<;>omega
theorem X5B:∀l:List Tm,(X3x l).length<=Qn l
 |[]=>by simp[X3x]
 |t::l=>by have:=meV_len t;have:=X5B l;simp only[X3x,N9,Qn];omega
end
mutual
theorem X7t {vars:List Vr} {inp:Bool}:∀t:Tm,QT vars inp t=true->meV t=tmV t
 | .mk o n ks,h=>by
   simp only[QT,N4]at h;have ih:=X8i ks h.2;simp only[meV,tmV];by_cases h24:o=24
   .subst h24;have h1:=h.1;unfold Qi at h1;simp only[N4,Nw,Nj]at h1
    have hk:ks=[]:=by
     have:=h1.1.2.2;have e:(Qp 24).2=0:=by decide
     rw[e]at this;exact Nv (by omega)
    subst hk;simp[ZV]
   simp only[N7 h24,List.nil_append];exact ih
theorem X8i {vars:List Vr} {inp:Bool}:∀l:List Tm,WC vars inp l=true->X3x l=ZV l
 |[],_=>by simp[X3x,ZV]
 | t::l,h=>by
   simp only[WC,N4]at h;simp only[X3x,ZV,X7t t h.1,X8i l h.2]
end
set_option maxHeartbeats 8000000 in
theorem X8x (t:Tm):t.nodes<=1000000->∀d,Con prog 125 false [aT t] (.v (lI (meV t))) none d:=by
 induction t using Tm.ind with
 |h o n ks ih=>
 intro hn d;simp only[Tm.nodes]at hn;have hlen:=Wh ks;have hvl:=X5B ks;obtain⟨res,hres⟩:∃r,meV (.mk o n ks)=r:=⟨_,rfl⟩;rw[hres];by_cases h24:o=24
 .simp only[meV,Na h24]at hres;subst hres;subst h24;refine X6 Tryz.func125 ?_;simp only[Tryz.f125];simp only[aT,Tm.enc,Ni,Nr];refine X1 ?_;refine X0<|X0<|X2 ?_;refine(Xc rfl (fun h2=>?_) fun h2=>?_)
  ·(try simp only[BN]at h2);refine X1 ?_;refine XB (Qs 11 rfl) ?_;exact Xf
  exact absurd h2 (by simp)
 simp only[meV,N7 h24]at hres;refine X6 Tryz.func125 ?_;simp only[Tryz.f125];simp only[aT,Tm.enc,Ni,Nr];refine X1 ?_;refine X0<|X0<|X2 ?_;refine(Xc rfl (fun h2=>?_) fun h2=>?_)
 .exfalso;simp at h2<;>exact h24 h2
 (try simp only[BN]at h2);refine X1 ?_;refine X0<|X0<|X2 ?_;refine X3<|(Xd [13,14] (fun(y:Nat×List Int)=>[(3,.v (.one (.own 1003))),(15,.v (li y.1))]) (fun y=>[(1003,.row 3 1 (Xi y.2))]) (fun y=>y.1<=ks.length/\y.2++X3x (ks.drop y.1)=res/\y.2.length+(X3x (ks.drop y.1)).length<=(X3x ks).length) (fun y=>ks.length - y.1) (0,[]) ⟨Nq _,by simpa using hres,by simp⟩ ?_ ?_)
 .exact X4 (fun n=>n) [1003]
 rintro⟨k,acc⟩ ⟨hk,hJ,hal⟩;simp only[upS,X5,Xy]
 try simp only[X5,KN,Nat.reduceBEq,Nf,Nc,ins,Nat.reduceLT]
 simp only at hk hJ hal;clear hres;refine X1 ?_;refine X0<|(X8 rfl (fun h9=>Xb ?_) (fun h9=>?_))
 ·(try simp only[BN]at h9);have hlt:k<ks.length:=by first|omega|simpa using h9
  obtain⟨t,he,hd⟩:=Xu hlt;have hw1:=XE hlt (by omega);have hk1:k+1<=ks.length:=hlt;have hmem:t∈ks:=N3 he;have hnm:=ZD hmem;rw[hd]at hJ hal;simp only[X3x,N9]at hJ hal;have he':=Wx he;have ct:=ih t hmem (by omega);obtain⟨tq,tn,tk⟩:=t;obtain⟨A,hA⟩:∃x,meV (Tm.mk tq tn tk)=x:=⟨_,rfl⟩;rw[hA]at ct hJ hal;simp only[Tm.enc]at he';simp only[aT,Tm.enc,Ni,Nr]at ct;have room1:W4 (acc.length+A.length) 8:=XX (by omega) (by decide);have hJ2:(acc++A)++X3x (ks.drop (k+1))=res:=by rw[<-hJ];simp
  clear hlt h9 ih hmem hd he hA hnm hJ;refine X0<|X3<|X0<|X2 ?_;refine(Xo [⟨false,.v (lI A),none⟩] ?_ ?_)
  .first|exact ct _|exact trivial|simpa[*]using ct _
  refine X2 ?_;exact⟨(k+1,acc++A),⟨hk1,hJ2,by simp only[N9];omega⟩,by simp only;omega,X4 (fun n=>if n=1003 then 22 else n) []⟩
 try simp only[BN]at h9
 have hkl:k=ks.length:=by
  have:¬k<ks.length:=by simpa using h9
  omega
 subst hkl;simp only[Nt,X3x,Dq]at hJ;subst hJ;clear h9;refine(Xg ?_);refine XB (Qs 1003 rfl) ?_;refine X1 ?_;exact Xf
def ms101:List (Nat×List Nat):=[(8191,[0,4,6]),(8190,[1,4,6]),(8175,[0,6]),(8127,[0,4]),(8188,[2,4,6]),(8174,[1,6]),(8126,[1,4]),(8111,[0]),(8184,[3,4,6]),(8172,[2,6]),(8124,[2,4]),(8110,[1]),(8176,[4,5,6]),(8168,[3,6]),(8120,[3,4]),(8108,[2]),(8160,[5,6]),(8144,[4,6]),(8112,[4,5]),(8104,[3]),(8128,[6]),(8096,[5]),(8080,[4]),(8064,[7]),(7936,[8,10]),(7680,[9,10]),(6912,[8,11]),(7168,[10]),(6656,[9,11]),(4864,[8,12]),(6144,[11]),(4608,[9,12]),(768,[8]),(4096,[12]),(512,[9])]
def X98 (regs:List (Nat×RV)) (o0 o6 o7 o9 oA oB:List (Nat×Ob)) (outs:List (Nat×Nat×RV)) (R:List Nat):HS:=
 {trS ⟨⟨55,none⟩,regs,[]⟩ outs R with objs:=if R.contains 6 then o0 else if R.contains 7 then o6 else if R.contains 9 then(if R.contains 12 then o7 else oA)else if R.contains 12 then o9 else oB}
theorem Xd2 (c:Int) (p:Nat) (l dp:List Dp):XS (ctE c p++l) dp=XS l (if 0<=c then Wm dp ⟨c,p,1⟩ else dp):=by
 unfold ctE;split
 .rfl
 rfl
set_option maxHeartbeats 32000000 in
theorem Xcd (vars:List Vr) (hats:List Ht) (body:List St) (l:List St):∀(outer:Int) (st:List St) (dp:List Dp),st.length+szL l<=1000000->
  Z7 prog 65 none (pdO vars hats body st dp) [.one (.at_ 1000001 0),lS l,li outer] (fun _:Unit=>True) (fun _=>.tup []) (fun _=>pdO vars hats body (st++flL l) (XS (ctL l outer st.length) dp)):=by
 revert l
 apply St.lists;intro l ih outer st0 dp0 hn0;have hlen:=X2Y l;have hll:l.length<=1000000:=by omega
 obtain⟨R1,hR1⟩:∃x,st0++flL l=x:=⟨_,rfl⟩;obtain⟨R2,hR2⟩:∃x,XS (ctL l outer st0.length) dp0=x:=⟨_,rfl⟩;rw[hR1,hR2];refine XV Tryz.func65 rfl (by kernel_rfl) (NH rfl) pd_pin (fun v h=>by cases h) ?_;simp only[Tryz.f65];refine X1 ?_;refine X3<|(Xd [0,2,9,10] (fun(y:Nat×List St×List Dp)=>[(11,.v (li y.1))]) (fun y=>pdO vars hats body y.2.1 y.2.2) (fun y=>y.1<=l.length/\y.2.1++flL (l.drop y.1)=R1/\XS (ctL (l.drop y.1) outer y.2.1.length) y.2.2=R2/\y.2.1.length+szL (l.drop y.1)<=1000000) (fun y=>l.length - y.1) (0,st0,dp0) ⟨Nq _,by simpa using hR1,by simpa using hR2,by simpa using hn0⟩ ?_ ?_)
 .exact Xl (fun n=>n) [] rfl (by simp[pdO, *,upS,X5,QQ]) (by simp[pdO, *,upS]) (by simp[pdO,upS])
 rintro⟨k,st,dp⟩ ⟨hk,h1,h2,hsz⟩;simp only[upS,X5,Xy]
 try simp only[X5,KN,Nat.reduceBEq,Nf,Nc,ins,Nat.reduceLT]
 simp only at hk h1 h2 hsz;clear hR1 hR2 hn0;simp only[pdO];refine X1 ?_;refine X0<|(X8 rfl (fun h3=>Xb ?_) (fun h3=>?_))
 ·(try simp only[BN]at h3);have hlt:k<l.length:=by first|omega|simpa using h3
  obtain⟨s,he,hd⟩:=Xu hlt;have hw1:=XE hlt (by omega);have hk1:k+1<=l.length:=hlt;have hmem:s∈l:=N3 he;rw[hd]at h1 h2 hsz;simp only[flL,Xac]at h1;simp only[szL]at hsz;have he':=Q2 he;have iha:=(ih s hmem).1;have ihb:=(ih s hmem).2;obtain⟨so,sc,sv,sn,⟨tq,tn,tk⟩,sa,sb,sbs⟩:=s;simp only[ctL]at h2;simp only[St.then_,St.else_]at iha ihb h1;simp only[szS]at hsz;have fa:=Q6 sa;have fb:=Q6 sb;obtain⟨d1,hd1⟩:∃x,(if 0<=outer then Wm dp ⟨outer,st.length,1⟩ else dp)=x:=⟨_,rfl⟩;obtain⟨d2,hd2⟩:∃x,(if so=4 then Wm d1 ⟨st.length,st.length,1⟩ else d1)=x:=⟨_,rfl⟩;rw[Xd2,hd1,X00]at h2
  have h2':XS (ctL sa (st.length:Int) (st.length+1)++(ctL sb (st.length:Int) (st.length+1+szL sa)++ctL (l.drop (k+1)) outer (st.length+(1+szL sa+szL sb)))) d2=R2:=by
   rw[<-h2,<-hd2];split<;>rfl
  rw[X00,X00]at h2';have iha:=iha (st.length:Int) (st++[St.mk so sc sv sn (Tm.mk tq tn tk) sa sb sbs]) d2 (by simp;omega);have ihb:=ihb (st.length:Int) ((st++[St.mk so sc sv sn (Tm.mk tq tn tk) sa sb sbs])++flL sa) (XS (ctL sa (st.length:Int) (st.length+1)) d2) (by simp[fa];omega);simp only[N9,List.length_singleton,fa]at iha ihb;have hE1:(st++[St.mk so sc sv sn (Tm.mk tq tn tk) sa sb sbs])++flL sa++flL sb++flL (l.drop (k+1))=R1:=by rw[<-h1];simp
  have r1:W4 (st.length+1) 144:=XX (by omega) (by decide)
  have hset:∀z:List CD,(X7 st++[z]).set st.length [iC so,iC sc,iC sv,iC sn,iC tq,iC tn,.sl 3 (XA tk),.sl 10 (X7 sa),.sl 10 (X7 sb),.sl 1 (Xi sbs)]=X7 st++[[iC so,iC sc,iC sv,iC sn,iC tq,iC tn,.sl 3 (XA tk),.sl 10 (X7 sa),.sl 10 (X7 sb),.sl 1 (Xi sbs)]]:=by
   intro z;rw[List.set_append,N7 (by simp)];simp
  have hsn:X7 (st++[St.mk so sc sv sn (Tm.mk tq tn tk) sa sb sbs])=X7 st++[[iC so,iC sc,iC sv,iC sn,iC tq,iC tn,.sl 3 (XA tk),.sl 10 (X7 sa),.sl 10 (X7 sb),.sl 1 (Xi sbs)]]:=by
   rw[QD];rfl
  simp only[St.enc,Tm.enc,List.cons_append,List.nil_append]at he';have ca:=X9O vars hats body (st++[St.mk so sc sv sn (Tm.mk tq tn tk) sa sb sbs]) dp outer st.length 1;have cl:=X9O vars hats body (st++[St.mk so sc sv sn (Tm.mk tq tn tk) sa sb sbs]) d1 st.length st.length 1;simp only[pdO]at ca cl iha ihb;obtain⟨S2,hS2⟩:∃x,(st++[St.mk so sc sv sn (Tm.mk tq tn tk) sa sb sbs])=x:=⟨_,rfl⟩;rw[hS2]at iha ihb hE1 hsn ca cl;clear hlt h3 ih hmem he hd h1 h2;refine X0<|X3<|X0<|X2 ?_;refine X1 ?_;refine XB (s':=⟨⟨55,none⟩,[(0,.v (.one (.at_ 1000001 0))),(2,.v (li outer)),(7,.v (.one (.at_ 7 0))),(8,.v (li st.length)),(9,.v (lS l)),(10,.v (li l.length)),(11,.v (li k))],[(7,.box [.c (iC so),.c (iC sc),.c (iC sv),.c (iC sn),.c (iC tq),.c (iC tn),.c (.sl 3 (XA tk)),.c (.sl 10 (X7 sa)),.c (.sl 10 (X7 sb)),.c (.sl 1 (Xi sbs))]),(900001,.row 70 10 (X7 st)),(900002,.mp (dpM dp)),(1000001,.box [.c (.sl 5 (Xm vars)),.c (.sl 6 (Xn hats)),.c (.sl 10 (X7 body)),.own 900001,.own 900002])]⟩) (Xl (fun n=>n) [] rfl (by simp[*]) (by simp[*]) (by simp)) ?_;refine X0<|(WQ (X98 [(0,.v (.one (.at_ 1000001 0))),(2,.v (li outer)),(7,.v (.one (.at_ 7 0))),(8,.v (li st.length)),(9,.v (lS l)),(10,.v (li l.length)),(11,.v (li k))] [(7,.box [.c (iC so),.c (iC sc),.c (iC sv),.c (iC sn),.c (iC tq),.c (iC tn),.c (.sl 3 (XA tk)),.c (.sl 10 (X7 sa)),.c (.sl 10 (X7 sb)),.c (.sl 1 (Xi sbs))]),(900001,.row 70 10 (X7 st)),(900002,.mp (dpM dp)),(1000001,.box [.c (.sl 5 (Xm vars)),.c (.sl 6 (Xn hats)),.c (.sl 10 (X7 body)),.own 900001,.own 900002])] [(7,.box [.c (iC so),.c (iC sc),.c (iC sv),.c (iC sn),.c (iC tq),.c (iC tn),.c (.sl 3 (XA tk)),.c (.sl 10 (X7 sa)),.c (.sl 10 (X7 sb)),.c (.sl 1 (Xi sbs))]),(26,.row 70 10 ([[iC 0,iC 0,iC 0,iC 0,iC 0,iC 0,.lit XY,.lit XY,.lit XY,.lit XY]])),(900001,.row 70 10 (X7 st)),(900002,.mp (dpM dp)),(1000001,.box [.c (.sl 5 (Xm vars)),.c (.sl 6 (Xn hats)),.c (.sl 10 (X7 body)),.own 900001,.own 900002])] [(7,.box [.c (iC so),.c (iC sc),.c (iC sv),.c (iC sn),.c (iC tq),.c (iC tn),.c (.sl 3 (XA tk)),.c (.sl 10 (X7 sa)),.c (.sl 10 (X7 sb)),.c (.sl 1 (Xi sbs))]),(26,.row 70 10 ([[iC 0,iC 0,iC 0,iC 0,iC 0,iC 0,.lit XY,.lit XY,.lit XY,.lit XY]])),(27,.row 70 10 (X7 st++[[iC 0,iC 0,iC 0,iC 0,iC 0,iC 0,.lit XY,.lit XY,.lit XY,.lit XY]])),(900002,.mp (dpM dp)),(1000001,.box [.c (.sl 5 (Xm vars)),.c (.sl 6 (Xn hats)),.c (.sl 10 (X7 body)),.own 900001,.own 900002])] [(7,.box [.c (iC so),.c (iC sc),.c (iC sv),.c (iC sn),.c (iC tq),.c (iC tn),.c (.sl 3 (XA tk)),.c (.sl 10 (X7 sa)),.c (.sl 10 (X7 sb)),.c (.sl 1 (Xi sbs))]),(26,.row 70 10 ([[iC 0,iC 0,iC 0,iC 0,iC 0,iC 0,.lit XY,.lit XY,.lit XY,.lit XY]])),(27,.row 70 10 (X7 st++[[iC so,iC sc,iC sv,iC sn,iC tq,iC tn,.sl 3 (XA tk),.sl 10 (X7 sa),.sl 10 (X7 sb),.sl 1 (Xi sbs)]])),(900002,.mp (dpM dp)),(1000001,.box [.c (.sl 5 (Xm vars)),.c (.sl 6 (Xn hats)),.c (.sl 10 (X7 body)),.own 900001,.own 900002])] [(7,.box [.c (iC so),.c (iC sc),.c (iC sv),.c (iC sn),.c (iC tq),.c (iC tn),.c (.sl 3 (XA tk)),.c (.sl 10 (X7 sa)),.c (.sl 10 (X7 sb)),.c (.sl 1 (Xi sbs))]),(26,.row 70 10 ([[iC 0,iC 0,iC 0,iC 0,iC 0,iC 0,.lit XY,.lit XY,.lit XY,.lit XY]])),(27,.row 70 10 (X7 st++[[iC 0,iC 0,iC 0,iC 0,iC 0,iC 0,.lit XY,.lit XY,.lit XY,.lit XY]])),(900002,.mp (dpM dp)),(1000001,.box [.c (.sl 5 (Xm vars)),.c (.sl 6 (Xn hats)),.c (.sl 10 (X7 body)),.own 27,.own 900002])] [(7,.box [.c (iC so),.c (iC sc),.c (iC sv),.c (iC sn),.c (iC tq),.c (iC tn),.c (.sl 3 (XA tk)),.c (.sl 10 (X7 sa)),.c (.sl 10 (X7 sb)),.c (.sl 1 (Xi sbs))]),(26,.row 70 10 ([[iC 0,iC 0,iC 0,iC 0,iC 0,iC 0,.lit XY,.lit XY,.lit XY,.lit XY]])),(27,.row 70 10 (X7 st++[[iC so,iC sc,iC sv,iC sn,iC tq,iC tn,.sl 3 (XA tk),.sl 10 (X7 sa),.sl 10 (X7 sb),.sl 1 (Xi sbs)]])),(900002,.mp (dpM dp)),(1000001,.box [.c (.sl 5 (Xm vars)),.c (.sl 6 (Xn hats)),.c (.sl 10 (X7 body)),.own 27,.own 900002])] [(0,20,.v (.one (.at_ 1000001 0))),(1,21,.v (.one (.at_ 1000001 0))),(2,22,.v (.one (.at_ 1000001 3))),(3,23,.v (.one (.own 900001))),(4,24,.v (.agg [.c (iC so),.c (iC sc),.c (iC sv),.c (iC sn),.c (iC tq),.c (iC tn),.c (.sl 3 (XA tk)),.c (.sl 10 (X7 sa)),.c (.sl 10 (X7 sb)),.c (.sl 1 (Xi sbs))])),(5,25,.v (li st.length)),(6,26,.v (.one (.own 26))),(7,27,.v (.one (.own 27))),(8,28,.v (.one (.el 27 10 st.length 0))),(10,29,.v (.one (.at_ 1000001 0))),(11,30,.v (.one (.at_ 1000001 3)))]) 13 8191 ms101 rfl (by kernel_rfl) (by kernel_rfl) (by kernel_rfl) (by kernel_rfl) (by simp[X98,trS]) ?_ ?_)
  .simp only[ms101,X1C]
   repeat' apply And.intro
   all_goals(refine Q4.evE rfl ?_;simp[X98,trS,ins,WR,XO,QE,Q3,cellsOf,W2,WV,X0e,WU,Wq,Zj,lkp,del,r1,hset];done)
  refine XB (s':=⟨⟨55,none⟩,[(0,.v (.one (.at_ 1000001 0))),(2,.v (li outer)),(7,.v (.one (.at_ 7 0))),(8,.v (li st.length)),(9,.v (lS l)),(10,.v (li l.length)),(11,.v (li k))],[(7,.box [.c (iC so),.c (iC sc),.c (iC sv),.c (iC sn),.c (iC tq),.c (iC tn),.c (.sl 3 (XA tk)),.c (.sl 10 (X7 sa)),.c (.sl 10 (X7 sb)),.c (.sl 1 (Xi sbs))]),(900001,.row 70 10 (X7 S2)),(900002,.mp (dpM (dp))),(1000001,.box [.c (.sl 5 (Xm vars)),.c (.sl 6 (Xn hats)),.c (.sl 10 (X7 body)),.own 900001,.own 900002])]⟩) (Xl (fun n=>if n=900001 then 27 else n) [] rfl (by simp[X98,trS,ins]) (by simp[X98,trS,ins,hsn]) (by simp)) ?_;clear hsn hset;refine(XM [0,2,7,8,9,10,11] (fun(z:Unit)=>[]) (fun(z:Unit)=>[(7,.box [.c (iC so),.c (iC sc),.c (iC sv),.c (iC sn),.c (iC tq),.c (iC tn),.c (.sl 3 (XA tk)),.c (.sl 10 (X7 sa)),.c (.sl 10 (X7 sb)),.c (.sl 1 (Xi sbs))]),(900001,.row 70 10 (X7 S2)),(900002,.mp (dpM (d1))),(1000001,.box [.c (.sl 5 (Xm vars)),.c (.sl 6 (Xn hats)),.c (.sl 10 (X7 body)),.own 900001,.own 900002])]) (fun(z:Unit)=>True) ?_ ?_)
  ·
   refine X1 ?_;refine(Xc rfl (fun h9=>?_) fun h9=>?_)
   ·(try simp only[BN]at h9);have ho:0<=outer:=by simpa using h9
    rw[Na ho]at hd1;refine(Xw ?_);refine RunsN.cutE 3 [] (by simp;rfl) trivial (le_refl _) ?_;refine RunsN.callA (fun n=>n) (fun n=>if n=900001 then 900011 else if n=900002 then 900012 else n) ca fun _ _=>?_;refine RunsN.doneE [] rfl trivial ?_;rw[hd1];exact⟨(),trivial,Xl (fun n=>if n=900001 then 900011 else if n=900002 then 900012 else n) [] rfl (by simp[upS,X5,XJ,XU,del,ins,CV.ren,Ob.ren]) (by simp[upS,XJ,XU,del,ins,CV.ren,Ob.ren]) (by simp[upS])⟩
   (try simp only[BN]at h9);have ho:¬0<=outer:=by simpa using h9
   rw[N7 ho]at hd1;subst hd1;exact⟨(),trivial,X4 (fun n=>n) []⟩
  rintro⟨⟩ hz;simp only[upS,X5,Xy]
  try simp only[X5,KN,Nat.reduceBEq,Nf,Nc,ins,Nat.reduceLT]
  refine(XM [0,2,7,8,9,10,11] (fun(z:Unit)=>[]) (fun(z:Unit)=>[(7,.box [.c (iC so),.c (iC sc),.c (iC sv),.c (iC sn),.c (iC tq),.c (iC tn),.c (.sl 3 (XA tk)),.c (.sl 10 (X7 sa)),.c (.sl 10 (X7 sb)),.c (.sl 1 (Xi sbs))]),(900001,.row 70 10 (X7 S2)),(900002,.mp (dpM (d2))),(1000001,.box [.c (.sl 5 (Xm vars)),.c (.sl 6 (Xn hats)),.c (.sl 10 (X7 body)),.own 900001,.own 900002])]) (fun(z:Unit)=>True) ?_ ?_)
  ·
   refine X1 ?_;refine(Xc rfl (fun h15=>?_) fun h15=>?_)
   ·(try simp only[BN]at h15);have ho4:so=4:=by simpa using h15
    rw[Na ho4]at hd2;refine(Xw ?_);refine RunsN.cutE 3 [] (by simp;rfl) trivial (le_refl _) ?_;refine RunsN.callA (fun n=>n) (fun n=>if n=900001 then 900011 else if n=900002 then 900012 else n) cl fun _ _=>?_;refine RunsN.doneE [] rfl trivial ?_;rw[hd2];exact⟨(),trivial,Xl (fun n=>if n=900001 then 900011 else if n=900002 then 900012 else n) [] rfl (by simp[upS,X5,XJ,XU,del,ins,CV.ren,Ob.ren]) (by simp[upS,XJ,XU,del,ins,CV.ren,Ob.ren]) (by simp[upS])⟩
   (try simp only[BN]at h15);have ho4:¬so=4:=by simpa using h15
   rw[N7 ho4]at hd2;subst hd2;exact⟨(),trivial,X4 (fun n=>n) []⟩
  rintro⟨⟩ hz;simp only[upS,X5,Xy]
  try simp only[X5,KN,Nat.reduceBEq,Nf,Nc,ins,Nat.reduceLT]
  obtain⟨S3,hS3⟩:∃x,S2++flL sa=x:=⟨_,rfl⟩;obtain⟨D3,hD3⟩:∃x,XS (ctL sa (st.length:Int) (st.length+1)) d2=x:=⟨_,rfl⟩;rw[hS3,hD3]at iha ihb;obtain⟨S4,hS4⟩:∃x,S3++flL sb=x:=⟨_,rfl⟩;obtain⟨D4,hD4⟩:∃x,XS (ctL sb (st.length:Int) (st.length+1+szL sa)) D3=x:=⟨_,rfl⟩;rw[hS4,hD4]at ihb;have hl4:S4.length=st.length+(1+szL sa+szL sb):=by rw[<-hS4,<-hS3,<-hS2];simp[fa,fb];omega
  rw[hS3,hS4]at hE1;rw[hD3,hD4,<-hl4]at h2';clear ca cl hd1 hd2 hS2 hS3 hS4 hD3 hD4;refine X0<|(Xw ?_);refine RunsN.cutE 4 [] (by simp;rfl) trivial (le_refl _) ?_;refine RunsN.callA (fun n=>n) (fun n=>if n=900001 then 900011 else if n=900002 then 900012 else n) iha fun _ _=>?_;refine RunsN.doneE [] rfl trivial ?_;refine XB (s':=⟨⟨55,none⟩,[(0,.v (.one (.at_ 1000001 0))),(2,.v (li outer)),(7,.v (.one (.at_ 7 0))),(8,.v (li st.length)),(9,.v (lS l)),(10,.v (li l.length)),(11,.v (li k))],[(7,.box [.c (iC so),.c (iC sc),.c (iC sv),.c (iC sn),.c (iC tq),.c (iC tn),.c (.sl 3 (XA tk)),.c (.sl 10 (X7 sa)),.c (.sl 10 (X7 sb)),.c (.sl 1 (Xi sbs))]),(900001,.row 70 10 (X7 S3)),(900002,.mp (dpM (D3))),(1000001,.box [.c (.sl 5 (Xm vars)),.c (.sl 6 (Xn hats)),.c (.sl 10 (X7 body)),.own 900001,.own 900002])]⟩) (Xl (fun n=>if n=900001 then 900011 else if n=900002 then 900012 else n) [] rfl (by simp[XJ,XU,del,ins,CV.ren,Ob.ren]) (by simp[XJ,XU,del,ins,CV.ren,Ob.ren]) (by simp)) ?_;refine(Xw ?_);refine RunsN.cutE 4 [] (by simp;rfl) trivial (le_refl _) ?_;refine RunsN.callA (fun n=>n) (fun n=>if n=900001 then 900011 else if n=900002 then 900012 else n) ihb fun _ _=>?_;refine RunsN.doneE [] rfl trivial ?_;refine XB (s':=⟨⟨55,none⟩,[(0,.v (.one (.at_ 1000001 0))),(2,.v (li outer)),(7,.v (.one (.at_ 7 0))),(8,.v (li st.length)),(9,.v (lS l)),(10,.v (li l.length)),(11,.v (li k))],[(7,.box [.c (iC so),.c (iC sc),.c (iC sv),.c (iC sn),.c (iC tq),.c (iC tn),.c (.sl 3 (XA tk)),.c (.sl 10 (X7 sa)),.c (.sl 10 (X7 sb)),.c (.sl 1 (Xi sbs))]),(900001,.row 70 10 (X7 S4)),(900002,.mp (dpM (D4))),(1000001,.box [.c (.sl 5 (Xm vars)),.c (.sl 6 (Xn hats)),.c (.sl 10 (X7 body)),.own 900001,.own 900002])]⟩) (Xl (fun n=>if n=900001 then 900011 else if n=900002 then 900012 else n) [] rfl (by simp[XJ,XU,del,ins,CV.ren,Ob.ren]) (by simp[XJ,XU,del,ins,CV.ren,Ob.ren]) (by simp)) ?_;refine X2 ?_;exact⟨(k+1,S4,D4),⟨hk1,hE1,h2',by simp only[hl4];omega⟩,by simp only;omega,X4 (fun n=>n) []⟩
 try simp only[BN]at h3
 have hkl:k=l.length:=by
  have:¬k<l.length:=by first|omega|simpa using h3
  omega
 subst hkl;simp only[Nt,flL,ctL,XS,Dq]at h1 h2;subst h1;subst h2;refine(Xg ?_);exact⟨.inl rfl,(),trivial,_,le_refl _,⟨[],rfl,rfl⟩,fun n o h=>h⟩
end Go.Proofs.YtdajceakaakdoaaGreat
