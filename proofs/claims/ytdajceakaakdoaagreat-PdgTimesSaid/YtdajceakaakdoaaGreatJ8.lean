/- Contracts of functions and plain facts about what they compute. Conditions: as each theorem states. -/
import Derived.Test.YtdajceakaakdoaaGreatJ6
import Derived.Test.YtdajceakaakdoaaGreatJ3
import Derived.Test.YtdajceakaakdoaaGreatJ5
set_option linter.unusedSimpArgs false
set_option linter.unusedVariables false
set_option linter.unnecessarySimpa false
set_option maxRecDepth 100000
set_option maxHeartbeats 2000000
namespace Go.Proofs.YtdajceakaakdoaaGreat
open Go Go.Hl
open Tryz(prog)
@[simp] theorem take_encH (l:List Ht) (i:Nat):(Xn l).take i=Xn (l.take i):=by simp[Xn]
theorem idxH_con (l:List Ht) (g:FuncId) (cap:List CD) (p:Ht->Bool) (hl:l.length<=1000000000) (hp:∀v∈l,∀d,Con prog g true (aH v::cap.map fun c=>.one (.c c)) (.v (lb (p v))) none d) (d:Nat):
  ∃r:Int,(∀d,Con prog 141 true [.one (.c (.sl 6 (Xn l))),.one (.c (.fn g cap))] (.v (li r)) none d)/\(0<=r↔l.any p=true):=by
 refine⟨(match l.findIdx? p with|some i=>(i:Int)|none=>-1),fun d=>?_,?_⟩
 .have hstep:∀k:Nat,(∀j:Nat,j<k->∀v,l[j]? =some v->p v=false)->∀v,l[k]? =some v->p v=true->l.findIdx? p=some k:=by
   intro k hno v hv hpv;rw[List.findIdx?_eq_some_iff_getElem];have hk:k<l.length:=(N6.1 hv).1;refine⟨hk,?_,fun j hj=>?_⟩
   .simp only[Nz hk,Option.some.injEq]at hv;rw[hv];exact hpv
   have:=hno j hj l[j] (by simp);simp[this]
  have hnone:(∀j:Nat,j<l.length->∀v,l[j]? =some v->p v=false)->l.findIdx? p=none:=by
   intro hno;rw[List.findIdx?_eq_none_iff];intro v hv;obtain⟨j,hj⟩:=NK.1 hv;exact hno j (N6.1 hj).1 v hj
  refine X5 Tryz.func141 ?_;simp only[Tryz.f141];refine X2 ?_;refine X0<|X0<|X1 ?_;refine X3<|(Xg [0,1,7] (fun(x:Nat)=>[(8,.v (li x))]) (fun x=>[]) (fun x=>x<=l.length/\∀j:Nat,j<x->∀v,l[j]? =some v->p v=false) (fun x=>l.length - x) (0:Nat) ⟨Nq _,fun j hj=>absurd hj (Dv j)⟩ ?_ ?_)
  .exact X4 (fun n=>n) []
  rintro k ⟨hk,hJ⟩;simp only[upS,X8,Xz]
  simp only[KN,Nat.reduceBEq,Nj,Nc,ins,Nat.reduceLT]
  refine X2 ?_;refine X0<|(X6 rfl (fun h4=>Xe ?_) (fun h4=>?_))
  ·simp only[BN]at h4;have hlt:k<l.length:=by omega
   obtain⟨⟨nm,lo,hi,⟨o,tn,ks⟩⟩,he,hd⟩:=Xt hlt;have hw1:=XD hlt (by omega);have hk1:k+1<=l.length:=hlt;have hpv:=hp _ (N4 he);have hs:=hstep k hJ _ he;clear hlt h4 hstep hnone hp;refine X0<|X3<|X0<|X1 ?_;refine Xh [⟨true,.v (lb (p ⟨nm,lo,hi,.mk o tn ks⟩)),none⟩] ?_ ?_
   .first|exact hpv _|exact trivial|simpa[*]using hpv _
   refine(Xb rfl (fun h7=>?_) fun h7=>?_)
   ·rw[hs h7];refine X2 ?_;exact Xc
   refine X1 ?_;exact⟨k+1,⟨hk1,fun j hj w hw=>(Nat.lt_succ_iff_lt_or_eq.1 hj).elim (fun h=>hJ j h w hw) (fun e=>by subst e;rw[he]at hw;cases hw;exact h7)⟩,by omega,X4 (fun n=>n) []⟩
  simp only[BN]at h4;rw[hnone fun j hj=>hJ j (by omega)];refine(Xi ?_);refine X2 ?_;exact Xc
 rw[List.any_eq];cases h:l.findIdx? p with
 | none=>
   rw[List.findIdx?_eq_none_iff]at h;simp only[N5];constructor
   .intro h;omega
   rintro⟨v,hv,hpv⟩;have:=h v hv;rw[hpv]at this;cases this
 | some i=>
   rw[List.findIdx?_eq_some_iff_getElem]at h;obtain⟨hi,hpi,_⟩:=h;simp only[N5];exact⟨fun _=>⟨l[i],DC _,hpi⟩,fun _=>by omega⟩
theorem conH_con (l:List Ht) (g:FuncId) (cap:List CD) (p:Ht->Bool) (hl:l.length<=1000000000) (hp:∀v∈l,∀d,Con prog g true (aH v::cap.map fun c=>.one (.c c)) (.v (lb (p v))) none d) (d:Nat):
  Con prog 184 true [.one (.c (.sl 6 (Xn l))),.one (.c (.fn g cap))] (.v (lb (l.any p))) none d:=by
 obtain⟨r,hr,hi⟩:=idxH_con l g cap p hl hp 0;have hd:decide (0<=r)=l.any p:=by rw[Dl,N5];exact hi
 clear hi hp;refine X5 Tryz.func184 ?_;simp only[Tryz.f184];refine X2 ?_;refine Xh [⟨true,.v (li r),none⟩] ?_ ?_
 .first|exact hr _|exact trivial|simpa[*]using hr _
 exact Xc
theorem Xdj (w v:Ht) (d:Nat):Con prog 183 true [aH w,.one (.c (.ptr v.enc))] (.v (lb (decide (w.name=v.name)))) none d:=by
 obtain⟨n1,l1,h1,⟨o1,t1,k1⟩⟩:=w;obtain⟨n2,l2,h2,⟨o2,t2,k2⟩⟩:=v;refine X5 Tryz.func183 ?_;simp only[Tryz.f183];simp only[aH,Ht.enc,Tm.enc,List.cons_append,List.nil_append];refine X2 ?_;refine X2 ?_;exact Xc
def X67 (vars:List Vr) (seen:List Ht) (h:Ht):Int:=
 if X06 h.name=false then 7 else if(seen.any fun w=>decide (w.name=h.name))=true then 8 else if QT h.low h.high=false then 3 else X15 vars true h.term
def hcs (vars:List Vr):List Ht->List Ht->Int
 |_,[]=>0
 |seen,h::l=>if X67 vars seen h=0 then hcs vars (seen++[h]) l else X67 vars seen h
theorem Xdw (f:Fl) (hv:X0s f.vars) (hl:f.vars.length<=1000000) (hh:f.hats.length<=1000000) (hn:∀h∈f.hats,h.term.nodes<=1000000000) (d:Nat):
  Con prog 116 true [aF f] (.v (li (hcs f.vars [] f.hats))) none d:=by
 obtain⟨vars,hats,body⟩:=f;simp only at hv hl hh hn⊢;obtain⟨res,hres⟩:∃r,hcs vars [] hats=r:=⟨_,rfl⟩;rw[hres];refine X5 Tryz.func116 ?_;simp only[Tryz.f116];simp only[aF,Fl.enc,Nk,Nr];refine X2 ?_;refine X0<|X0<|X1 ?_;refine X3<|(Xg [1,8,9] (fun(x:Nat)=>[(10,.v (li x))]) (fun x=>[(1,.box [.c (.sl 5 (Xk vars)),.c (.sl 6 (Xn hats)),.c (.sl 10 (X7 body))])]) (fun x=>x<=hats.length/\hcs vars (hats.take x) (hats.drop x)=res) (fun x=>hats.length - x) (0:Nat) ⟨Nq _,hres⟩ ?_ ?_)
 .exact X4 (fun n=>n) []
 rintro k ⟨hk,hJ⟩;simp only[upS,X8,Xz]
 simp only[KN,Nat.reduceBEq,Nj,Nc,ins,Nat.reduceLT]
 clear hres;refine X2 ?_;refine X0<|(X6 rfl (fun h4=>Xe ?_) (fun h4=>?_))
 ·simp only[BN]at h4;have hlt:k<hats.length:=by omega
  obtain⟨h,he,hd⟩:=Xt hlt;have hw1:=XD hlt (by omega);have hk1:k+1<=hats.length:=hlt;have hkl:(hats.take k).length<=1000000000:=by rw[NF];omega
  rw[hd]at hJ;simp only[hcs]at hJ;rw[<-ZP he]at hJ;have ct:=X7o vars true hv (by omega) h.term (hn h (N4 he));have cc:=conH_con (hats.take k) 183 [.ptr h.enc] (fun w=>decide (w.name=h.name)) hkl (fun w _ d=>Xdj w h d);obtain⟨nm,lo,hi,⟨o,tn,ks⟩⟩:=h;obtain⟨HC,hHC⟩:∃x,X67 vars (hats.take k) ⟨nm,lo,hi,.mk o tn ks⟩=x:=⟨_,rfl⟩;rw[hHC]at hJ;simp only[X67]at hHC;simp only[Ht.enc,Tm.enc,List.cons_append,List.nil_append]at cc;simp only at ct;obtain⟨TC,hTC⟩:∃r,X15 vars true (.mk o tn ks)=r:=⟨_,rfl⟩;rw[hTC]at ct hHC;clear hlt h4 hd hn hTC;refine X0<|X3<|X0<|X1 ?_;refine X2 ?_;refine X0<|X3<|X0<|(Xo [⟨true,.v (lb (X06 nm)),none⟩] ?_ ?_)
  .first|exact X2O _ _|exact trivial|simpa[*]using X2O _ _
  refine(X6 rfl (fun h8=>?_) (fun h8=>?_))
  ·simp only[BN]at h8;rw[N8 h8]at hHC;subst hHC;rw[N7 (by decide)]at hJ;subst hJ;refine X2 ?_;exact Xc
  simp only[BN]at h8;refine Xh [⟨true,.v (lb ((hats.take k).any fun w=>decide (w.name=nm))),none⟩] ?_ ?_
  .first|exact cc _|exact trivial|simpa[*]using cc _
  refine(X6 rfl (fun h12=>?_) (fun h12=>?_))
  ·rw[N7 (by simp[h8]),N8 h12]at hHC;subst hHC;rw[N7 (by decide)]at hJ;subst hJ;refine X2 ?_;exact Xc
  refine Xh [⟨true,.v (lb (QT lo hi)),none⟩] ?_ ?_
  .first|exact X09 _ _ _|exact trivial|simpa[*]using X09 _ _ _
  refine(Xb rfl (fun h16=>?_) fun h16=>?_)
  ·simp only[BN]at h16;rw[N7 (by simp[h8]),N7 (by simp[h12]),N8 h16]at hHC;subst hHC;rw[N7 (by decide)]at hJ;subst hJ;refine X2 ?_;exact Xc
  simp only[BN]at h16;rw[N7 (by simp[h8]),N7 (by simp[h12]),N7 (by simp[h16])]at hHC;subst hHC;refine Xh [⟨true,.v (li TC),none⟩] ?_ ?_
  .first|exact ct _|exact trivial|simpa[*]using ct _
  refine X2 ?_;refine(Xb rfl (fun h21=>?_) fun h21=>?_)
  ·simp only[BN]at h21;rw[N7 h21]at hJ;subst hJ;refine X2 ?_;exact Xc
  simp only[BN]at h21;rw[N8 (by simpa using h21)]at hJ;refine X1 ?_;exact⟨k+1,⟨hk1,hJ⟩,by omega,X4 (fun n=>n) []⟩
 simp only[BN]at h4;have hkl:k=hats.length:=by omega
 rw[hkl,Nw]at hJ;simp only[hcs]at hJ;subst hJ;refine(Xi ?_);refine X2 ?_;exact Xc
def stC (vars:List Vr) (nh:Nat) (d c v n:Int) (t:Tm) (la lc:Nat) (bs:List Int) (last:Bool):Int:=
 if shB vars nh d v n t la lc bs last=false then 1 else if X3o d c n bs=false then 3 else X15 vars false t
def ssC (vars:List Vr) (nh:Nat):List St->Bool->Int
 |[],_=>0
 | .mk d c v n t a b bs::l,top=>
   if stC vars nh d c v n t a.length b.length bs (top&&l.isEmpty)=0 then
    (if ssC vars nh a false=0 then(if ssC vars nh b false=0 then ssC vars nh l top else ssC vars nh b false)else ssC vars nh a false)
   else stC vars nh d c v n t a.length b.length bs (top&&l.isEmpty)
mutual
def X4v:St->Bool
 | .mk _ _ _ _ _ a b bs=>decide (bs.length<=1000000000)&&(Z9 a&&Z9 b)
def Z9:List St->Bool
 |[]=>true
 |s::l=>X4v s&&Z9 l
end
theorem X6D {l:List St} (h:Z9 l=true) {s:St} (hs:s∈l):X4v s=true:=by
 induction l with
 |nil=>cases hs
 | cons x l ih=>
   simp only[Z9,N3]at h;rcases Ng.1 hs with rfl|h1
   .exact h.1
   exact ih h.2 h1
theorem X7C {vars:List Vr} {nh:Nat} {d v n:Int} {t:Tm} {la lc:Nat} {bs:List Int} {last:Bool} (h:shB vars nh d v n t la lc bs last=true):(d=6->bs≠[])/\(d≠6->bs=[])/\(n<0->d=4):=by
 have hr:WY bs=true->1<=bs.length:=by
  intro h;unfold WY at h;simp only[N3,N5]at h;omega
 have hb:bs≠[]↔1<=bs.length:=by cases bs<;>simp
 have hb2:bs=[]↔bs.length=0:=by cases bs<;>simp
 rw[hb,hb2];unfold shB at h;generalize WY bs=R at*;generalize bs.length=nb at*
 (repeat' split at h)<;>(try simp only[N3,N5]at h)<;>(try have:=hr h.2)<;>(try cases h)<;>refine⟨fun h=>?_,fun h=>?_,fun h=>?_⟩<;>omega
theorem X81 {l:List St} {k:Nat} (h:k+1<=l.length):(l.drop (k+1)).isEmpty=decide ((k:Int)=(l.length:Int) - 1):=by
 rw[Dl,De,List.drop_eq_nil_iff,N5];omega
def fnz (vars:List Vr) (nh:Nat):List (List St)->Int
 |[]=>0
 |x::r=>if ssC vars nh x false=0 then fnz vars nh r else ssC vars nh x false
theorem Xb4 (f:Fl) (hv:X0s f.vars) (hl:f.vars.length<=1000000) (l:List St):Xl l<=1000000000->Z9 l=true->∀(top:Bool) (d:Nat),
  Con prog 117 true [aF f,lS l,lb top] (.v (li (ssC f.vars f.hats.length l top))) none d:=by
 revert l
 apply St.lists;intro l ih hn hbn top d;have hlen:=Qs l;obtain⟨res,hres⟩:∃r,ssC f.vars f.hats.length l top=r:=⟨_,rfl⟩;rw[hres];have csh:=fun s last hb=>X9z f s last (by omega) hb;obtain⟨vars,hats,body⟩:=f;simp only at hv hl hres ih csh;refine X5 Tryz.func117 ?_;simp only[Tryz.f117];simp only[aF,Fl.enc,Nk,Nr];refine X2 ?_;refine X0<|X0<|X1 ?_;refine X3<|(Xg [1,2,3,13,14] (fun(x:Nat)=>[(15,.v (li x))]) (fun x=>[(3,.box [.c (.sl 5 (Xk vars)),.c (.sl 6 (Xn hats)),.c (.sl 10 (X7 body))])]) (fun x=>x<=l.length/\ssC vars hats.length (l.drop x) top=res) (fun x=>l.length - x) (0:Nat) ⟨Nq _,hres⟩ ?_ ?_)
 .exact X4 (fun n=>n) []
 rintro k ⟨hk,hJ⟩;simp only[upS,X8,Xz]
 simp only[KN,Nat.reduceBEq,Nj,Nc,ins,Nat.reduceLT]
 clear hres;refine X2 ?_;refine X0<|(X6 rfl (fun h4=>Xe ?_) (fun h4=>?_))
 ·simp only[BN]at h4;have hlt:k<l.length:=by omega
  obtain⟨s,he,hd⟩:=Xt hlt;have hmem:s∈l:=N4 he;have hnm:=QJ hmem;have hbm:=X6D hbn hmem;have iha:=fun h h2=>(ih s hmem).1 h h2;have ihb:=fun h h2=>(ih s hmem).2 h h2;have hw1:=XD hlt (by omega);have hw2:IntKind.i64.wrap ((l.length:Int) - 1)=(l.length:Int) - 1:=Xa;have hk1:k+1<=l.length:=hlt;have hla:=X81 hk1;rw[hd]at hJ;have ct:=X7o vars false hv (by omega) s.term;have csh1:=csh s (top&&decide ((k:Int)=(l.length:Int) - 1));have cnu:=numP_con s;obtain⟨sd,sc,sv,sn,⟨so,stn,sks⟩,sa,sb,sbs⟩:=s;simp only[St.then_,St.else_,St.term,St.bounds,St.do_,St.var,St.n,St.cost]at iha ihb hnm ct csh1 cnu;simp only[X4v,N3,N5]at hbm;simp only[ssC,hla]at hJ;have ca:=iha (by omega) hbm.2.1;have cb:=ihb (by omega) hbm.2.2;have ct:=ct (by omega);have csh1:=csh1 hbm.1;have cnu:=cnu hbm.1;have he':=Q4 he;simp only[St.enc,Tm.enc,List.cons_append,List.nil_append]at he';simp only[aF,Fl.enc,aS,St.enc,Tm.enc,Nk,Nr,List.cons_append,List.nil_append]at csh1 ca cb cnu;have hshb:=@X7C vars hats.length sd sv sn (.mk so stn sks) sa.length sb.length sbs (top&&decide ((k:Int)=(l.length:Int) - 1));obtain⟨SH,hSH⟩:∃x,shB vars hats.length sd sv sn (.mk so stn sks) sa.length sb.length sbs (top&&decide ((k:Int)=(l.length:Int) - 1))=x:=⟨_,rfl⟩;obtain⟨NU,hNU⟩:∃x,X3o sd sc sn sbs=x:=⟨_,rfl⟩;obtain⟨TC,hTC⟩:∃x,X15 vars false (.mk so stn sks)=x:=⟨_,rfl⟩;obtain⟨SC,hSC⟩:∃x,stC vars hats.length sd sc sv sn (.mk so stn sks) sa.length sb.length sbs (top&&decide ((k:Int)=(l.length:Int) - 1))=x:=⟨_,rfl⟩;rw[hSC]at hJ;unfold stC at hSC;rw[hSH]at csh1 hshb hSC;rw[hNU]at cnu hSC;rw[hTC]at ct hSC
  have hlc2:∀x∈[sa,sb],∀d,Con prog 117 true [.agg [.c (.sl 5 (Xk vars)),.c (.sl 6 (Xn hats)),.c (.sl 10 (X7 body))],lS x,lb false] (.v (li (ssC vars hats.length x false))) none d:=by
   intro x hx;simp only[Ng,Dk,or_false]at hx;rcases hx with rfl|rfl
   .exact ca false
   exact cb false
  have hfn:(if ssC vars hats.length sa false=0 then(if ssC vars hats.length sb false=0 then ssC vars hats.length (l.drop (k+1)) top else ssC vars hats.length sb false)else ssC vars hats.length sa false)=(if fnz vars hats.length [sa,sb]=0 then ssC vars hats.length (l.drop (k+1)) top else fnz vars hats.length [sa,sb]):=by
   simp only[fnz];by_cases h1:ssC vars hats.length sa false=0<;>by_cases h2:ssC vars hats.length sb false=0<;>simp[h1,h2]
  rw[hfn]at hJ;obtain⟨LL,hLL⟩:∃x,x=[sa,sb]:=⟨_,rfl⟩;rw[<-hLL]at hJ hlc2;obtain⟨FN,hFN⟩:∃x,fnz vars hats.length LL=x:=⟨_,rfl⟩;rw[hFN]at hJ;have hrows:LL.map (fun x=>[CD.sl 10 (X7 x)])=[[.sl 10 (X7 sa)],[.sl 10 (X7 sb)]]:=by rw[hLL];rfl
  have hL2:LL.length=2:=by rw[hLL];rfl
  clear hlt h4 iha ihb ih hmem hnm hd he hbm hSH hNU hTC ca cb hfn hLL csh hla;refine X0<|X3<|X0<|X1 ?_;refine X0<|X0<|(Xo [⟨true,.v (lb SH),none⟩] ?_ ?_)
  .first|exact csh1 _|exact trivial|simpa[*]using csh1 _
  refine(Xb rfl (fun h7=>?_) fun h7=>?_)
  ·simp only[BN]at h7;rw[N8 h7]at hSC;subst hSC;rw[N7 (by decide)]at hJ;subst hJ;refine X2 ?_;exact Xc
  simp only[BN]at h7;rw[N7 (by simp[h7])]at hSC;have hsb:=hshb h7;have cnu2:=cnu hsb.1 hsb.2.1;clear cnu hshb csh1;refine X0<|X0<|(Xo [⟨true,.v (lb NU),none⟩] ?_ ?_)
  .first|exact cnu2 _|exact trivial|simpa[*]using cnu2 _
  refine(Xb rfl (fun h11=>?_) fun h11=>?_)
  ·simp only[BN]at h11;rw[N8 h11]at hSC;subst hSC;rw[N7 (by decide)]at hJ;subst hJ;refine X2 ?_;exact Xc
  simp only[BN]at h11;rw[N7 (by simp[h11])]at hSC;subst hSC;clear cnu2 hsb;refine X0<|X0<|(Xo [⟨true,.v (li TC),none⟩] ?_ ?_)
  .first|exact ct _|exact trivial|simpa[*]using ct _
  refine X2 ?_;refine(Xb rfl (fun h16=>?_) fun h16=>?_)
  ·simp only[BN]at h16;rw[N7 h16]at hJ;subst hJ;refine X2 ?_;exact Xc
  simp only[BN]at h16;rw[N8 (by simpa using h16)]at hJ;clear ct;refine X2 ?_;refine X3<|(Xg [1,2,3,13,14,15,47,48] (fun(x:Nat)=>[(49,.v (li x))]) (fun x=>[(3,.box [.c (.sl 5 (Xk vars)),.c (.sl 6 (Xn hats)),.c (.sl 10 (X7 body))]),(47,.row 24 1 (LL.map fun x=>[CD.sl 10 (X7 x)]))]) (fun x=>x<=2/\fnz vars hats.length (LL.drop x)=FN) (fun x=>2 - x) (0:Nat) ⟨Nq _,hFN⟩ ?_ ?_)
  .exact X4 (fun n=>n) []
  rintro q ⟨hq,hJ2⟩;simp only[upS,X8,Xz]
  simp only[KN,Nat.reduceBEq,Nj,Nc,ins,Nat.reduceLT]
  clear hFN hrows;refine X2 ?_;refine X0<|(X6 rfl (fun h22=>Xe ?_) (fun h22=>?_))
  ·simp only[BN]at h22;have hlt2:q<LL.length:=by omega
   obtain⟨y,hy,hdy⟩:=Xt hlt2;have hwq:=XD hlt2 (by omega);have hq1:q+1<=2:=by omega
   have cy:=hlc2 y (N4 hy);rw[hdy]at hJ2;simp only[fnz]at hJ2;generalize ssC vars hats.length y false=SY at*;clear hlt2 h22 hdy hlc2;refine X0<|X3<|X0<|X1 ?_;refine Xh [⟨true,.v (li SY),none⟩] ?_ ?_
   .first|exact cy _|exact trivial|simpa[*]using cy _
   refine X2 ?_;refine(Xb rfl (fun h26=>?_) fun h26=>?_)
   ·simp only[BN]at h26;rw[N7 h26]at hJ2;subst hJ2;rw[N7 h26]at hJ;subst hJ;refine X2 ?_;exact Xc
   simp only[BN]at h26;rw[N8 (by simpa using h26)]at hJ2;refine X1 ?_;exact⟨q+1,⟨hq1,hJ2⟩,by omega,X4 (fun n=>n) []⟩
  simp only[BN]at h22;have hq2:q=LL.length:=by omega
  rw[hq2,Nw]at hJ2;simp only[fnz]at hJ2;rw[N8 hJ2.symm]at hJ;refine(Xi ?_);refine X1 ?_;exact⟨k+1,⟨hk1,hJ⟩,by omega,X4 (fun n=>n) []⟩
 simp only[BN]at h4;have hkl:k=l.length:=by omega
 rw[hkl,Nw]at hJ;simp only[ssC]at hJ;subst hJ;refine(Xi ?_);refine X2 ?_;exact Xc
theorem XbU (f:Fl) (hv:X0s f.vars) (hl:f.vars.length<=1000000) (l:List St):Xl l<=1000000000->Z9 l=true->∀(top:Bool) (d:Nat),
  Con prog 53 true [aF f,lS l,lb top] (.v (li (ssC f.vars f.hats.length l top))) none d:=by
 revert l
 apply St.lists;intro l ih hn hbn top d;have hlen:=Qs l;obtain⟨res,hres⟩:∃r,ssC f.vars f.hats.length l top=r:=⟨_,rfl⟩;rw[hres];have csh:=fun s last hb=>Xaz f s last (by omega) hb;obtain⟨vars,hats,body⟩:=f;simp only at hv hl hres ih csh;refine X5 Tryz.func53 ?_;simp only[Tryz.f53];simp only[aF,Fl.enc,Nk,Nr];refine X2 ?_;refine X0<|X0<|X1 ?_;refine X3<|(Xg [1,2,3] (fun(x:Nat)=>[(7,.v (li x))]) (fun x=>[(3,.box [.c (.sl 5 (Xk vars)),.c (.sl 6 (Xn hats)),.c (.sl 10 (X7 body))])]) (fun x=>x<=l.length/\ssC vars hats.length (l.drop x) top=res) (fun x=>l.length - x) (0:Nat) ⟨Nq _,hres⟩ ?_ ?_)
 .exact X4 (fun n=>n) []
 rintro k ⟨hk,hJ⟩;simp only[upS,X8,Xz]
 simp only[KN,Nat.reduceBEq,Nj,Nc,ins,Nat.reduceLT]
 clear hres;refine X0<|X0<|X1 ?_;refine(X6 rfl (fun h4=>Xe ?_) (fun h4=>?_))
 ·simp only[BN]at h4;have hlt:k<l.length:=by omega
  obtain⟨s,he,hd⟩:=Xt hlt;have hmem:s∈l:=N4 he;have hnm:=QJ hmem;have hbm:=X6D hbn hmem;have iha:=fun h h2=>(ih s hmem).1 h h2;have ihb:=fun h h2=>(ih s hmem).2 h h2;have hw1:=XD hlt (by omega);have hw2:IntKind.i64.wrap ((l.length:Int) - 1)=(l.length:Int) - 1:=Xa;have hk1:k+1<=l.length:=hlt;have hla:=X81 hk1;rw[hd]at hJ;have ct:=X7L vars false hv (by omega) s.term;have csh1:=csh s (top&&decide ((k:Int)=(l.length:Int) - 1));obtain⟨sd,sc,sv,sn,⟨so,stn,sks⟩,sa,sb,sbs⟩:=s;simp only[St.then_,St.else_,St.term,St.bounds,St.do_,St.var,St.n]at iha ihb hnm ct csh1;simp only[X4v,N3,N5]at hbm;simp only[ssC,hla]at hJ;have ca:=iha (by omega) hbm.2.1;have cb:=ihb (by omega) hbm.2.2;have ct:=ct (by omega);have csh1:=csh1 hbm.1;have hbl:=hbm.1;have he':=Q4 he;simp only[St.enc,Tm.enc,List.cons_append,List.nil_append]at he';simp only[aF,Fl.enc,aS,St.enc,Tm.enc,Nk,Nr,List.cons_append,List.nil_append]at csh1 ca cb;have hshb:=@X7C vars hats.length sd sv sn (.mk so stn sks) sa.length sb.length sbs (top&&decide ((k:Int)=(l.length:Int) - 1));obtain⟨SH,hSH⟩:∃x,shB vars hats.length sd sv sn (.mk so stn sks) sa.length sb.length sbs (top&&decide ((k:Int)=(l.length:Int) - 1))=x:=⟨_,rfl⟩;obtain⟨NU,hNU⟩:∃x,X3o sd sc sn sbs=x:=⟨_,rfl⟩;obtain⟨TC,hTC⟩:∃x,X15 vars false (.mk so stn sks)=x:=⟨_,rfl⟩;obtain⟨SC,hSC⟩:∃x,stC vars hats.length sd sc sv sn (.mk so stn sks) sa.length sb.length sbs (top&&decide ((k:Int)=(l.length:Int) - 1))=x:=⟨_,rfl⟩;rw[hSC]at hJ;unfold stC at hSC;rw[hSH]at csh1 hshb hSC;rw[hNU]at hSC;rw[hTC]at ct hSC;have ca:=fun d=>ca false d;have cb:=fun d=>cb false d;obtain⟨SA,hSA⟩:∃x,ssC vars hats.length sa false=x:=⟨_,rfl⟩;obtain⟨SB,hSB⟩:∃x,ssC vars hats.length sb false=x:=⟨_,rfl⟩;rw[hSA]at ca hJ;rw[hSB]at cb hJ;clear hlt h4 iha ihb ih hmem hnm hd he hbm hSH hTC hSA hSB csh hla;refine X0<|X3<|X0<|X1 ?_;refine X0<|X0<|(Xo [⟨true,.v (lb SH),none⟩] ?_ ?_)
  .first|exact csh1 _|exact trivial|simpa[*]using csh1 _
  refine(Xb rfl (fun h7=>?_) fun h7=>?_)
  ·simp only[BN]at h7;rw[N8 h7]at hSC;subst hSC;rw[N7 (by decide)]at hJ;subst hJ;refine X2 ?_;exact Xc
  simp only[BN]at h7;rw[N7 (by simp[h7])]at hSC;obtain⟨hs6,hs5,hs4⟩:=hshb h7;clear hshb csh1;refine X2 ?_;refine(XT [1,2,3,7,8] (fun(z:Int)=>[(9,.v (li z))]) (fun(z:Int)=>[(3,.box [.c (.sl 5 (Xk vars)),.c (.sl 6 (Xn hats)),.c (.sl 10 (X7 body))]),(8,.box [.c (iC sd),.c (iC sc),.c (iC sv),.c (iC sn),.c (iC so),.c (iC stn),.c (.sl 3 (Xx sks)),.c (.sl 10 (X7 sa)),.c (.sl 10 (X7 sb)),.c (.sl 1 (X9 sbs))])]) (fun(z:Int)=>z=X3I sd) ?_ ?_)
  ·
   refine X2 ?_;refine(Xb rfl (fun h13=>?_) fun h13=>?_)
   ·simp only[BN]at h13;refine X1 ?_;exact⟨67108864,by simp[X3I,h13],X4 (fun n=>n) []⟩
   simp only[BN]at h13;exact⟨10000,by simp[X3I,h13],X4 (fun n=>n) []⟩
  rintro M hM;simp only[upS,X8,Xz]
  simp only[KN,Nat.reduceBEq,Nj,Nc,ins,Nat.reduceLT]
  refine X0<|X0<|X1 ?_;refine(Xb rfl (fun h18=>?_) fun h18=>?_)
  .simp only[BN]at h18
   have hz:NU=false:=by
    rw[<-hNU];unfold X3o;rw[<-hM];simp only[NA,Nf,N3,Bool.not_eq_false',N5];by_cases hn0:sn<0
    .have:=hs4 hn0;omega
    omega
   rw[N8 hz]at hSC;subst hSC;rw[N7 (by decide)]at hJ;subst hJ;refine X2 ?_;exact Xc
  simp only[BN]at h18
  have hz:NU=(decide (sd≠6)||X4G sbs):=by
   rw[<-hNU];unfold X3o;rw[<-hM]
   rw[show(!(decide (sc<0)||decide (M<sc)||(decide (sd=4)&&(decide (sn<0)||decide (4096<sn)))))=true by
    simp only[NR,NA,Nu,Nh]
    omega]
   rfl
  clear h18 hNU hM hs4;rcases XbQ sbs with h0|⟨b0,hb0⟩
  .subst h0;have hd6:sd≠6:=fun h=>hs6 h rfl;have hw3:IntKind.i64.wrap (-1)=-1:=by decide
   have hz2:NU=true:=by rw[hz];simp[hd6]
   rw[N7 (by simp[hz2])]at hSC;clear hs6 hs5 hz;refine X0<|X0<|X1 ?_;refine(Xb rfl (fun h22=>?_) fun h22=>?_)
   .exact absurd h22 (by simp)
   simp only at h22;subst hSC;refine Xh [⟨true,.v (li TC),none⟩] ?_ ?_
   .first|exact ct _|exact trivial|simpa[*]using ct _
   refine X0<|X0<|X1 ?_;refine(Xb rfl (fun h27=>?_) fun h27=>?_)
   ·simp only[BN]at h27;rw[N7 h27]at hJ;subst hJ;refine X2 ?_;exact Xc
   simp only[BN]at h27;rw[N8 (by simpa using h27)]at hJ;refine Xh [⟨true,.v (li SA),none⟩] ?_ ?_
   .first|exact ca _|exact trivial|simpa[*]using ca _
   refine X0<|X0<|X1 ?_;refine(Xb rfl (fun h32=>?_) fun h32=>?_)
   ·simp only[BN]at h32;rw[N7 h32]at hJ;subst hJ;refine X2 ?_;exact Xc
   simp only[BN]at h32;rw[N8 (by simpa using h32)]at hJ;refine Xh [⟨true,.v (li SB),none⟩] ?_ ?_
   .first|exact cb _|exact trivial|simpa[*]using cb _
   refine X2 ?_;refine(Xb rfl (fun h37=>?_) fun h37=>?_)
   ·simp only[BN]at h37;rw[N7 h37]at hJ;subst hJ;refine X2 ?_;exact Xc
   simp only[BN]at h37;rw[N8 (by simpa using h37)]at hJ;refine X1 ?_;exact⟨k+1,⟨hk1,hJ⟩,by omega,X4 (fun n=>n) []⟩
  have hpos:1<=sbs.length:=(N6.1 hb0).1;obtain⟨x,hx⟩:=X6Y (show sbs.length - 1<sbs.length by omega);have hd6:sd=6:=Classical.byContradiction fun h=>by rw[hs5 h]at hpos;simp at hpos
  have hw3:IntKind.i64.wrap ((sbs.length:Int) - 1)=(sbs.length:Int) - 1:=Xa;have hw4:0<=(sbs.length:Int) - 1:=by omega
  have hw5:((sbs.length:Int) - 1).toNat=sbs.length - 1:=by omega
  have hw6:1<=(sbs.length:Int):=by omega
  have hw7:decide (0<(sbs.length:Int))=true:=D7 (by omega);have hz2:NU=decide (x<=67108864):=by rw[hz];unfold X4G;rw[hx,hd6];simp
  have hne:sbs≠[]:=by intro h;rw[h]at hpos;simp at hpos
  clear hs6 hs5 hz hb0 hpos;refine X0<|X0<|X1 ?_;refine(Xb rfl (fun h22=>?_) fun h22=>?_)
  .simp only[BN]at h22
   have hx2:67108864<x:=by
    omega
   rw[N8 (by rw[hz2];exact decide_eq_false (by omega))]at hSC;subst hSC;rw[N7 (by decide)]at hJ;subst hJ;refine X2 ?_;exact Xc
  simp only[BN]at h22
  have hx2:x<=67108864:=by
   first
    |omega
    | (rcases h22 with h|h
       .exact absurd h (by simp[hne])
       omega)
  rw[N7 (by rw[hz2,D7 hx2];decide)]at hSC;subst hSC;refine Xh [⟨true,.v (li TC),none⟩] ?_ ?_
  .first|exact ct _|exact trivial|simpa[*]using ct _
  refine X0<|X0<|X1 ?_;refine(Xb rfl (fun h27=>?_) fun h27=>?_)
  ·simp only[BN]at h27;rw[N7 h27]at hJ;subst hJ;refine X2 ?_;exact Xc
  simp only[BN]at h27;rw[N8 (by simpa using h27)]at hJ;refine Xh [⟨true,.v (li SA),none⟩] ?_ ?_
  .first|exact ca _|exact trivial|simpa[*]using ca _
  refine X0<|X0<|X1 ?_;refine(Xb rfl (fun h32=>?_) fun h32=>?_)
  ·simp only[BN]at h32;rw[N7 h32]at hJ;subst hJ;refine X2 ?_;exact Xc
  simp only[BN]at h32;rw[N8 (by simpa using h32)]at hJ;refine Xh [⟨true,.v (li SB),none⟩] ?_ ?_
  .first|exact cb _|exact trivial|simpa[*]using cb _
  refine X2 ?_;refine(Xb rfl (fun h37=>?_) fun h37=>?_)
  ·simp only[BN]at h37;rw[N7 h37]at hJ;subst hJ;refine X2 ?_;exact Xc
  simp only[BN]at h37;rw[N8 (by simpa using h37)]at hJ;refine X1 ?_;exact⟨k+1,⟨hk1,hJ⟩,by omega,X4 (fun n=>n) []⟩
 simp only[BN]at h4;have hkl:k=l.length:=by omega
 rw[hkl,Nw]at hJ;simp only[ssC]at hJ;subst hJ;refine(Xi ?_);refine X2 ?_;exact Xc
end Go.Proofs.YtdajceakaakdoaaGreat
