/- Contracts of functions and plain facts about what they compute. Conditions: as each theorem states. -/
import Derived.Test.YtdccocolnaklkaaGreatDoorG7
import Derived.Test.YtdccocolnaklkaaGreatDoorG10
import Derived.Test.YtdccocolnaklkaaGreatDoorG4
import Derived.Test.YtdccocolnaklkaaGreatDoorG8
import Derived.Test.YtdccocolnaklkaaGreatDoorH6
import Derived.Test.YtdccocolnaklkaaGreatDoorG6
import Derived.Test.YtdccocolnaklkaaGreatDoorRows
set_option linter.unusedSimpArgs false
set_option linter.unusedVariables false
set_option linter.unnecessarySimpa false
set_option maxRecDepth 100000
set_option maxHeartbeats 2000000
namespace Go.Proofs.YtdccocolnaklkaaGreatDoor
open Go Go.Hl
theorem X5A (l:List Int) (hl:l.length<=1000000000) (d:Nat):Con Tryz.prog 9 true [lI l] (.v (lb (Wt l))) none d:=by
 refine X3 Tryz.func9 ?_;simp only[Tryz.f9];refine X1 ?_;refine X0<|X0<|X2 ?_;refine X4<|(Xf [0,5] (fun(x:Nat)=>[(6,.v (li x))]) (fun x=>[]) (fun x=>x<=l.length/\∀j:Nat,j+1<x->WG l j=true) (fun x=>l.length - x) (0:Nat) ⟨Nf _,fun j hj=>absurd hj (by omega)⟩ ?_ ?_)
 .exact X5 (fun n=>n) []
 rintro k ⟨hk,hJ⟩;simp only[upS,X7,Xy]
 try simp only[X7,KN,Nat.reduceBEq,Nd,Nb,ins,Nat.reduceLT]
 refine X1 ?_;refine X0<|(X6 rfl (fun h4=>Xc ?_) (fun h4=>?_))
 ·(try simp only[BN]at h4);have hlt:k<l.length:=by omega
  obtain⟨b,hb⟩:=Zr hlt;have hw:=XB hlt hl;have hk1:k+1<=l.length:=hlt;have hk9:k<=1000000000:=by omega
  clear hlt h4;refine X0<|X4<|X0<|X2 ?_;rcases k with _|j
  .have hw1:IntKind.i64.wrap 1=1:=X8;have hwm:IntKind.i64.wrap (-1)=-1:=by decide
   refine X0<|(N0 ?_);refine(X9 rfl (fun h7=>?_) fun h7=>?_)
   .exact absurd h7 (by simp)
   (try simp only[BN]at h7);refine X2 ?_;exact⟨1,⟨hk1,fun j hj=>absurd hj (by omega)⟩,by omega,X5 (fun n=>n) []⟩
  have hw1:IntKind.i64.wrap ((j:Int)+1+1)=(j:Int)+1+1:=X8;obtain⟨a,ha⟩:=Zr (show j<l.length by omega);have hwj:IntKind.i64.wrap (j:Int)=j:=X8;have hri:WG l j=decide (a<b):=by unfold WG;rw[ha,hb]
  have hj0:(0:Int)<(j:Int)+1:=by omega
  have hj1:0<=(j:Int)+1:=by omega
  have hj2:((j:Int)+1).toNat=j+1:=by omega
  refine X0<|(N0 ?_);refine(X9 rfl (fun h7=>?_) fun h7=>?_)
  ·(try simp only[BN]at h7);have hz:Wt l=false:=X3w (i:=j) (by omega) (by rw[hri];simpa using h7);refine X1 ?_;exact Xb
  (try simp only[BN]at h7);refine X2 ?_
  exact⟨j+1+1,⟨hk1,fun i hi=>by
   rcases Nat.lt_or_eq_of_le (Nat.le_of_lt_succ hi)with h|h
   .exact hJ i (by omega)
   have:i=j:=by omega
   rw[this,hri]
   simpa using h7⟩,by omega,X5 (fun n=>n) []⟩
 (try simp only[BN]at h4);have hz:Wt l=true:=X0V fun i hi=>hJ i (by omega);refine(Xj ?_);refine X1 ?_;exact Xb
def X3l:List Int->Int->Nat->Int
 |[],_,_=>-1
 |y::l,x,k=>if x=y then k else X3l l x (k+1)
theorem X9y (l:List Int) (x:Int) (hl:l.length<=1000000000) (d:Nat):Con Tryz.prog 16 true [lI l,li x] (.v (li (X3l l x 0))) none d:=by
 obtain⟨res,hres⟩:∃r,X3l l x 0=r:=⟨_,rfl⟩;rw[hres];refine X3 Tryz.func16 ?_;simp only[Tryz.f16];refine X1 ?_;refine X0<|X0<|X2 ?_;refine X4<|(Xf [0,1,7] (fun(z:Nat)=>[(8,.v (li z))]) (fun z=>[]) (fun z=>z<=l.length/\X3l (l.drop z) x z=res) (fun z=>l.length - z) (0:Nat) ⟨Nf _,hres⟩ ?_ ?_)
 .exact X5 (fun n=>n) []
 rintro k ⟨hk,hJ⟩;simp only[upS,X7,Xy]
 try simp only[X7,KN,Nat.reduceBEq,Nd,Nb,ins,Nat.reduceLT]
 clear hres;refine X1 ?_;refine X0<|(X6 rfl (fun h4=>Xc ?_) (fun h4=>?_))
 ·(try simp only[BN]at h4);have hlt:k<l.length:=by omega
  obtain⟨b,he,hd⟩:=XF hlt;have hw1:=XB hlt (by omega);have hk1:k+1<=l.length:=hlt;rw[hd]at hJ;simp only[X3l]at hJ;clear hlt h4 hd;refine X0<|X4<|X0<|X2 ?_;refine X1 ?_;refine(X9 rfl (fun h7=>?_) fun h7=>?_)
  ·(try simp only[BN]at h7);rw[N9 (by simpa using h7)]at hJ;subst hJ;refine X1 ?_;exact Xb
  (try simp only[BN]at h7);rw[N6 (by simpa using h7)]at hJ;refine X2 ?_;exact⟨k+1,⟨hk1,hJ⟩,by omega,X5 (fun n=>n) []⟩
 (try simp only[BN]at h4);have hkl:k=l.length:=by omega
 rw[hkl,Nq]at hJ;simp only[X3l]at hJ;subst hJ;refine(Xj ?_);refine X1 ?_;exact Xb
theorem X35 (l:List Vr) (hl:l.length<=1000000) (d:Nat) (hd:d<1000000):Con Tryz.prog 42 false [.one (.c (.sl 5 (Xt l)))] (.v (.one (.own d))) (some (.row 60 5 (Xt l))) d:=by
 have hroom:Qy l.length 48:=XC (by omega) (by omega);cases l with
 | nil=>
   refine X3r ?_ ?_
   .refine X3 Tryz.func42 ?_;simp only[Tryz.f42];refine X1 ?_;refine X0<|X0<|X2 ?_;refine(X9 rfl (fun h2=>?_) fun h2=>?_)
    ·(try simp only[BN]at h2);refine X1 ?_;exact Xr ⟨.inr rfl,_,X6a 2 d 60 5 rfl (by decide) hd,⟨⟨_,by simp;rfl,by simp[Xp]⟩,by simp,fun h=>by cases h⟩⟩
    exact absurd h2 (by simp)
   intro a cap;refine X3 Tryz.func42 ?_;simp only[Tryz.f42];refine X1 ?_;refine X0<|X0<|X2 ?_;refine(X9 rfl (fun h2=>?_) fun h2=>?_)
   .exact absurd h2 (by simp)
   (try simp only[BN]at h2);refine Q9 (X5E 0 5 rfl) ?_;refine X1 ?_;exact Xr ⟨.inr rfl,_,X1M 2 7 d rfl rfl hd,⟨⟨_,by simp;rfl,by simp[Xp]⟩,by simp,fun h=>by cases h⟩⟩
 | cons v r=>
   refine X3 Tryz.func42 ?_;simp only[Tryz.f42];rw[List.length_cons]at hroom;refine X1 ?_;refine X0<|X0<|X2 ?_;refine(X9 rfl (fun h2=>?_) fun h2=>?_)
   .exact absurd h2 (by simp)
   (try simp only[BN]at h2);refine X1 ?_;exact Xr ⟨.inr rfl,_,X1M 2 7 d rfl rfl hd,⟨⟨_,by simp;rfl,by simp[Xp]⟩,by simp,fun h=>by cases h⟩⟩
theorem X5f (f:Fl) (hv:f.vars.length<=1000000) (hh:f.hats.length<=1000000) (ht:∀h∈f.hats,h.term.nodes<=1000000) (hb:Xh f.body<=1000000) (hbn:Qi f.body=true):
  Con Tryz.prog 27 false [aF f] (.v (.agg [.own 77,.c (.sl 6 (Xz f.hats)),.c (.sl 10 (Xe f.body))])) (some (.row 60 5 (Xt f.vars))) 77:=by
 obtain⟨vars,hats,body⟩:=f;simp only at hv hh ht hb hbn;have cv:=X35 vars hv;have chh:=X3C hats hh;have cb:=X4K body hb hbn;refine X3 Tryz.func27 ?_;simp only[Tryz.f27];simp only[aF,Fl.enc,Na,Ng];refine X1 ?_;refine Xd [⟨false,.v (.one (.own 6)),some (.row 60 5 (Xt vars))⟩] ?_ ?_
 .first|exact cv 6 (by decide)|exact trivial|simpa[*]using cv 6 (by decide)
 refine Xd [⟨false,.v (.one (.own 10)),some (.row 94 6 (Xz hats))⟩] ?_ ?_
 .first|exact chh 10 (by decide)|exact trivial|simpa[*]using chh 10 (by decide)
 refine X0<|X0<|X2 ?_;refine X4<|(Xf [1,2,14] (fun(x:Nat)=>[(15,.v (li x))]) (fun x=>[(1,.box [.own 6,.own 10,.c (.sl 10 (Xe body))]),(2,.box [.c (.lit XZ),.c (.lit XZ),.c (.lit XZ)]),(6,.row 60 5 (Xt vars)),(10,.row 94 6 (Xz hats))]) (fun x=>x<=hats.length) (fun x=>hats.length - x) (0:Nat) (Nf _) ?_ ?_)
 .exact X5 (fun n=>n) []
 rintro k hk;simp only[upS,X7,Xy]
 try simp only[X7,KN,Nat.reduceBEq,Nd,Nb,ins,Nat.reduceLT]
 refine X1 ?_;refine X0<|(X6 rfl (fun h6=>Xc ?_) (fun h6=>?_))
 ·(try simp only[BN]at h6);have hlt:k<hats.length:=by omega
  obtain⟨h,he,hd⟩:=XF hlt;have hw1:=XB hlt (by omega);have hk1:k+1<=hats.length:=hlt;have hmem:h∈hats:=N3 he;have ct:=X3P h.term (ht h hmem);have hse:=X6z (l:=Xz hats) (k:=k) (x:=h.enc) (by simp[he]);obtain⟨hn,hlo,hhi,⟨ho,htn,hks⟩⟩:=h;simp only[aT,Tm.enc,Na,Ng]at ct;simp only[Ht.enc,Tm.enc,List.cons_append,List.nil_append]at hse;clear hlt h6 hmem hd;refine X0<|X4<|X0<|X2 ?_;refine(Xv [⟨false,.v (aT (.mk ho htn hks)),none⟩] (by kernel_rfl) (by kernel_rfl) (by rfl) (by simp[*];first|exact⟨rfl,Iff.rfl⟩|exact⟨rfl,trivial⟩|rfl) ?_ ?_)
  .first|exact ct _|exact trivial|simpa[*]using ct _
  refine X2 ?_;exact⟨k+1,hk1,by omega,X5 (fun n=>n) []⟩
 (try simp only[BN]at h6);refine(Xj ?_);refine Xd [⟨false,.v (lS body),none⟩] ?_ ?_
 .first|exact cb _|exact trivial|simpa[*]using cb _
 refine X1 ?_;exact Xr ⟨.inr rfl,_,le_trans (XO 10 rfl) (Qs (s':=⟨36,[(2,.v (.one (.at_ 2 0)))],[(2,.box [.own 77,.c (.sl 6 (Xz hats)),.c (.sl 10 (Xe body))]),(77,.row 60 5 (Xt vars))]⟩) (fun n=>if n=77 then 6 else n) [] rfl (by simp) (by simp) (by simp)),⟨⟨_,by simp;rfl,by simp[Xp]⟩,by simp,fun h=>by cases h⟩⟩
def namB (s:ByteArray) (v:Vr):Bool:=decide (v.name=s)
theorem nam_con (v:Vr) (s:ByteArray) (d:Nat):Con Tryz.prog 40 true [aV v,.one (.c (.ptr [sC s]))] (.v (lb (namB s v))) none d:=by
 unfold namB;obtain⟨nm,kd,lo,hi,it⟩:=v;refine X3 Tryz.func40 ?_;simp only[Tryz.f40];simp only[aV,Vr.enc,Na,Ng];refine X1 ?_;refine X1 ?_;exact Xb
theorem namF_con (f:Fl) (s:ByteArray) (hl:f.vars.length<=1000000000) (d:Nat):Con Tryz.prog 39 true [.one (.c (sC s)),.one (.c (.ptr f.enc))] (.v (lb (f.vars.any (namB s)))) none d:=by
 have cc:=X2b f.vars 40 [CD.ptr [sC s]] (namB s) hl (fun v _ d=>nam_con v s d);obtain⟨B,hB⟩:∃b,f.vars.any (namB s)=b:=⟨_,rfl⟩;rw[hB]at cc⊢;obtain⟨vars,hats,body⟩:=f;clear hB hl;refine X3 Tryz.func39 ?_;simp only[Tryz.f39];simp only[Fl.enc]at cc⊢;refine X1 ?_;refine Xd [⟨true,.v (lb B),none⟩] ?_ ?_
 .first|exact cc _|exact trivial|simpa[*]using cc _
 exact Xb
theorem X8z {T:Type} (p q:T->Bool):∀l:List T,(l.any p||l.any q)=l.any fun x=>p x||q x
 |[]=>rfl
 | x::l=>by
   rw[List.any_cons,List.any_cons,List.any_cons,<-X8z p q l];cases p x<;>cases q x<;>cases l.any p<;>cases l.any q<;>rfl
theorem takF_or (vars:List Vr) (k:Nat):X2l vars k=(vars.any (namB (Zh++Qt k))||vars.any (namB (Zk++Qt k))):=by
 rw[X8z];rfl
theorem X4o (n:Int) (d:Nat):Con Tryz.prog 33 false [li n] (.v (aT (WI n))) none d:=by
 refine X3 Tryz.func33 ?_;simp only[Tryz.f33];refine X1 ?_;refine X1 ?_;exact Xr ⟨.inr rfl,_,X60 (ys:=[.c (iC 24),.c (iC n),.c (.sl 3 [])]) 2 rfl (by simp[nlV]),⟨⟨_,by simp[rwO];rfl,by simp[Xp,aT,WI,Tm.enc,XH]⟩,by simp[rwO],fun h=>by cases h⟩⟩
theorem X41 (n:Int) (d:Nat):Con Tryz.prog 34 false [li n] (.v (aT (X3o n))) none d:=by
 refine X3 Tryz.func34 ?_;simp only[Tryz.f34];refine X1 ?_;refine X1 ?_;exact Xr ⟨.inr rfl,_,X60 (ys:=[.c (iC 0),.c (iC n),.c (.sl 3 [])]) 2 rfl (by simp[nlV]),⟨⟨_,by simp[rwO];rfl,by simp[Xp,aT,X3o,Tm.enc,XH]⟩,by simp[rwO],fun h=>by cases h⟩⟩
theorem X4D (n:Int):∀a b:List (Int×Int),QV n (a++b)=QV n a++QV n b
 |[],_=>rfl
 |p::a,b=>by simp only[List.cons_append,QV,X4D n a b]
theorem X0v:∀a b:List St,Xe (a++b)=Xe a++Xe b
 |[],_=>rfl
 |t::a,b=>by simp only[List.cons_append,Xe,X0v a b]
theorem X5k:∀a:List St,(Xe a).length=a.length
 |[]=>rfl
 |t::a=>by simp only[Xe,List.length_cons,X5k a]
theorem Wn (n:Int):∀a:List (Int×Int),(QV n a).length=a.length
 |[]=>rfl
 |t::a=>by simp only[QV,List.length_cons,Wn n a]
def hdG (n:Int) (t:Tm) (m:List (Int×Int)):List St:=asg n t::asg (n+1) (WI n)::QV n m
theorem X8q (n:Int) (t:Tm) (a b:List (Int×Int)):hdG n t (a++b)=hdG n t a++QV n b:=by simp[hdG,X4D]
theorem outG_hd (n c:Int) (t:Tm) (m:List (Int×Int)):X2i n c t m=hdG n t m++[.mk 1 c 0 0 (WI (n+1)) [] [] []]:=rfl
set_option maxHeartbeats 16000000 in
theorem grp4_con (sd sc sv sn:Int) (t:Tm) (sa sb:List St) (sbs:List Int) (n:Int) (m:List (Int×Int)) (hml:m.length<=1000000) (d:Nat):Con Tryz.prog 36 false [aS (.mk sd sc sv sn t sa sb sbs),.one (.c (.ptr [iC n])),.one (.c (.ptr [iC (n+1)])),.one (.c (.ptr [.fn 33 []])),.one (.c (.ptr [.sl 1 (Xg (m.map (·.1)))])),.one (.c (.ptr [.fn 34 []])),.one (.c (.ptr [.sl 1 (Xg (m.map (·.2)))]))]
  (.v (lS (X2i n sc t m))) none d:=by
 obtain⟨so,stn,sks⟩:=t;obtain⟨n1,hn1⟩:∃x,n+1=x:=⟨_,rfl⟩;obtain⟨H,hH⟩:∃h:List St,h=hdG n (.mk so stn sks) []:=⟨_,rfl⟩;have c1:=X4o n;have c2:=X4o n1;simp only[aT,WI,Tm.enc,XH,Na,Ng]at c1 c2;rw[hn1];refine X3 Tryz.func36 ?_;simp only[Tryz.f36];simp only[aS,St.enc,Tm.enc,Na,Ng,List.cons_append,List.nil_append,St.term];refine X1 ?_;refine X0<|(Xv [⟨false,.v (.agg [.c (iC 24),.c (iC n),.c (.sl 3 [])]),none⟩] (by kernel_rfl) (by kernel_rfl) (by rfl) (by simp[*];first|exact⟨rfl,Iff.rfl⟩|exact⟨rfl,trivial⟩|rfl) ?_ ?_)
 .first|exact c1 _|exact trivial|simpa[*]using c1 _
 refine X0<|X0<|X2 ?_;refine X4<|(Xf [1,2,3,5,6,7,23,24] (fun(y:Nat)=>[(9,.v (.one (.own 1009))),(25,.v (li y))]) (fun y=>[(7,.box [.c (iC sd),.c (iC sc),.c (iC sv),.c (iC sn),.c (iC so),.c (iC stn),.c (.sl 3 (XH sks)),.c (.sl 10 (Xe sa)),.c (.sl 10 (Xe sb)),.c (.sl 1 (Xg sbs))]),(1009,.row 63 10 (Xe (hdG n (.mk so stn sks) (m.take y))))]) (fun y=>y<=m.length) (fun y=>m.length - y) (0:Nat) (Nf _) ?_ ?_)
 .exact le_trans (X3U (rows':=Xe (hdG n (.mk so stn sks) [])) 22 rfl (by simp[hdG,QV,asg,Xe,St.enc,Tm.enc,XH,WI,nlR,nlL,Xg,hn1])) (Qs (fun n=>if n=1009 then 22 else n) [] rfl (by simp[*,upS,X7,rwO]) (by simp[*,upS,rwO]) (by simp[upS]))
 rintro k hk;simp only[upS,X7,Xy]
 try simp only[X7,KN,Nat.reduceBEq,Nd,Nb,ins,Nat.reduceLT]
 refine X1 ?_;refine X0<|(X6 rfl (fun h5=>Xc ?_) (fun h5=>?_))
 ·(try simp only[BN]at h5);have hlt:k<m.length:=by simpa using h5
  obtain⟨⟨x,y⟩,he,hd⟩:=XF hlt;have hw1:=XB hlt (by omega);have hk1:k+1<=m.length:=hlt;have cx:=X41 x;have cy:=X41 y;simp only[aT,X3o,Tm.enc,XH,Na,Ng]at cx cy;have htk:m.take (k+1)=m.take k++[(x,y)]:=by rw[List.take_add_one,he];rfl
  obtain⟨R,hR⟩:∃r,r=Xe (hdG n (.mk so stn sks) (m.take k)):=⟨_,rfl⟩
  have hRl:R.length=k+2:=by
   rw[hR,X5k];simp[hdG,Wn];omega
  have hroom:Qy (R.length+1) 144:=XC (by omega) (by decide);have he1:(Xg (m.map (·.1)))[k]? =some [iC x]:=by simp[he]
  have he2:(Xg (m.map (·.2)))[k]? =some [iC y]:=by simp[he]
  clear hlt h5 he hd;refine X0<|X4<|X0<|X2 ?_;refine X0<|(Xv [⟨false,.v (.agg [.c (iC 24),.c (iC n),.c (.sl 3 [])]),none⟩,⟨false,.v (.agg [.c (iC 0),.c (iC x),.c (.sl 3 [])]),none⟩] (by kernel_rfl) (by kernel_rfl) (by rfl) (by simp[*];first|exact⟨rfl,Iff.rfl⟩|exact⟨rfl,trivial⟩|rfl) ?_ ?_)
  .first|exact⟨c1 _,cx _⟩|exact trivial|(repeat' first|exact trivial|exact c1 _|exact cx _|apply And.intro)
  refine Q9 (s':=⟨⟨65,none⟩,[(1,.v (.one (.c (.ptr [iC n])))),(2,.v (.one (.c (.ptr [iC n1])))),(3,.v (.one (.c (.ptr [.fn 33 []])))),(5,.v (.one (.c (.ptr [.fn 34 []])))),(6,.v (.one (.c (.ptr [.sl 1 (Xg (m.map (·.2)))])))),(7,.v (.one (.at_ 7 0))),(9,.v (.one (.own 1009))),(10,.v (li k)),(12,.v (.one (.at_ 12 0))),(23,.v (lI (m.map (·.1)))),(24,.v (li m.length)),(25,.v (li k))],[(7,.box [.c (iC sd),.c (iC sc),.c (iC sv),.c (iC sn),.c (iC so),.c (iC stn),.c (.sl 3 (XH sks)),.c (.sl 10 (Xe sa)),.c (.sl 10 (Xe sb)),.c (.sl 1 (Xg sbs))]),(12,.box [.c (iC 13),.c (iC 0),.c (.sl 3 [[iC 24,iC n,.sl 3 []],[iC 0,iC x,.sl 3 []]])]),(1009,.row 63 10 R)]⟩) (le_trans (XO 36 rfl) (Qs (fun n=>n) [] rfl (by simp[HS.frz,Zy,RV.frz,TV.frz,CV.frz,Ob.frz,del]) (by simp[HS.frz,Zy,RV.frz,TV.frz,CV.frz,Ob.frz,del,hR]) (by simp))) ?_;refine(X23 (fun D=>⟨⟨65,none⟩,(1,.v (.one (.c (.ptr [iC n]))))::(2,.v (.one (.c (.ptr [iC n1]))))::(3,.v (.one (.c (.ptr [.fn 33 []]))))::(5,.v (.one (.c (.ptr [.fn 34 []]))))::(6,.v (.one (.c (.ptr [.sl 1 (Xg (m.map (·.2)))]))))::(7,.v (.one (.at_ 7 0)))::(9,if D 17=true then .v (.one (.own 54))else .v (.one (.own 1009)))::(10,.v (li k))::(12,.v (.one (.at_ 12 0)))::(23,.v (lI (m.map (·.1))))::(24,.v (li m.length))::(25,.v (li k))::oL (D 0) (38,.v (.one (.own 1009))) (oL (D 1) (39,.v (li n1)) (oL (D 2) (40,.v (.agg [.c (iC 13),.c (iC 0),.c (.sl 3 [[iC 24,iC n,.sl 3 []],[iC 0,iC x,.sl 3 []]])])) (oL (D 3) (41,.v (.one (.c (.fn 34 [])))) (oL (D 4) (42,.v (lI (m.map (·.2)))) (oL (D 5) (43,.v (li k)) (oL (D 6) (44,.v (.one (.c (.ptr [iC y])))) (oL (D 7) (45,.v (li y)) (oL (D 8) (46,.v (.agg [.c (iC 0),.c (iC y),.c (.sl 3 [])])) (oL (D 9) (47,.v (.one (.c (.fn 33 [])))) (oL (D 10) (48,.v (li n1)) (oL (D 11) (49,.v (.agg [.c (iC 24),.c (iC n1),.c (.sl 3 [])])) (oL (D 12) (50,.v (.one (.c (.sl 3 [[iC 13,iC 0,.sl 3 [[iC 24,iC n,.sl 3 []],[iC 0,iC x,.sl 3 []]]],[iC 0,iC y,.sl 3 []],[iC 24,iC n1,.sl 3 []]])))) (oL (D 13) (51,.v (.agg [.c (iC 23),.c (iC 0),.c (.sl 3 [[iC 13,iC 0,.sl 3 [[iC 24,iC n,.sl 3 []],[iC 0,iC x,.sl 3 []]]],[iC 0,iC y,.sl 3 []],[iC 24,iC n1,.sl 3 []]])])) (oL (D 14) (52,.v (.agg [.c (iC 0),.c (iC 0),.c (iC n1),.c (iC 0),.c (iC 23),.c (iC 0),.c (.sl 3 [[iC 13,iC 0,.sl 3 [[iC 24,iC n,.sl 3 []],[iC 0,iC x,.sl 3 []]]],[iC 0,iC y,.sl 3 []],[iC 24,iC n1,.sl 3 []]]),.c (.lit XZ),.c (.lit XZ),.c (.lit XZ)])) (oL (D 15) (53,.v (.one (.c (.sl 10 [[iC 0,iC 0,iC n1,iC 0,iC 23,iC 0,.sl 3 [[iC 13,iC 0,.sl 3 [[iC 24,iC n,.sl 3 []],[iC 0,iC x,.sl 3 []]]],[iC 0,iC y,.sl 3 []],[iC 24,iC n1,.sl 3 []]],.lit XZ,.lit XZ,.lit XZ]])))) (oL (D 16) (54,.v (.one (.own 54))) ([]))))))))))))))))),(7,.box [.c (iC sd),.c (iC sc),.c (iC sv),.c (iC sn),.c (iC so),.c (iC stn),.c (.sl 3 (XH sks)),.c (.sl 10 (Xe sa)),.c (.sl 10 (Xe sb)),.c (.sl 1 (Xg sbs))])::(12,.box [.c (iC 13),.c (iC 0),.c (.sl 3 [[iC 24,iC n,.sl 3 []],[iC 0,iC x,.sl 3 []]])])::oL (D 16) (54,.row 63 10 (R++[[iC 0,iC 0,iC n1,iC 0,iC 23,iC 0,.sl 3 [[iC 13,iC 0,.sl 3 [[iC 24,iC n,.sl 3 []],[iC 0,iC x,.sl 3 []]]],[iC 0,iC y,.sl 3 []],[iC 24,iC n1,.sl 3 []]],.lit XZ,.lit XZ,.lit XZ]])) (oL (!D 16) (1009,.row 63 10 R) ([]))⟩) [(0,[],[16,17]),(1,[],[14,15,16,17]),(2,[],[12,13,14,15,16,17]),(3,[],[8,11,12,13,14,15,16,17]),(4,[],[6,7,8,11,12,13,14,15,16,17]),(5,[],[6,7,8,11,12,13,14,15,16,17]),(6,[4,5],[7,8,11,12,13,14,15,16,17]),(7,[4,5,6],[8,11,12,13,14,15,16,17]),(8,[3,4,5,6,7],[11,12,13,14,15,16,17]),(9,[],[11,12,13,14,15,16,17]),(10,[],[11,12,13,14,15,16,17]),(11,[3,4,5,6,7,8,9,10],[12,13,14,15,16,17]),(12,[2,3,4,5,6,7,8,9,10,11],[13,14,15,16,17]),(13,[2,3,4,5,6,7,8,9,10,11,12],[14,15,16,17]),(14,[1,2,3,4,5,6,7,8,9,10,11,12,13],[15,16,17]),(15,[1,2,3,4,5,6,7,8,9,10,11,12,13,14],[16,17]),(16,[0,1,2,3,4,5,6,7,8,9,10,11,12,13,14,15],[17]),(17,[0,1,2,3,4,5,6,7,8,9,10,11,12,13,14,15,16],[])] rfl (by kernel_rfl) (by kernel_rfl) (WD (by simp)) (fun D=>⟨?_,?_,?_,?_,?_,?_,?_,?_,?_,?_,?_,?_,?_,?_,?_,?_,?_,?_,trivial⟩) ?_)
  all_goals try(intro h0 h1 h2;simp only[allM]at h1 h2)
  case refine_13=>refine Qa.evZ [] rfl (by simp[h0,h1,h2];rfl) trivial ?_;exact le_trans (XO 50 (by simp;exact⟨rfl,rfl,rfl⟩)) (WD (by simp[h0,h1,h2,HS.frz,Zy,RV.frz,TV.frz,CV.frz,Ob.frz]))
  case refine_16=>refine Qa.evZ [] rfl (by simp[h0,h1,h2];rfl) trivial ?_;exact le_trans (XO 53 (by simp;exact⟨rfl,rfl,rfl⟩)) (WD (by simp[h0,h1,h2,HS.frz,Zy,RV.frz,TV.frz,CV.frz,Ob.frz]))
  case refine_9=>refine Qa.evZ [⟨false,.v (.agg [.c (iC 0),.c (iC y),.c (.sl 3 [])]),none⟩] rfl (by simp[h0,h1,h2];first|exact⟨rfl,Iff.rfl⟩|exact⟨rfl,trivial⟩|rfl) (by first|exact cy _|simpa using cy _) ?_;exact WD (by simp[h0,h1,h2])
  case refine_12=>refine Qa.evZ [⟨false,.v (.agg [.c (iC 24),.c (iC n1),.c (.sl 3 [])]),none⟩] rfl (by simp[h0,h1,h2];first|exact⟨rfl,Iff.rfl⟩|exact⟨rfl,trivial⟩|rfl) (by first|exact c2 _|simpa using c2 _) ?_;exact WD (by simp[h0,h1,h2])
  all_goals first
   |(refine Qa.evZ [] rfl (by simp[h0,h1,h2,hroom,he2,XG,Ql,XT,cellsOf,Qx,QC,Wg,Qw,QB,Qq];rfl) trivial ?_;exact WD (by simp[h0,h1,h2]))
   |refine Q9 (s':=⟨⟨65,none⟩,[(1,.v (.one (.c (.ptr [iC n])))),(2,.v (.one (.c (.ptr [iC n1])))),(3,.v (.one (.c (.ptr [.fn 33 []])))),(5,.v (.one (.c (.ptr [.fn 34 []])))),(6,.v (.one (.c (.ptr [.sl 1 (Xg (m.map (·.2)))])))),(7,.v (.one (.at_ 7 0))),(9,.v (.one (.own 1009))),(10,.v (li k)),(12,.v (.one (.at_ 12 0))),(23,.v (lI (m.map (·.1)))),(24,.v (li m.length)),(25,.v (li k))],[(7,.box [.c (iC sd),.c (iC sc),.c (iC sv),.c (iC sn),.c (iC so),.c (iC stn),.c (.sl 3 (XH sks)),.c (.sl 10 (Xe sa)),.c (.sl 10 (Xe sb)),.c (.sl 1 (Xg sbs))]),(1009,.row 63 10 (R++[[iC 0,iC 0,iC n1,iC 0,iC 23,iC 0,.sl 3 [[iC 13,iC 0,.sl 3 [[iC 24,iC n,.sl 3 []],[iC 0,iC x,.sl 3 []]]],[iC 0,iC y,.sl 3 []],[iC 24,iC n1,.sl 3 []]],.lit XZ,.lit XZ,.lit XZ]]))]⟩) (Qs (fun n=>if n=1009 then 54 else n) [] rfl (by simp) (by simp) (by simp)) ?_
  refine X2 ?_;exact⟨k+1,hk1,by omega,le_trans (X3U (rows':=Xe (hdG n (.mk so stn sks) (m.take (k+1)))) 1009 rfl (by rw[htk,X8q,X0v,<-hR];exact X1T _ (by simp[QV,cndG,asg,WI,X3o,Xe,St.enc,Tm.enc,XH,Xg,nlR,nlL,hn1]))) (Qs (fun n=>n) [] rfl (by simp[upS,X7,rwO]) (by simp[upS,rwO]) (by simp[upS]))⟩
 try simp only[BN]at h5
 have hkl:k=m.length:=by
  have:¬k<m.length:=by simpa using h5
  omega
 subst hkl;rw[List.take_length];have hroom:Qy ((hdG n (.mk so stn sks) m).length+1) 144:=XC (by simp[hdG,Wn];omega) (by decide);refine(Xj ?_);refine X0<|(Xv [⟨false,.v (.agg [.c (iC 24),.c (iC n1),.c (.sl 3 [])]),none⟩] (by kernel_rfl) (by kernel_rfl) (by rfl) (by simp[*,hroom,XG,Ql,XT,cellsOf,Qx,QC,Wg,Qw,QB,Qq];first|exact⟨rfl,Iff.rfl⟩|exact⟨rfl,trivial⟩|rfl) ?_ ?_)
 .first|exact c2 _|exact trivial|simpa[*,hroom,XG,Ql,XT,cellsOf,Qx,QC,Wg,Qw,QB,Qq]using c2 _
 exact Xr ⟨.inr rfl,_,le_trans (X3U (rows':=Xe (X2i n sc (.mk so stn sks) m)) 64 rfl (by rw[outG_hd,X0v];exact X1T _ (by simp[WI,Xe,St.enc,Tm.enc,XH,Xg,nlR,nlL,hn1]))) (XO 64 rfl),⟨⟨_,by simp[rwO,HS.frz,Zy,RV.frz,TV.frz,CV.frz];rfl,by simp[Xp]⟩,by simp,fun h=>by cases h⟩⟩
theorem X7d (n:Int) (m:List (Int×Int)):∀a b:List St,QJ n m (a++b)=QJ n m a++QJ n m b
 |[],_=>by simp[QJ]
 | .mk d c v k t x y z::a,b=>by simp only[List.cons_append,QJ,X7d n m a b,Dc]
theorem X6n (n:Int) (m:List (Int×Int)):∀a:List St,(QJ n m a).length<=a.length*(m.length+3)
 |[]=>by simp[QJ]
 | .mk d c v k t x y z::a=>by
   have h:=X6n n m a
   have h1:(if d=1 then X2i n c t m else [.mk d c v k t (QJ n m x) (QJ n m y) z]).length<=m.length+3:=by
    split
    .simp[X2i,Wn]
    simp
   simp only[QJ,Nz,List.length_cons,NM,Nat.one_mul];omega
abbrev clG (n:Int) (m:List (Int×Int)):CD:=.fn 36 [.ptr [iC n],.ptr [iC (n+1)],.ptr [.fn 33 []],.ptr [.sl 1 (Xg (m.map (·.1)))],.ptr [.fn 34 []],.ptr [.sl 1 (Xg (m.map (·.2)))]]
set_option maxHeartbeats 16000000 in
theorem X9t (n:Int) (m:List (Int×Int)) (hml:m.length<=12) (l:List St):Xh l<=100000->∀d,Con Tryz.prog 35 false [lS l,.one (.c (clG n m))] (.v (lS (QJ n m l))) none d:=by
 revert l
 apply St.lists;intro l ih hn d;have hlen:=XW l;refine X3 Tryz.func35 ?_;simp only[Tryz.f35];refine X1 ?_;refine X1 ?_;refine X0<|X0<|X2 ?_;refine X4<|(Xf [1,8,9] (fun(y:Nat)=>[(5,.v (.one (.own 1005))),(10,.v (li y))]) (fun y=>[(1005,.row 63 10 (Xe (QJ n m (l.take y))))]) (fun y=>y<=l.length) (fun y=>l.length - y) (0:Nat) (Nf _) ?_ ?_)
 .exact Qs (fun n=>n) [1005] rfl (by simp[*,upS,X7]) (by simp[*,upS,QJ,Xe]) (by simp[upS])
 rintro k hk;simp only[upS,X7,Xy]
 try simp only[X7,KN,Nat.reduceBEq,Nd,Nb,ins,Nat.reduceLT]
 refine X1 ?_;refine X0<|(X6 rfl (fun h5=>Xc ?_) (fun h5=>?_))
 ·(try simp only[BN]at h5);have hlt:k<l.length:=by simpa using h5
  obtain⟨s,he,hd⟩:=XF hlt;have hw1:=XB hlt (by omega);have hk1:k+1<=l.length:=hlt;have hmem:s∈l:=N3 he;have hnm:=Qe hmem;have iha:=(ih s hmem).1;have ihb:=(ih s hmem).2;have he':=Qo he;have htk:l.take (k+1)=l.take k++[s]:=by rw[List.take_add_one,he];rfl
  have hgl:=X6n n m (l.take k);have hgk:(l.take k).length*(m.length+3)<=100000*15:=Nat.mul_le_mul (by rw[Nt];omega) (by omega);obtain⟨sd,sc,sv,sn,t,sa,sb,sbs⟩:=s;have cg:=fun d=>grp4_con sd sc sv sn t sa sb sbs n m (by omega) d;obtain⟨so,stn,sks⟩:=t;simp only[St.then_,St.else_]at iha ihb hnm;have iha:=iha (by omega);have ihb:=ihb (by omega);simp only[St.enc,Tm.enc,List.cons_append,List.nil_append]at he';simp only[aS,St.enc,Tm.enc,Na,Ng,List.cons_append,List.nil_append]at cg
  have hg1:QJ n m (l.take (k+1))=QJ n m (l.take k)++(if sd=1 then X2i n sc (.mk so stn sks) m else [.mk sd sc sv sn (.mk so stn sks) (QJ n m sa) (QJ n m sb) sbs]):=by
   rw[htk,X7d];simp[QJ]
  have hol:(X2i n sc (.mk so stn sks) m).length<=15:=by simp[X2i,Wn];omega
  obtain⟨R,hR⟩:∃r,QJ n m (l.take k)=r:=⟨_,rfl⟩;obtain⟨X,hX⟩:∃r,X2i n sc (.mk so stn sks) m=r:=⟨_,rfl⟩;rw[hR]at hgl hg1;rw[hX]at cg hg1 hol;have hr1:Qy (R.length+X.length) 144:=XC (by omega) (by decide);have hr2:Qy (R.length+1) 144:=XC (by omega) (by decide);clear hlt h5 ih hmem hnm he hd htk hX;refine X0<|X4<|X0<|X2 ?_;refine X0<|X0<|X2 ?_;refine(X9 rfl (fun h8=>?_) fun h8=>?_)
  ·(try simp only[BN]at h8);have hs1:sd=1:=by simpa using h8
   rw[N9 hs1]at hg1;refine Xd [⟨false,.v (lS X),none⟩] ?_ ?_
   .first|exact cg _|exact trivial|simpa[*]using cg _
   refine(Xj ?_);refine X2 ?_;exact⟨k+1,hk1,by omega,Qs (fun n=>if n=1005 then 21 else n) [] rfl (by simp[upS,X7]) (by simp[upS,hg1,X0v]) (by simp[upS])⟩
  (try simp only[BN]at h8);have hs1:¬sd=1:=by simpa using h8
  rw[N6 hs1]at hg1;refine X0<|(Xv [⟨false,.v (lS (QJ n m sa)),none⟩,⟨false,.v (lS (QJ n m sb)),none⟩] (by kernel_rfl) (by kernel_rfl) (by rfl) (by simp[*];first|exact⟨rfl,Iff.rfl⟩|exact⟨rfl,trivial⟩|rfl) ?_ ?_)
  .first|exact⟨iha _,ihb _⟩|exact trivial|(repeat' first|exact trivial|exact iha _|exact ihb _|apply And.intro)
  refine X2 ?_;refine X2 ?_;exact⟨k+1,hk1,by omega,Qs (fun n=>if n=1005 then 35 else n) [] rfl (by simp[upS,X7]) (by simp[upS,hg1,X0v,Xe,St.enc,Tm.enc]) (by simp[upS])⟩
 try simp only[BN]at h5
 have hkl:k=l.length:=by
  have:¬k<l.length:=by simpa using h5
  omega
 subst hkl;rw[List.take_length];clear h5;refine(Xj ?_);refine X1 ?_;exact Xr ⟨.inr rfl,_,XO 1005 rfl,⟨⟨_,by simp[HS.frz,Zy,RV.frz,TV.frz,CV.frz];rfl,by simp[Xp]⟩,by simp,fun h=>by cases h⟩⟩
def Zj (x:Int):Bool:=decide (x< -1048576)||decide (1048576<x)
def outP (p:Int×Int):Bool:=Zj p.1||Zj p.2
def gpF (f:Fl) (a b:List Int) (k:Nat):Fl×Int:=
 if Q2 f=0 then(if a.length=b.length then(if Wt a=true then(if(a.zip b).any outP=true then(fl0,3)else ZB (X1E f (a.zip b) (Zh++Qt k) (Zk++Qt k)))else(fl0,10))else(fl0,2))else(fl0,Q2 f)
def nmR:List (List CD):=[[sC Zh],[sC Zk]]
def exV (k:Nat):List Vr:=[vrG (Zh++Qt k),vrG (Zk++Qt k)]
theorem X5S:∀a b:List Int,a.length=b.length->(a.zip b).map (·.1)=a/\(a.zip b).map (·.2)=b
 |[],[],_=>⟨rfl,rfl⟩
 | x::a,y::b,h=>by
   obtain⟨h1,h2⟩:=X5S a b (by simpa using h);simp[h1,h2]
set_option maxHeartbeats 16000000 in
theorem X6J (f:Fl) (a b:List Int) (k0:Nat) (hk0:k0<100) (h0:X2l f.vars k0=false) (h1:∀k,k<k0->X2l f.vars k=true) (hla:a.length<=12) (hlb:b.length<=12) (hv:f.vars.length<=1000) (hh:f.hats.length<=1000000) (hn:Xh f.body+XV f.hats<=100000) (hb:Qi f.body=true)
  (hgn:Xh (QJ f.vars.length (a.zip b) f.body)+XV f.hats<=900000000) (hgb:Qi (QJ f.vars.length (a.zip b) f.body)=true) (d:Nat):
  Con Tryz.prog 7 false [aF f,lI a,lI b] (.tup [aF (gpF f a b k0).1,li (gpF f a b k0).2]) none d:=by
 have cc:=X1y f (by omega) hh (by omega) hb;have cp:=X5f f (by omega) hh (fun h hm=>by have:=Zs hm;omega) (by omega) hb;have cf:=fun d=>X9b 29 [.ptr f.enc] (X2l f.vars) k0 (by omega) h0 h1 (fun k hk d=>takF_con f k (by omega) (by omega) d) d;have ck:=X3b (X1E f (a.zip b) (Zh++Qt k0) (Zk++Qt k0)) (by simp[X1E];omega) hh hgn hgb;have cg:=fun h=>X9t f.vars.length (a.zip b) h f.body (by omega);have hcr:=(X0S k0 hk0).1;have hco:=(X0S k0 hk0).2.1;obtain⟨res,hres⟩:∃r,gpF f a b k0=r:=⟨_,rfl⟩;rw[hres];unfold gpF at hres;obtain⟨C,hC⟩:∃x,Q2 f=x:=⟨_,rfl⟩;obtain⟨K,hK⟩:∃x,ZB (X1E f (a.zip b) (Zh++Qt k0) (Zk++Qt k0))=x:=⟨_,rfl⟩;rw[hC]at cc hres;rw[hK]at ck hres;clear hC hK h0 h1 hgn hgb hn hb;obtain⟨vars,hats,body⟩:=f;obtain⟨⟨kv,kh,kb⟩,kc⟩:=K;obtain⟨n1,hn1⟩:∃x,(vars.length:Int)+1=x:=⟨_,rfl⟩;have hw1:IntKind.i64.wrap ((vars.length:Int)+1)=n1:=by rw[<-hn1];exact X8 (by simp only at hv;omega) (by simp only at hv;omega)
 simp only[X1E]at hv hh cc cp cf cg ck hres;refine X3 Tryz.func7 ?_;simp only[Tryz.f7];simp only[aF,Fl.enc,Na,Ng]at cc cp ck cf⊢;refine X1 ?_;refine X0<|X0<|(Xl [⟨true,.v (li C),none⟩] ?_ ?_)
 .first|exact cc _|exact trivial|simpa[*]using cc _
 refine X1 ?_;refine(X9 rfl (fun h3=>?_) fun h3=>?_)
 ·(try simp only[BN]at h3);rw[N6 h3]at hres;subst hres;refine X1 ?_;refine Q9 (Wc 6 [.c (.sl 5 []),.c (.sl 6 []),.c (.sl 10 [])] rfl (by(repeat'(first|exact LWk.nil|apply LWk.cons|exact CWk.refl _|exact CWk.nil _)))) ?_;exact Xr ⟨.inr rfl,_,le_refl _,⟨⟨_,by simp;rfl,by simp[Xp,fl0]⟩,by simp,fun h=>by cases h⟩⟩
 (try simp only[BN]at h3);rw[N9 (by simpa using h3)]at hres;clear h3;refine X0<|X0<|X2 ?_;refine(X9 rfl (fun h7=>?_) fun h7=>?_)
 ·(try simp only[BN]at h7);rw[N6 (by intro e;rw[e]at h7;simp at h7)]at hres;subst hres;refine X1 ?_;refine Q9 (Wc 6 [.c (.sl 5 []),.c (.sl 6 []),.c (.sl 10 [])] rfl (by(repeat'(first|exact LWk.nil|apply LWk.cons|exact CWk.refl _|exact CWk.nil _)))) ?_;exact Xr ⟨.inr rfl,_,le_refl _,⟨⟨_,by simp;rfl,by simp[Xp,fl0]⟩,by simp,fun h=>by cases h⟩⟩
 (try simp only[BN]at h7);have hlen:a.length=b.length:=by omega
 rw[N9 hlen]at hres;clear h7;refine X0<|X0<|X2 ?_;refine X4<|(Xf [3,4,5,6] (fun(x:Nat)=>[(9,.v (li ((x:Int)+1)))]) (fun x=>[(3,.box [.c (.sl 5 (Xt vars)),.c (.sl 6 (Xz hats)),.c (.sl 10 (Xe body))]),(4,.box [.c (.sl 1 (Xg a))]),(5,.box [.c (.sl 1 (Xg b))]),(6,.box [.c (.lit XZ),.c (.lit XZ),.c (.lit XZ)])]) (fun x=>x<=a.length/\∀j:Nat,j<x->WG a j=true) (fun x=>a.length - x) (0:Nat) ⟨Nf _,fun j hj=>absurd hj (by omega)⟩ ?_ ?_)
 .exact X5 (fun n=>n) []
 rintro j ⟨hj,hJ⟩;simp only[upS,X7,Xy]
 try simp only[X7,KN,Nat.reduceBEq,Nd,Nb,ins,Nat.reduceLT]
 refine X0<|X0<|X2 ?_;refine(X6 rfl (fun h13=>Xc ?_) (fun h13=>?_))
 ·(try simp only[BN]at h13);have hlt:j+1<a.length:=by omega
  obtain⟨x,hx⟩:=Zr hlt;obtain⟨y,hy⟩:=Zr (show j<a.length by omega);have hwm:IntKind.i64.wrap (j:Int)=j:=X8;have hw2:IntKind.i64.wrap ((j:Int)+1+1)=(j:Int)+1+1:=X8;have hri:WG a j=decide (y<x):=by unfold WG;rw[hx,hy]
  have hj1:0<=(j:Int)+1:=by omega
  have hj2:((j:Int)+1).toNat=j+1:=by omega
  have hk1:j+1<=a.length:=by omega
  have hj9:j<=1000:=by omega
  clear hlt h13;refine X0<|X4<|X0<|(N0 ?_);refine(X9 rfl (fun h15=>?_) fun h15=>?_)
  ·(try simp only[BN]at h15);have hz:Wt a=false:=X3w (i:=j) (by omega) (by rw[hri];simp at h15⊢;omega);rw[N6 (by rw[hz];simp)]at hres;subst hres;refine X1 ?_;refine Q9 (Wc 6 [.c (.sl 5 []),.c (.sl 6 []),.c (.sl 10 [])] rfl (by(repeat'(first|exact LWk.nil|apply LWk.cons|exact CWk.refl _|exact CWk.nil _)))) ?_;exact Xr ⟨.inr rfl,_,le_refl _,⟨⟨_,by simp;rfl,by simp[Xp,fl0]⟩,by simp,fun h=>by cases h⟩⟩
  (try simp only[BN]at h15);refine X2 ?_
  exact⟨j+1,⟨hk1,fun i hi=>by
   rcases Nat.lt_or_eq_of_le (Nat.le_of_lt_succ hi)with h|h
   .exact hJ i (by omega)
   rw[h,hri];simp at h15⊢
   omega⟩,by omega,X5 (fun n=>n) []⟩
 (try simp only[BN]at h13);have hz:Wt a=true:=X0V fun i hi=>hJ i (by omega);rw[N9 hz]at hres;clear hJ hj h13 hz;refine(Xj ?_);refine X0<|X0<|X2 ?_;refine X4<|(Xf [3,4,5,6,48] (fun(x:Nat)=>[(49,.v (li x))]) (fun x=>[(3,.box [.c (.sl 5 (Xt vars)),.c (.sl 6 (Xz hats)),.c (.sl 10 (Xe body))]),(4,.box [.c (.sl 1 (Xg a))]),(5,.box [.c (.sl 1 (Xg b))]),(6,.box [.c (.lit XZ),.c (.lit XZ),.c (.lit XZ)])]) (fun x=>x<=a.length/\((a.zip b).take x).any outP=false) (fun x=>a.length - x) (0:Nat) ⟨Nf _,by simp⟩ ?_ ?_)
 .exact X5 (fun n=>n) []
 rintro k ⟨hk,hJ⟩;simp only[upS,X7,Xy]
 try simp only[X7,KN,Nat.reduceBEq,Nd,Nb,ins,Nat.reduceLT]
 refine X1 ?_;refine X0<|(X6 rfl (fun h23=>Xc ?_) (fun h23=>?_))
 ·(try simp only[BN]at h23);have hlt:k<a.length:=by omega
  obtain⟨x,hx⟩:=Zr hlt;obtain⟨y,hy⟩:=Zr (show k<b.length by omega);have hw2:=XB hlt (by omega);have hzk:(a.zip b)[k]? =some (x,y):=List.getElem?_zip_eq_some.2 ⟨hx,hy⟩;have htk:(a.zip b).take (k+1)=(a.zip b).take k++[(x,y)]:=by rw[List.take_add_one,hzk];rfl
  have hk1:k+1<=a.length:=hlt;clear hlt h23;refine X0<|X4<|X0<|X2 ?_;refine X0<|(N0 ?_);refine(X9 rfl (fun h26=>?_) fun h26=>?_)
  .try simp only[BN]at h26
   have hz:outP (x,y)=true:=by
    simp only[outP,Zj,Ni,N5];split at h26<;>split at h26<;>omega
   rw[N9 (List.any_eq_true.2 ⟨(x,y),N3 hzk,hz⟩)]at hres;subst hres;refine X1 ?_;refine Q9 (Wc 6 [.c (.sl 5 []),.c (.sl 6 []),.c (.sl 10 [])] rfl (by(repeat'(first|exact LWk.nil|apply LWk.cons|exact CWk.refl _|exact CWk.nil _)))) ?_;exact Xr ⟨.inr rfl,_,le_refl _,⟨⟨_,by simp;rfl,by simp[Xp,fl0]⟩,by simp,fun h=>by cases h⟩⟩
  (try simp only[BN]at h26);refine X2 ?_
  exact⟨k+1,⟨hk1,by
   have hz:outP (x,y)=false:=by
    simp only[outP,Zj,NC,Nc];split at h26<;>split at h26<;>omega
   rw[htk,List.any_append,hJ]
   simp[hz]⟩,by omega,X5 (fun n=>n) []⟩
 (try simp only[BN]at h23);have hka:(a.zip b).take k=a.zip b:=List.take_of_length_le (by simp;omega);rw[hka]at hJ;rw[N6 (by rw[hJ];simp)]at hres;clear hJ hka h23 hk;subst hres;refine(Xj ?_);refine Xd [⟨false,.v (.agg [.own 77,.c (.sl 6 (Xz hats)),.c (.sl 10 (Xe body))]),some (.row 60 5 (Xt vars))⟩] ?_ ?_
 .first|exact cp|exact trivial|simpa[*]using cp
 refine Xd [⟨true,.v (li k0),none⟩] ?_ ?_
 .first|exact cf _|exact trivial|simpa[*]using cf _
 refine Q9 (s':=⟨⟨112,none⟩,[(3,.v (.one (.at_ 3 0))),(4,.v (.one (.at_ 4 0))),(5,.v (.one (.at_ 5 0))),(6,.v (.one (.at_ 6 0))),(11,.v (li k0))],[(3,.box [.own 77,.c (.sl 6 (Xz hats)),.c (.sl 10 (Xe body))]),(4,.box [.c (.sl 1 (Xg a))]),(5,.box [.c (.sl 1 (Xg b))]),(6,.box [.c (.lit XZ),.c (.lit XZ),.c (.lit XZ)]),(77,.row 60 5 (Xt vars))]⟩) (Qs (fun n=>n) [] rfl (by simp) (by simp) (by simp)) ?_;refine X0<|(X23 (fun D=>⟨⟨112,none⟩,(3,.v (.one (.at_ 3 0)))::(4,.v (.one (.at_ 4 0)))::(5,.v (.one (.at_ 5 0)))::(6,.v (.one (.at_ 6 0)))::(11,.v (li k0))::oL (D 7) (12,.v (.one (.at_ 12 0))) (oL (D 8) (13,.v (.one (.at_ 13 0))) (oL (D 0) (80,.v (.one (.at_ 3 0))) (oL (D 1) (81,.v (.one (.own 77))) (oL (D 2) (82,.v (li vars.length)) (oL (D 3) (83,.v (.one (.at_ 3 0))) (oL (D 4) (84,.v (.one (.own 77))) (oL (D 5) (85,.v (li vars.length)) (oL (D 6) (86,.v (li n1)) ([]))))))))),(3,.box [.own 77,.c (.sl 6 (Xz hats)),.c (.sl 10 (Xe body))])::(4,.box [.c (.sl 1 (Xg a))])::(5,.box [.c (.sl 1 (Xg b))])::(6,.box [.c (.lit XZ),.c (.lit XZ),.c (.lit XZ)])::oL (D 7) (12,.box [.c (if D 9=true then iC vars.length else iC 0)]) (oL (D 8) (13,.box [.c (if D 10=true then iC n1 else iC 0)]) ((77,.row 60 5 (Xt vars))::[]))⟩) [(0,[],[1,2,9,10]),(1,[0],[2,9,10]),(2,[0,1],[9,10]),(3,[],[4,5,6,10]),(4,[3],[5,6,10]),(5,[3,4],[6,10]),(6,[3,4,5],[10]),(7,[],[9,10]),(8,[],[9,10]),(9,[0,1,2,7,8],[10]),(10,[0,1,2,3,4,5,6,7,8,9],[])] rfl (by kernel_rfl) (by kernel_rfl) (WD (by simp)) (fun D=>⟨?_,?_,?_,?_,?_,?_,?_,?_,?_,?_,?_,trivial⟩) ?_)
 all_goals try(intro h0 h1 h2;simp only[allM]at h1 h2)
 all_goals try(refine Qa.evZ [] rfl (by simp[h0,h1,h2,hw1];rfl) trivial ?_;exact WD (by simp[h0,h1,h2]))
 refine Q9 (s':=⟨⟨112,none⟩,[(3,.v (.one (.at_ 3 0))),(4,.v (.one (.at_ 4 0))),(5,.v (.one (.at_ 5 0))),(6,.v (.one (.at_ 6 0))),(11,.v (li k0)),(12,.v (.one (.at_ 12 0))),(13,.v (.one (.at_ 13 0)))],[(3,.box [.own 77,.c (.sl 6 (Xz hats)),.c (.sl 10 (Xe body))]),(4,.box [.c (.sl 1 (Xg a))]),(5,.box [.c (.sl 1 (Xg b))]),(6,.box [.c (.lit XZ),.c (.lit XZ),.c (.lit XZ)]),(12,.box [.c (iC vars.length)]),(13,.box [.c (iC n1)]),(77,.row 60 5 (Xt vars))]⟩) (Qs (fun n=>n) [] rfl (by simp) (by simp) (by simp)) ?_;refine X0<|X0<|X2 ?_;refine X4<|(Xf [3,4,5,6,11,12,13,87,88] (fun(y:Nat)=>[(89,.v (li y))]) (fun y=>[(3,.box [.own 1077,.c (.sl 6 (Xz hats)),.c (.sl 10 (Xe body))]),(4,.box [.c (.sl 1 (Xg a))]),(5,.box [.c (.sl 1 (Xg b))]),(6,.box [.c (.lit XZ),.c (.lit XZ),.c (.lit XZ)]),(12,.box [.c (iC vars.length)]),(13,.box [.c (iC n1)]),(87,.row 9 1 nmR),(1077,.row 60 5 (Xt (vars++(exV k0).take y)))]) (fun y=>y<=2) (fun y=>2 - y) (0:Nat) (Nf _) ?_ ?_)
 .exact Qs (fun n=>if n=1077 then 77 else n) [] rfl (by simp[*,upS,X7]) (by simp[*,upS,nmR,Zh,Zk]) (by simp[upS])
 rintro y hy;simp only[upS,X7,Xy]
 try simp only[X7,KN,Nat.reduceBEq,Nd,Nb,ins,Nat.reduceLT]
 obtain⟨X,hX⟩:∃l,vars++(exV k0).take y=l:=⟨_,rfl⟩;rw[hX];refine X1 ?_;refine X0<|(X6 rfl (fun h37=>Xc ?_) (fun h37=>?_))
 ·(try simp only[BN]at h37);have hlt:y<2:=by omega
  obtain⟨nm,hnm,hcat,htk⟩:∃nm:ByteArray,nmR[y]? =some [sC nm]/\catB nm (Qt k0)=true/\(exV k0).take (y+1)=(exV k0).take y++[vrG (nm++Qt k0)]:=by
   match y,hlt with
   |0,_=>exact⟨Zh,rfl,hcr,rfl⟩
   |1,_=>exact⟨Zk,rfl,hco,rfl⟩
  have hw2:=XB hlt (by omega);have hk1:y+1<=2:=hlt;have cn:=X4h nm k0 hk0 hcat;have hXl:X.length<=1002:=by rw[<-hX];simp;omega
  have hroom:Qy (X.length+1) 48:=XC (by omega) (by decide);clear hlt h37;refine X0<|X4<|X0<|X2 ?_;refine(Xv [⟨true,.v (.one (.c (sC (nm++Qt k0)))),none⟩] (by kernel_rfl) (by kernel_rfl) (by rfl) (by simp[*,hroom,XG,Ql,XT,cellsOf,Qx,QC,Wg,Qw,QB,Qq];first|exact⟨rfl,Iff.rfl⟩|exact⟨rfl,trivial⟩|rfl) ?_ ?_)
  .first|exact cn _|exact trivial|simpa[*,hroom,XG,Ql,XT,cellsOf,Qx,QC,Wg,Qw,QB,Qq]using cn _
  refine X2 ?_;exact⟨y+1,hk1,by omega,Qs (fun n=>if n=1077 then 100 else n) [] rfl (by simp[upS,X7]) (by simp[upS,htk,Xt,vrG,Vr.enc,<-hX]) (by simp[upS])⟩
 (try simp only[BN]at h37);have hy2:y=2:=by omega
 subst hy2;have hX2:X=vars++[vrG (Zh++Qt k0),vrG (Zk++Qt k0)]:=by rw[<-hX];rfl
 clear hX h37;obtain⟨hz1,hz2⟩:=X5S a b hlen;have cg:=cg (by simp;omega);simp only[clG,hz1,hz2,hn1]at cg;rw[<-hX2]at ck;refine(Xj ?_);refine X1 ?_;refine X1 ?_
 refine Q9 (s':=⟨⟨112,none⟩,[(3,.v (.one (.at_ 3 0))),(4,.v (.one (.c (.ptr [.sl 1 (Xg a)])))),(5,.v (.one (.c (.ptr [.sl 1 (Xg b)])))),(6,.v (.one (.at_ 6 0))),(12,.v (.one (.c (.ptr [iC vars.length])))),(13,.v (.one (.c (.ptr [iC n1])))),(16,.v (.one (.c (.ptr [.fn 33 []])))),(17,.v (.one (.c (.ptr [.fn 34 []]))))],[(3,.box [.own 1077,.c (.sl 6 (Xz hats)),.c (.sl 10 (Xe body))]),(6,.box [.c (.lit XZ),.c (.lit XZ),.c (.lit XZ)]),(1077,.row 60 5 (Xt X))]⟩)
  (le_trans (X18 4 rfl rfl rfl) (le_trans (X18 5 rfl rfl rfl) (le_trans (X18 12 rfl rfl rfl) (le_trans (X18 13 rfl rfl rfl) (le_trans (le_trans (X60 (ys:=[.c (.fn 33 [])]) 16 rfl (by simp[nlV])) (X18 16 rfl rfl rfl)) (le_trans (le_trans (X60 (ys:=[.c (.fn 34 [])]) 17 rfl (by simp[nlV])) (X18 17 rfl rfl rfl)) (Qs (fun n=>n) [] rfl (by simp[HS.frz,Zy,RV.frz,TV.frz,CV.frz,Ob.frz,del]) (by simp[HS.frz,Zy,RV.frz,TV.frz,CV.frz,Ob.frz,del,rwO,hX2]) (by simp)))))))) ?_
 refine Xd [⟨false,.v (lS (QJ vars.length (a.zip b) body)),none⟩] ?_ ?_
 .first|exact cg _|exact trivial|simpa[*]using cg _
 refine Q9 (XO 1077 rfl) ?_;refine Xd [⟨false,.tup [.agg [.c (.sl 5 (Xt kv)),.c (.sl 6 (Xz kh)),.c (.sl 10 (Xe kb))],li kc],none⟩] ?_ ?_
 .first|exact ck _|exact trivial|simpa[*]using ck _
 exact Xr ⟨.inr rfl,_,le_refl _,⟨⟨_,by simp;rfl,by simp[Xp]⟩,by simp,fun h=>by cases h⟩⟩
theorem X7a (n:Int) (m:List (Int×Int)):∀a b:List St,Qr n m (a++b)=Qr n m a++Qr n m b
 |[],_=>by simp[Qr]
 | .mk d c v k t x y z::a,b=>by simp only[List.cons_append,Qr,X7a n m a b,Dc]
theorem X6g (n:Int) (m:List (Int×Int)):∀a:List St,(Qr n m a).length<=a.length*(m.length+3)
 |[]=>by simp[Qr]
 | .mk d c v k t x y z::a=>by
   have h:=X6g n m a
   have h1:(if d=1 then asg n t::asg (n+1) (WI n)::(QV n m++[.mk d c v k (WI (n+1)) (Qr n m x) (Qr n m y) z])else [.mk d c v k t (Qr n m x) (Qr n m y) z]).length<=m.length+3:=by
    split
    .simp[Wn]
    simp
   simp only[Qr,Nz,List.length_cons,NM,Nat.one_mul];omega
abbrev mkG (n n1:Int) (m:List (Int×Int)):List (Nat×Ob):=[(1000001,.box [.fn 43 [(1000001,0),(1000002,0),(1000003,0),(1000004,0),(1000005,0),(1000006,0)]]),(1000002,.box [.c (iC n)]),(1000003,.box [.c (iC 24),.c (iC n),.c (.sl 3 [])]),(1000004,.box [.c (.sl 1 (Xg (m.map (·.1))))]),(1000005,.box [.c (.sl 1 (Xg (m.map (·.2))))]),(1000006,.box [.c (iC 24),.c (iC n1),.c (.sl 3 [])])]
set_option maxHeartbeats 32000000 in
theorem X5y (n n1:Int) (hn1:n+1=n1) (hw:IntKind.i64.wrap (n+1)=n1) (m:List (Int×Int)) (hml:m.length<=12) (l:List St):Xh l<=100000->
  ConN Tryz.prog 43 none (mkG n n1 m) [lS l,.one (.at_ 1000001 0),.one (.at_ 1000002 0),.one (.at_ 1000003 0),.one (.at_ 1000004 0),.one (.at_ 1000005 0),.one (.at_ 1000006 0)] (fun _:Unit=>True) (fun _=>.v (lS (Qr n m l))) (fun _=>mkG n n1 m):=by
 revert l
 apply St.lists;intro l ih hn;have hlen:=XW l;have hwn:IntKind.i64.wrap n1=n1:=by rw[hn1]at hw;exact hw
 refine X6Z Tryz.func43 rfl (by kernel_rfl) (Dj rfl) (fun k cs h=>by
  simp only[lkp]at h
  repeat'(split at h; · omega)
  cases h) (fun v h=>by cases h) ?_
 simp only[Tryz.f43];refine X1 ?_;refine X1 ?_;refine X0<|X0<|X2 ?_;refine X4<|(Xf [1,2,3,4,5,6,15,16] (fun(y:Nat)=>[(9,.v (.one (.own 1009))),(17,.v (li y))]) (fun y=>(1009,.row 63 10 (Xe (Qr n m (l.take y))))::mkG n n1 m) (fun y=>y<=l.length) (fun y=>l.length - y) (0:Nat) (Nf _) ?_ ?_)
 .exact Qs (fun n=>if n=1009 then 14 else n) [] rfl (by simp[*,upS,X7,WA]) (by simp[*,upS,Qr,Xe]) (by simp[upS])
 rintro k hk;simp only[upS,X7,Xy]
 try simp only[X7,KN,Nat.reduceBEq,Nd,Nb,ins,Nat.reduceLT]
 refine X1 ?_;refine X0<|(X6 rfl (fun h5=>Xc ?_) (fun h5=>?_))
 ·(try simp only[BN]at h5);have hlt:k<l.length:=by omega
  obtain⟨s,he,hd⟩:=XF hlt;have hw1:=XB hlt (by omega);have hk1:k+1<=l.length:=hlt;have hmem:s∈l:=N3 he;have hnm:=Qe hmem;have iha:=(ih s hmem).1;have ihb:=(ih s hmem).2;have he':=Qo he;have htk:l.take (k+1)=l.take k++[s]:=by rw[List.take_add_one,he];rfl
  have hgl:=X6g n m (l.take k);have hgk:(l.take k).length*(m.length+3)<=100000*15:=Nat.mul_le_mul (by rw[Nt];omega) (by omega);obtain⟨sd,sc,sv,sn,⟨so,stn,sks⟩,sa,sb,sbs⟩:=s;simp only[St.then_,St.else_]at iha ihb hnm;have iha:=iha (by omega);have ihb:=ihb (by omega);simp only[St.enc,Tm.enc,List.cons_append,List.nil_append]at he'
  have hg1:Qr n m (l.take (k+1))=Qr n m (l.take k)++(if sd=1 then asg n (.mk so stn sks)::asg (n+1) (WI n)::(QV n m++[.mk sd sc sv sn (WI (n+1)) (Qr n m sa) (Qr n m sb) sbs])else [.mk sd sc sv sn (.mk so stn sks) (Qr n m sa) (Qr n m sb) sbs]):=by
   rw[htk,X7a];simp[Qr]
  obtain⟨W,hW⟩:∃r,Qr n m (l.take k)=r:=⟨_,rfl⟩;rw[hW]at hgl hg1;obtain⟨R,hR⟩:∃r,Xe W=r:=⟨_,rfl⟩;have hRl:R.length=W.length:=by rw[<-hR,X5k]
  have hr1:Qy (R.length+1) 144:=XC (by omega) (by decide);have hr2:Qy (R.length+2) 144:=XC (by omega) (by decide);have hWl:W.length<=1500000:=by omega
  clear hRl;clear hlt h5 ih hmem hnm he hd htk;refine X0<|X4<|X0<|X2 ?_;refine Q9 (s':=⟨⟨82,none⟩,[(1,.v (.one (.at_ 1000001 0))),(2,.v (.one (.at_ 1000002 0))),(3,.v (.one (.at_ 1000003 0))),(4,.v (.one (.at_ 1000004 0))),(5,.v (.one (.at_ 1000005 0))),(6,.v (.one (.at_ 1000006 0))),(9,.v (.one (.own 1009))),(11,.v (.one (.at_ 11 0))),(15,.v (lS l)),(16,.v (li l.length)),(17,.v (li k))],[(11,.box [.c (iC sd),.c (iC sc),.c (iC sv),.c (iC sn),.c (iC so),.c (iC stn),.c (.sl 3 (XH sks)),.c (.sl 10 (Xe sa)),.c (.sl 10 (Xe sb)),.c (.sl 1 (Xg sbs))]),(1009,.row 63 10 R),(1000001,.box [.fn 43 [(1000001,0),(1000002,0),(1000003,0),(1000004,0),(1000005,0),(1000006,0)]]),(1000002,.box [.c (iC n)]),(1000003,.box [.c (iC 24),.c (iC n),.c (.sl 3 [])]),(1000004,.box [.c (.sl 1 (Xg (m.map (·.1))))]),(1000005,.box [.c (.sl 1 (Xg (m.map (·.2))))]),(1000006,.box [.c (iC 24),.c (iC n1),.c (.sl 3 [])])]⟩) (Qs (fun n=>n) [] rfl (by simp[upS,X7]) (by simp[upS,hR,hW]) (by simp)) ?_;refine X0<|(X23 (fun D=>⟨⟨82,none⟩,(1,.v (.one (.at_ 1000001 0)))::(2,.v (.one (.at_ 1000002 0)))::(3,.v (.one (.at_ 1000003 0)))::(4,.v (.one (.at_ 1000004 0)))::(5,.v (.one (.at_ 1000005 0)))::(6,.v (.one (.at_ 1000006 0)))::(9,.v (.one (.own 1009)))::(11,.v (.one (.at_ 11 0)))::(15,.v (lS l))::(16,.v (li l.length))::(17,.v (li k))::oL (D 0) (21,.v (.one (.fn 43 [(1000001,0),(1000002,0),(1000003,0),(1000004,0),(1000005,0),(1000006,0)]))) (oL (D 1) (22,.v (.one (.at_ 11 7))) (oL (D 2) (23,.v (lS sa)) (oL (D 3) (24,.v (lS (Qr n m sa))) (oL (D 4) (25,.v (.one (.fn 43 [(1000001,0),(1000002,0),(1000003,0),(1000004,0),(1000005,0),(1000006,0)]))) (oL (D 5) (26,.v (.one (.at_ 11 8))) (oL (D 6) (27,.v (lS sb)) (oL (D 7) (28,.v (lS (Qr n m sb))) (oL (D 8) (29,.v (.one (.at_ 11 7))) (oL (D 10) (30,.v (.one (.at_ 11 8))) ([])))))))))),(11,.box [.c (iC sd),.c (iC sc),.c (iC sv),.c (iC sn),.c (iC so),.c (iC stn),.c (.sl 3 (XH sks)),.c (if D 9=true then .sl 10 (Xe (Qr n m sa))else .sl 10 (Xe sa)),.c (if D 11=true then .sl 10 (Xe (Qr n m sb))else .sl 10 (Xe sb)),.c (.sl 1 (Xg sbs))])::(1009,.row 63 10 R)::(1000001,.box [.fn 43 [(1000001,0),(1000002,0),(1000003,0),(1000004,0),(1000005,0),(1000006,0)]])::(1000002,.box [.c (iC n)])::(1000003,.box [.c (iC 24),.c (iC n),.c (.sl 3 [])])::(1000004,.box [.c (.sl 1 (Xg (m.map (·.1))))])::(1000005,.box [.c (.sl 1 (Xg (m.map (·.2))))])::(1000006,.box [.c (iC 24),.c (iC n1),.c (.sl 3 [])])::[]⟩) [(0,[],[3,7,8,9,10,11]),(1,[],[2,3,7,8,9,10,11]),(2,[1],[3,7,8,9,10,11]),(3,[0,1,2],[7,8,9,10,11]),(4,[],[7,9,10,11]),(5,[],[6,7,8,9,10,11]),(6,[5],[7,8,9,10,11]),(7,[0,1,2,3,4,5,6],[9,10,11]),(8,[0,1,2,3,5,6],[9,10,11]),(9,[0,1,2,3,4,5,6,7,8],[10,11]),(10,[0,1,2,3,4,5,6,7,8,9],[11]),(11,[0,1,2,3,4,5,6,7,8,9,10],[])] rfl (by kernel_rfl) (by kernel_rfl) (WD (by simp)) (fun D=>⟨?_,?_,?_,?_,?_,?_,?_,?_,?_,?_,?_,?_,trivial⟩) ?_)
  all_goals try(intro h0 h1 h2;simp only[allM]at h1 h2)
  case refine_4=>(refine Qa.callA (hd0:=by(refine Z8 ?_ ?_ ?_ ?_ ?_<;>simp[h0,h1,h2,rbB,X0A,Wj,CV.ren,Ob.ren])) (hd:=by(intro _ _;refine Z8 ?_ ?_ ?_ ?_ ?_<;>simp[h0,h1,h2,rbB,X0A,Wj,CV.ren,Ob.ren])) (hg:=by(simp[gOfN,X3n,X0N,catT,TV.ren,CV.ren,h0,h1,h2];rfl)) (fun n=>n) (fun n=>n) iha rfl (fun _ _=>?_);exact WD (by simp[h0,h1,h2,X02,WB,CV.ren,Ob.ren]))
  case refine_8=>(refine Qa.callA (hd0:=by(refine Z8 ?_ ?_ ?_ ?_ ?_<;>simp[h0,h1,h2,rbB,X0A,Wj,CV.ren,Ob.ren])) (hd:=by(intro _ _;refine Z8 ?_ ?_ ?_ ?_ ?_<;>simp[h0,h1,h2,rbB,X0A,Wj,CV.ren,Ob.ren])) (hg:=by(simp[gOfN,X3n,X0N,catT,TV.ren,CV.ren,h0,h1,h2];rfl)) (fun n=>n) (fun n=>n) ihb rfl (fun _ _=>?_);exact WD (by simp[h0,h1,h2,X02,WB,CV.ren,Ob.ren]))
  all_goals try(refine Qa.evZ [] rfl (by simp[h0,h1,h2];rfl) trivial ?_;exact WD (by simp[h0,h1,h2]))
  refine Q9 (s':=⟨⟨82,none⟩,[(1,.v (.one (.at_ 1000001 0))),(2,.v (.one (.at_ 1000002 0))),(3,.v (.one (.at_ 1000003 0))),(4,.v (.one (.at_ 1000004 0))),(5,.v (.one (.at_ 1000005 0))),(6,.v (.one (.at_ 1000006 0))),(9,.v (.one (.own 1009))),(11,.v (.one (.at_ 11 0))),(15,.v (lS l)),(16,.v (li l.length)),(17,.v (li k))],[(11,.box [.c (iC sd),.c (iC sc),.c (iC sv),.c (iC sn),.c (iC so),.c (iC stn),.c (.sl 3 (XH sks)),.c (.sl 10 (Xe (Qr n m sa))),.c (.sl 10 (Xe (Qr n m sb))),.c (.sl 1 (Xg sbs))]),(1009,.row 63 10 R),(1000001,.box [.fn 43 [(1000001,0),(1000002,0),(1000003,0),(1000004,0),(1000005,0),(1000006,0)]]),(1000002,.box [.c (iC n)]),(1000003,.box [.c (iC 24),.c (iC n),.c (.sl 3 [])]),(1000004,.box [.c (.sl 1 (Xg (m.map (·.1))))]),(1000005,.box [.c (.sl 1 (Xg (m.map (·.2))))]),(1000006,.box [.c (iC 24),.c (iC n1),.c (.sl 3 [])])]⟩) (Qs (fun n=>n) [] rfl (by simp) (by simp) (by simp)) ?_;clear iha ihb;refine X0<|X0<|X2 ?_;refine(X9 rfl (fun h9=>?_) fun h9=>?_)
  ·(try simp only[BN]at h9);have hs1:sd=1:=by first|exact h9|simpa using h9
   rw[N9 hs1]at hg1;subst hs1;clear h9;refine X0<|(XI (by simp[*,hr2,hw,XG,Ql,XT,cellsOf,Qx,QC,Wg,Qw,QB,Qq];rfl) ?_);refine X0<|X0<|X2 ?_;refine X4<|(Xf [1,2,3,4,5,6,11,15,16,17,46] (fun(y:Nat)=>[(9,.v (.one (.own 1010))),(47,.v (li y))]) (fun y=>(11,.box [.c (iC 1),.c (iC sc),.c (iC sv),.c (iC sn),.c (iC so),.c (iC stn),.c (.sl 3 (XH sks)),.c (.sl 10 (Xe (Qr n m sa))),.c (.sl 10 (Xe (Qr n m sb))),.c (.sl 1 (Xg sbs))])::(1010,.row 63 10 (Xe (W++hdG n (.mk so stn sks) (m.take y))))::mkG n n1 m) (fun y=>y<=m.length) (fun y=>m.length - y) (0:Nat) (Nf _) ?_ ?_)
   .exact le_trans (X3U (rows':=Xe (W++hdG n (.mk so stn sks) [])) 44 rfl (by rw[X0v,hR];exact X1T _ (by simp[hdG,QV,asg,WI,X3o,Xe,St.enc,Tm.enc,XH,Xg,nlR,nlL,hn1]))) (Qs (fun n=>if n=1010 then 44 else n) [] rfl (by simp[upS,X7,rwO]) (by simp[upS,rwO]) (by simp[upS]))
   rintro j hj;simp only[upS,X7,Xy]
   try simp only[X7,KN,Nat.reduceBEq,Nd,Nb,ins,Nat.reduceLT]
   refine X1 ?_;refine X0<|(X6 rfl (fun h14=>Xc ?_) (fun h14=>?_))
   ·(try simp only[BN]at h14);have hlt:j<m.length:=by omega
    obtain⟨⟨x,y⟩,he,hd⟩:=XF hlt;have hw3:=XB hlt (by omega);have hj1:j+1<=m.length:=hlt;have htk:m.take (j+1)=m.take j++[(x,y)]:=by rw[List.take_add_one,he];rfl
    have he1:(Xg (m.map (·.1)))[j]? =some [iC x]:=by simp[he]
    have he2:(Xg (m.map (·.2)))[j]? =some [iC y]:=by simp[he]
    obtain⟨R2,hR2⟩:∃r,Xe (W++hdG n (.mk so stn sks) (m.take j))=r:=⟨_,rfl⟩
    have hR2l:R2.length<=W.length+14:=by
     rw[<-hR2,X5k];simp[hdG,Wn];omega
    have hr3:Qy (R2.length+1) 144:=XC (by omega) (by decide);clear hlt h14 he hd;refine X0<|X4<|X0<|X2 ?_;refine Q9 (s':=⟨⟨82,none⟩,[(1,.v (.one (.at_ 1000001 0))),(2,.v (.one (.at_ 1000002 0))),(3,.v (.one (.at_ 1000003 0))),(4,.v (.one (.at_ 1000004 0))),(5,.v (.one (.at_ 1000005 0))),(6,.v (.one (.at_ 1000006 0))),(9,.v (.one (.own 1010))),(11,.v (.one (.at_ 11 0))),(12,.v (li j)),(15,.v (lS l)),(16,.v (li l.length)),(17,.v (li k)),(46,.v (li m.length)),(47,.v (li j))],[(11,.box [.c (iC 1),.c (iC sc),.c (iC sv),.c (iC sn),.c (iC so),.c (iC stn),.c (.sl 3 (XH sks)),.c (.sl 10 (Xe (Qr n m sa))),.c (.sl 10 (Xe (Qr n m sb))),.c (.sl 1 (Xg sbs))]),(1010,.row 63 10 R2),(1000001,.box [.fn 43 [(1000001,0),(1000002,0),(1000003,0),(1000004,0),(1000005,0),(1000006,0)]]),(1000002,.box [.c (iC n)]),(1000003,.box [.c (iC 24),.c (iC n),.c (.sl 3 [])]),(1000004,.box [.c (.sl 1 (Xg (m.map (·.1))))]),(1000005,.box [.c (.sl 1 (Xg (m.map (·.2))))]),(1000006,.box [.c (iC 24),.c (iC n1),.c (.sl 3 [])])]⟩) (Qs (fun n=>n) [] rfl (by simp[upS,X7]) (by simp[upS,hR2]) (by simp)) ?_;refine X0<|(X23 (fun D=>⟨⟨82,none⟩,(1,.v (.one (.at_ 1000001 0)))::(2,.v (.one (.at_ 1000002 0)))::(3,.v (.one (.at_ 1000003 0)))::(4,.v (.one (.at_ 1000004 0)))::(5,.v (.one (.at_ 1000005 0)))::(6,.v (.one (.at_ 1000006 0)))::(9,.v (.one (.own 1010)))::(11,.v (.one (.at_ 11 0)))::(12,.v (li j))::oL (D 16) (13,.v (.one (.at_ 13 0))) ((15,.v (lS l))::(16,.v (li l.length))::(17,.v (li k))::(46,.v (li m.length))::(47,.v (li j))::oL (D 0) (50,.v (.agg [.c (iC 24),.c (iC n),.c (.sl 3 [])])) (oL (D 1) (51,.v (lI (m.map (·.1)))) (oL (D 2) (52,.v (li j)) (oL (D 3) (53,.v (.one (.c (.ptr [iC x])))) (oL (D 4) (54,.v (li x)) (oL (D 5) (55,.v (.agg [.c (iC 0),.c (iC x),.c (.sl 3 [])])) (oL (D 6) (56,.v (.one (.c (.sl 3 [[iC 24,iC n,.sl 3 []],[iC 0,iC x,.sl 3 []]])))) (oL (D 7) (57,.v (.agg [.c (iC 13),.c (iC 0),.c (.sl 3 [[iC 24,iC n,.sl 3 []],[iC 0,iC x,.sl 3 []]])])) (oL (D 8) (58,.v (lI (m.map (·.2)))) (oL (D 9) (59,.v (li j)) (oL (D 10) (60,.v (.one (.c (.ptr [iC y])))) (oL (D 11) (61,.v (li y)) (oL (D 12) (62,.v (.agg [.c (iC 0),.c (iC y),.c (.sl 3 [])])) (oL (D 13) (63,.v (.agg [.c (iC 24),.c (iC n1),.c (.sl 3 [])])) (oL (D 14) (64,.v (.one (.c (.sl 3 [[iC 13,iC 0,.sl 3 [[iC 24,iC n,.sl 3 []],[iC 0,iC x,.sl 3 []]]],[iC 0,iC y,.sl 3 []],[iC 24,iC n1,.sl 3 []]])))) (oL (D 15) (65,.v (.agg [.c (iC 23),.c (iC 0),.c (.sl 3 [[iC 13,iC 0,.sl 3 [[iC 24,iC n,.sl 3 []],[iC 0,iC x,.sl 3 []]]],[iC 0,iC y,.sl 3 []],[iC 24,iC n1,.sl 3 []]])])) ([]))))))))))))))))),(11,.box [.c (iC 1),.c (iC sc),.c (iC sv),.c (iC sn),.c (iC so),.c (iC stn),.c (.sl 3 (XH sks)),.c (.sl 10 (Xe (Qr n m sa))),.c (.sl 10 (Xe (Qr n m sb))),.c (.sl 1 (Xg sbs))])::oL (D 16) (13,.box (if D 17=true then [.c (iC 23),.c (iC 0),.c (.sl 3 [[iC 13,iC 0,.sl 3 [[iC 24,iC n,.sl 3 []],[iC 0,iC x,.sl 3 []]]],[iC 0,iC y,.sl 3 []],[iC 24,iC n1,.sl 3 []]])] else [.c (iC 0),.c (iC 0),.c (.lit XZ)])) ((1010,.row 63 10 R2)::(1000001,.box [.fn 43 [(1000001,0),(1000002,0),(1000003,0),(1000004,0),(1000005,0),(1000006,0)]])::(1000002,.box [.c (iC n)])::(1000003,.box [.c (iC 24),.c (iC n),.c (.sl 3 [])])::(1000004,.box [.c (.sl 1 (Xg (m.map (·.1))))])::(1000005,.box [.c (.sl 1 (Xg (m.map (·.2))))])::(1000006,.box [.c (iC 24),.c (iC n1),.c (.sl 3 [])])::[])⟩) [(0,[],[6,7,14,15,17]),(1,[],[3,4,5,6,7,14,15,17]),(2,[],[3,4,5,6,7,14,15,17]),(3,[1,2],[4,5,6,7,14,15,17]),(4,[1,2,3],[5,6,7,14,15,17]),(5,[1,2,3,4],[6,7,14,15,17]),(6,[0,1,2,3,4,5],[7,14,15,17]),(7,[0,1,2,3,4,5,6],[14,15,17]),(8,[],[10,11,12,14,15,17]),(9,[],[10,11,12,14,15,17]),(10,[8,9],[11,12,14,15,17]),(11,[8,9,10],[12,14,15,17]),(12,[8,9,10,11],[14,15,17]),(13,[],[14,15,17]),(14,[0,1,2,3,4,5,6,7,8,9,10,11,12,13],[15,17]),(15,[0,1,2,3,4,5,6,7,8,9,10,11,12,13,14],[17]),(16,[],[17]),(17,[0,1,2,3,4,5,6,7,8,9,10,11,12,13,14,15,16],[])] rfl (by kernel_rfl) (by kernel_rfl) (WD (by simp)) (fun D=>⟨?_,?_,?_,?_,?_,?_,?_,?_,?_,?_,?_,?_,?_,?_,?_,?_,?_,?_,trivial⟩) ?_)
    all_goals try(intro h0 h1 h2;simp only[allM]at h1 h2)
    case refine_6=>refine Qa.evZ [] rfl (by simp[h0,h1,h2,XG,Ql,XT,cellsOf,Qx,QC,Wg,Qw,QB,Qq];rfl) trivial ?_;exact le_trans (le_nlK (ys:=[.c (iC 0),.c (iC x),.c (.sl 3 [])]) 55 (by simp;rfl) (by simp[nlV])) (WD (by simp[h0,h1,h2]))
    case refine_13=>refine Qa.evZ [] rfl (by simp[h0,h1,h2,XG,Ql,XT,cellsOf,Qx,QC,Wg,Qw,QB,Qq];rfl) trivial ?_;exact le_trans (le_nlK (ys:=[.c (iC 0),.c (iC y),.c (.sl 3 [])]) 62 (by simp;rfl) (by simp[nlV])) (WD (by simp[h0,h1,h2]))
    case refine_7=>refine Qa.evZ [] rfl (by simp[h0,h1,h2];rfl) trivial ?_;exact le_trans (XO 56 (by simp;exact⟨rfl,rfl,rfl⟩)) (WD (by simp[h0,h1,h2,HS.frz,Zy,RV.frz,TV.frz,CV.frz,Ob.frz]))
    case refine_15=>refine Qa.evZ [] rfl (by simp[h0,h1,h2];rfl) trivial ?_;exact le_trans (XO 64 (by simp;exact⟨rfl,rfl,rfl⟩)) (WD (by simp[h0,h1,h2,HS.frz,Zy,RV.frz,TV.frz,CV.frz,Ob.frz]))
    all_goals try(refine Qa.evZ [] rfl (by simp[h0,h1,h2,he1,he2,XG,Ql,XT,cellsOf,Qx,QC,Wg,Qw,QB,Qq];rfl) trivial ?_;exact WD (by simp[h0,h1,h2]))
    refine Q9 (s':=⟨⟨82,none⟩,[(1,.v (.one (.at_ 1000001 0))),(2,.v (.one (.at_ 1000002 0))),(3,.v (.one (.at_ 1000003 0))),(4,.v (.one (.at_ 1000004 0))),(5,.v (.one (.at_ 1000005 0))),(6,.v (.one (.at_ 1000006 0))),(9,.v (.one (.own 1010))),(11,.v (.one (.at_ 11 0))),(12,.v (li j)),(13,.v (.one (.at_ 13 0))),(15,.v (lS l)),(16,.v (li l.length)),(17,.v (li k)),(46,.v (li m.length)),(47,.v (li j))],[(11,.box [.c (iC 1),.c (iC sc),.c (iC sv),.c (iC sn),.c (iC so),.c (iC stn),.c (.sl 3 (XH sks)),.c (.sl 10 (Xe (Qr n m sa))),.c (.sl 10 (Xe (Qr n m sb))),.c (.sl 1 (Xg sbs))]),(13,.box [.c (iC 23),.c (iC 0),.c (.sl 3 [[iC 13,iC 0,.sl 3 [[iC 24,iC n,.sl 3 []],[iC 0,iC x,.sl 3 []]]],[iC 0,iC y,.sl 3 []],[iC 24,iC n1,.sl 3 []]])]),(1010,.row 63 10 R2),(1000001,.box [.fn 43 [(1000001,0),(1000002,0),(1000003,0),(1000004,0),(1000005,0),(1000006,0)]]),(1000002,.box [.c (iC n)]),(1000003,.box [.c (iC 24),.c (iC n),.c (.sl 3 [])]),(1000004,.box [.c (.sl 1 (Xg (m.map (·.1))))]),(1000005,.box [.c (.sl 1 (Xg (m.map (·.2))))]),(1000006,.box [.c (iC 24),.c (iC n1),.c (.sl 3 [])])]⟩) (Qs (fun n=>n) [] rfl (by simp) (by simp) (by simp)) ?_;refine(XI (by simp[*,hr3,hw,XG,Ql,XT,cellsOf,Qx,QC,Wg,Qw,QB,Qq];rfl) ?_);refine X2 ?_;exact⟨j+1,hj1,by omega,le_trans (X3U (rows':=Xe (W++hdG n (.mk so stn sks) (m.take (j+1)))) 72 rfl (by rw[htk,X8q,<-List.append_assoc,X0v,hR2];exact X1T _ (by simp[QV,cndG,asg,WI,X3o,Xe,St.enc,Tm.enc,XH,Xg,nlR,nlL,hn1]))) (Qs (fun n=>if n=1010 then 72 else n) [] rfl (by simp[upS,X7,rwO]) (by simp[upS,rwO]) (by simp[upS]))⟩
   (try simp only[BN]at h14);have hjl:j=m.length:=by omega
   subst hjl;rw[List.take_length];have hr3:Qy (W.length+(hdG n (.mk so stn sks) m).length+1) 144:=XC (by simp[hdG,Wn];omega) (by decide);clear h14;refine(Xj ?_);refine X2 ?_;refine(XI (by simp[*,hr3,XG,Ql,XT,cellsOf,Qx,QC,Wg,Qw,QB,Qq];rfl) ?_);refine X2 ?_;exact⟨k+1,hk1,by omega,Qs (fun n=>if n=1009 then 79 else n) [] rfl (by simp[upS,X7]) (by simp[upS,hg1,hdG,X0v,asg,WI,Xe,St.enc,Tm.enc,XH,Xg,hn1]) (by simp[upS])⟩
  (try simp only[BN]at h9);have hs1:¬sd=1:=by first|exact h9|simpa using h9
  rw[N6 hs1]at hg1;refine(XI (by simp[*,hr1,XG,Ql,XT,cellsOf,Qx,QC,Wg,Qw,QB,Qq];rfl) ?_);refine X2 ?_;exact⟨k+1,hk1,by omega,Qs (fun n=>if n=1009 then 79 else n) [] rfl (by simp[upS,X7]) (by simp[upS,hg1,X0v,Xe,St.enc,Tm.enc,hR]) (by simp[upS])⟩
 (try simp only[BN]at h5);have hkl:k=l.length:=by omega
 subst hkl;rw[List.take_length];clear h5;refine(Xj ?_);refine Q9 (XO 1009 rfl) ?_;refine X1 ?_;exact Xr ⟨.inr rfl,(),trivial,_,le_refl _,⟨_,by simp;rfl,by simp[Xp]⟩,fun n o h=>h⟩
theorem X4Z (f:Fl) (hv:f.vars.length<=1000000) (hh:f.hats.length<=1000000) (hn:Xh f.body+XV f.hats<=900000000) (hb:Qi f.body=true) (d:Nat):
  Con Tryz.prog 44 false [aF f] (.tup [aF (ZB f).1,li (ZB f).2]) none d:=by
 have cc:=X0n f hv hh hn hb;obtain⟨vars,hats,body⟩:=f;obtain⟨res,hres⟩:∃r,ZB ⟨vars,hats,body⟩=r:=⟨_,rfl⟩;rw[hres];unfold ZB at hres;obtain⟨C,hC⟩:∃x,Q2 ⟨vars,hats,body⟩=x:=⟨_,rfl⟩;rw[hC]at cc hres;clear hC;refine X3 Tryz.func44 ?_;simp only[Tryz.f44];simp only[aF,Fl.enc,Na,Ng]at cc⊢;refine X1 ?_;refine X0<|X0<|(Xl [⟨true,.v (li C),none⟩] ?_ ?_)
 .first|exact cc _|exact trivial|simpa[*]using cc _
 refine(X9 rfl (fun h2=>?_) fun h2=>?_)
 ·(try simp only[BN]at h2);rw[N6 h2]at hres;subst hres;refine X1 ?_;refine Q9 (Wc 2 [.c (.sl 5 []),.c (.sl 6 []),.c (.sl 10 [])] rfl (by(repeat'(first|exact LWk.nil|apply LWk.cons|exact CWk.refl _|exact CWk.nil _)))) ?_;exact Xr ⟨.inr rfl,_,le_refl _,⟨⟨_,by simp;rfl,by simp[Xp,fl0]⟩,by simp,fun h=>by cases h⟩⟩
 (try simp only[BN]at h2);rw[N9 (by simpa using h2)]at hres;subst hres;refine X1 ?_;exact Xr ⟨.inr rfl,_,le_refl _,⟨⟨_,by simp;rfl,by simp[Xp]⟩,by simp,fun h=>by cases h⟩⟩
def grpG (f:Fl) (m:List (Int×Int)) (k:Nat):Fl:=⟨f.vars++exV k,f.hats,Qr f.vars.length m f.body⟩
set_option maxHeartbeats 16000000 in
theorem X5G (f:Fl) (a b:List Int) (k0:Nat) (hk0:k0<100) (h0:X2l f.vars k0=false) (h1:∀k,k<k0->X2l f.vars k=true) (hla:a.length<=12) (hlen:a.length=b.length) (hv:f.vars.length<=1000) (hh:f.hats.length<=1000000) (hn:Xh f.body<=100000)
  (hgn:Xh (Qr f.vars.length (a.zip b) f.body)+XV f.hats<=900000000) (hgb:Qi (Qr f.vars.length (a.zip b) f.body)=true) (d:Nat):
  Con Tryz.prog 12 false [aF f,lI a,lI b] (.tup [aF (ZB (grpG f (a.zip b) k0)).1,li (ZB (grpG f (a.zip b) k0)).2]) none d:=by
 have ck:=X4Z (grpG f (a.zip b) k0) (by simp[grpG,exV];omega) hh hgn hgb;have cnf:=fun s d=>namF_con f s (by omega) d;have hor:=takF_or f.vars;obtain⟨vars,hats,body⟩:=f;obtain⟨⟨⟨kv,kh,kb⟩,kc⟩,hK⟩:∃x,ZB (grpG ⟨vars,hats,body⟩ (a.zip b) k0)=x:=⟨_,rfl⟩;rw[hK]at ck⊢;clear hK hgn hgb;obtain⟨n1,hn1⟩:∃x,(vars.length:Int)+1=x:=⟨_,rfl⟩;have hwn:IntKind.i64.wrap ((vars.length:Int)+1)=(vars.length:Int)+1:=X8 (by simp only at hv;omega) (by simp only at hv;omega);simp only at hv hh hn hor h0 h1;obtain⟨hz1,hz2⟩:=X5S a b hlen;have cg:=(X5y vars.length n1 hn1 (by rw[hwn,hn1]) (a.zip b) (by simp;omega) body hn);rw[hn1]at hwn;have hcr:=(X0S k0 hk0).1;have hco:=(X0S k0 hk0).2.1;have cv:=X35 vars (by omega) 37 (by decide);have cnk:=X3N k0 hk0;simp only[mkG,hz1,hz2]at cg;simp only[grpG,exV,vrG,aF,Fl.enc,Na,Ng]at ck;have hev:Xt (vars++[⟨Zh++Qt k0,0,-1048576,1048576,0⟩,⟨Zk++Qt k0,0,-1048576,1048576,0⟩])=Xt vars++[[sC (⟨#[114,97,119,95]⟩++Qt k0),iC 0,iC (-1048576),iC 1048576,iC 0],[sC (⟨#[111,117,116,95]⟩++Qt k0),iC 0,iC (-1048576),iC 1048576,iC 0]]:=by simp[Xt,Vr.enc,Zh,Zk]
 rw[hev]at ck;simp only[Zh,Zk]at hcr hco;have hroom:Qy (vars.length+2) 48:=XC (by omega) (by decide);clear hev;refine X3 Tryz.func12 ?_;simp only[Tryz.f12];simp only[aF,Fl.enc,Na,Ng]at cnf⊢;refine X1 ?_;refine X1 ?_;refine X1 ?_;refine X0<|X4<|(Xf [3,4,5,6,9] (fun(x:Nat)=>[(8,.v (li x))]) (fun x=>[(3,.box [.c (.sl 5 (Xt vars)),.c (.sl 6 (Xz hats)),.c (.sl 10 (Xe body))]),(4,.box [.c (.sl 1 (Xg a))]),(5,.box [.c (.sl 1 (Xg b))]),(6,.box [.c (.lit XZ),.c (.lit XZ),.c (.lit XZ)])]) (fun x=>x<=k0) (fun x=>k0 - x) (0:Nat) (Nf _) ?_ ?_)
 .exact X5 (fun n=>n) []
 rintro x hx;simp only[upS,X7,Xy]
 try simp only[X7,KN,Nat.reduceBEq,Nd,Nb,ins,Nat.reduceLT]
 have cnx:=X3N x (by omega);have hcx:=(X0S x (by omega)).1;have hox:=(X0S x (by omega)).2.1;have hw:IntKind.i64.wrap ((x:Int)+1)=(x:Int)+1:=X8;have c1:=cnf (Zh++Qt x);have c2:=cnf (Zk++Qt x);have hB:=hor x;obtain⟨B1,hB1⟩:∃q,vars.any (namB (Zh++Qt x))=q:=⟨_,rfl⟩;obtain⟨B2,hB2⟩:∃q,vars.any (namB (Zk++Qt x))=q:=⟨_,rfl⟩;rw[hB1]at c1 hB;rw[hB2]at c2 hB;simp only[Zh,Zk]at c1 c2 hcx hox;clear hB1 hB2;cases B1
 .refine X0<|X0<|(Xl [⟨true,.v (.one (.c (sC (Qt x)))),none⟩,⟨true,.v (lb false),none⟩,⟨true,.v (.one (.c (sC (Qt x)))),none⟩,⟨true,.v (lb B2),none⟩] ?_ ?_)
  .first|exact⟨cnx _,c1 _,cnx _,c2 _⟩|exact trivial|(repeat' first|exact trivial|exact cnx _|exact c1 _|exact cnx _|exact c2 _|apply And.intro)
  refine(X6 rfl (fun h5=>Xc ?_) (fun h5=>?_))
  ·(try simp only[BN]at h5);have hB2:B2=true:=by simpa using h5
   have hne:x≠k0:=fun e=>by rw[e,h0,hB2]at hB;cases hB
   have hx1:x+1<=k0:=by omega
   refine X4<|X2 ?_;exact⟨x+1,hx1,by omega,X5 (fun n=>n) []⟩
  (try simp only[BN]at h5);have hB2:B2=false:=by simpa using h5
  have hxe:x=k0:=by
   refine Classical.byContradiction fun hn=>?_;have:=h1 x (by omega);rw[hB,hB2]at this;cases this
  subst hxe;clear hB h0 h1 h5 c1 c2 hor cnf;refine(Xj ?_);refine X1 ?_;refine X0<|(X56 [(33,3),(35,3),(11,11)] [⟨false,.v (.one (.own 37)),some (.row 60 5 (Xt vars))⟩,⟨true,.v (.one (.c (sC (Qt x)))),none⟩,⟨true,.v (.one (.c (sC (Qt x)))),none⟩] (by kernel_rfl) (by kernel_rfl) (by rfl) (by simp[evcH,X3k,Qg, *,hroom,XG,Ql,XT,cellsOf,Qx,QC,Wg,Qw,QB,Qq];first|exact⟨rfl,Iff.rfl⟩|exact⟨rfl,trivial⟩|rfl) ?_ ?_)
  .first|exact⟨cv,cnk _,cnk _⟩|exact trivial|(repeat' first|exact trivial|exact cv|exact cnk _|exact cnk _|apply And.intro)
  refine X0<|(X0K [(10,10),(12,12),(13,13)] (by kernel_rfl) (by kernel_rfl) (by rfl) (by simp[evsH,X3k,Qg, *];rfl) ?_);refine X1 ?_;refine X1 ?_;refine Q9 (Wc 12 [.c (iC 24),.c (iC vars.length),.c (.sl 3 [])] rfl (by(repeat'(first|exact LWk.nil|apply LWk.cons|exact CWk.refl _|exact CWk.nil _)))) ?_;refine Q9 (Wc 13 [.c (iC 24),.c (iC n1),.c (.sl 3 [])] rfl (by(repeat'(first|exact LWk.nil|apply LWk.cons|exact CWk.refl _|exact CWk.nil _)))) ?_;refine X0<|(HT_runsN ?_);refine RunsN.cutE 3 [] (by simp[*];rfl) trivial (le_refl _) ?_;refine RunsN.callA (fun n=>if n=1000001 then 14 else if n=1000002 then 10 else if n=1000003 then 12 else if n=1000004 then 4 else if n=1000005 then 5 else if n=1000006 then 13 else n) (fun n=>if n=1000001 then 14 else if n=1000002 then 10 else if n=1000003 then 12 else if n=1000004 then 4 else if n=1000005 then 5 else if n=1000006 then 13 else n) cg (fun _ _=>?_);refine RunsN.doneE [] (by simp[X02,WB,CV.ren,Ob.ren];rfl) trivial ?_;refine Q9 (XO 47 rfl) ?_;refine Xd [⟨false,.tup [.agg [.c (.sl 5 (Xt kv)),.c (.sl 6 (Xz kh)),.c (.sl 10 (Xe kb))],li kc],none⟩] ?_ ?_
  .first|exact ck _|exact trivial|simpa[*]using ck _
  exact Xr ⟨.inr rfl,_,le_refl _,⟨⟨_,by simp;rfl,by simp[Xp]⟩,by simp,fun h=>by cases h⟩⟩
 refine X0<|X0<|(Z6 [some ⟨true,.v (.one (.c (sC (Qt x)))),none⟩,some ⟨true,.v (lb true),none⟩,none,none] (by simp[*];first|exact⟨rfl,Iff.rfl⟩|exact⟨rfl,trivial⟩|rfl) ?_ ?_)
 .first|exact trivial|exact⟨cnx _,c1 _⟩|simpa using⟨cnx _,c1 _⟩
 refine(X6 rfl (fun h5=>Xc ?_) (fun h5=>?_))
 ·(try simp only[BN]at h5);have hne:x≠k0:=fun e=>by rw[e,h0]at hB;cases hB
  have hx1:x+1<=k0:=by omega
  refine X4<|X2 ?_;exact⟨x+1,hx1,by omega,X5 (fun n=>n) []⟩
 exact absurd h5 (by simp)
theorem idxI_con (l:List Int) (g:FuncId) (cap:List CD) (p:Int->Bool) (hl:l.length<=1000000000) (hp:∀v∈l,∀d,Con Tryz.prog g true (li v::cap.map fun c=>.one (.c c)) (.v (lb (p v))) none d) (d:Nat):
  Con Tryz.prog 38 true [lI l,.one (.c (.fn g cap))] (.v (li (match l.findIdx? p with|some i=>(i:Int)|none=>-1))) none d:=by
 have hstep:∀k:Nat,(∀j:Nat,j<k->∀v,l[j]? =some v->p v=false)->∀v,l[k]? =some v->p v=true->l.findIdx? p=some k:=by
  intro k hno v hv hpv;rw[List.findIdx?_eq_some_iff_getElem];have hk:k<l.length:=(N8.1 hv).1;refine⟨hk,?_,fun j hj=>?_⟩
  .simp only[Ny hk,Option.some.injEq]at hv;rw[hv];exact hpv
  have:=hno j hj l[j] (by simp);simp[this]
 have hnone:(∀j:Nat,j<l.length->∀v,l[j]? =some v->p v=false)->l.findIdx? p=none:=by
  intro hno;rw[List.findIdx?_eq_none_iff];intro v hv;obtain⟨j,hj⟩:=NH.1 hv;exact hno j (N8.1 hj).1 v hj
 refine X3 Tryz.func38 ?_;simp only[Tryz.f38];refine X1 ?_;refine X0<|X0<|X2 ?_;refine X4<|(Xf [0,1,7] (fun(x:Nat)=>[(8,.v (li x))]) (fun x=>[]) (fun x=>x<=l.length/\∀j:Nat,j<x->∀v,l[j]? =some v->p v=false) (fun x=>l.length - x) (0:Nat) ⟨Nf _,fun j hj=>absurd hj (Dd j)⟩ ?_ ?_)
 .exact X5 (fun n=>n) []
 rintro k ⟨hk,hJ⟩;simp only[upS,X7,Xy]
 try simp only[X7,KN,Nat.reduceBEq,Nd,Nb,ins,Nat.reduceLT]
 refine X1 ?_;refine X0<|(X6 rfl (fun h4=>Xc ?_) (fun h4=>?_))
 ·(try simp only[BN]at h4);have hlt:k<l.length:=by first|omega|simpa using h4
  obtain⟨v,he,hd⟩:=XF hlt;have he2:(Xg l)[k]? =some [iC v]:=by simp[Xg,he]
  have hw1:=XB hlt (by omega);have hk1:k+1<=l.length:=hlt;have hpv:=hp v (N3 he);have hs:=hstep k hJ v he;clear hlt h4 hstep hnone hp;refine X0<|X4<|X0<|X2 ?_;refine Xd [⟨true,.v (lb (p v)),none⟩] ?_ ?_
  .first|exact hpv _|exact trivial|simpa[*]using hpv _
  refine(X9 rfl (fun h7=>?_) fun h7=>?_)
  ·(try simp only[BN]at h7);rw[hs h7];refine X1 ?_;exact Xb
  (try simp only[BN]at h7);refine X2 ?_;exact⟨k+1,⟨hk1,fun j hj w hw=>(Nat.lt_succ_iff_lt_or_eq.1 hj).elim (fun h=>hJ j h w hw) (fun e=>by subst e;rw[he]at hw;cases hw;exact h7)⟩,by omega,X5 (fun n=>n) []⟩
 (try simp only[BN]at h4);rw[hnone fun j hj=>hJ j (by omega)];refine(Xj ?_);refine X1 ?_;exact Xb
theorem any_idx {T:Type} (l:List T) (p:T->Bool):decide (0<=(match l.findIdx? p with|some i=>(i:Int)|none=>-1))=l.any p:=by
 rw[D6,N5,List.any_eq];cases h:l.findIdx? p with
 | none=>
   rw[List.findIdx?_eq_none_iff]at h;simp only[N5];constructor
   .intro h;omega
   rintro⟨v,hv,hpv⟩;have:=h v hv;rw[hpv]at this;cases this
 | some i=>
   rw[List.findIdx?_eq_some_iff_getElem]at h;obtain⟨hi,hpi,_⟩:=h;simp only[N5];exact⟨fun _=>⟨l[i],Df _,hpi⟩,fun _=>by omega⟩
theorem X6u (l:List Int) (g:FuncId) (cap:List CD) (p:Int->Bool) (hl:l.length<=1000000000) (hp:∀v∈l,∀d,Con Tryz.prog g true (li v::cap.map fun c=>.one (.c c)) (.v (lb (p v))) none d) (d:Nat):
  Con Tryz.prog 10 true [lI l,.one (.c (.fn g cap))] (.v (lb (l.any p))) none d:=by
 have hr:=idxI_con l g cap p hl hp;have hd:=any_idx l p;obtain⟨r,hrr⟩:∃x:Int,(match l.findIdx? p with|some i=>(i:Int)|none=>-1)=x:=⟨_,rfl⟩;rw[hrr]at hr hd;clear hp hrr;refine X3 Tryz.func10 ?_;simp only[Tryz.f10];refine X1 ?_;refine Xd [⟨true,.v (li r),none⟩] ?_ ?_
 .first|exact hr _|exact trivial|simpa[*]using hr _
 exact Xb
theorem X70 (n:Int):∀m:List (Int×Int),Qi (QV n m)=true
 |[]=>rfl
 |p::m=>by simp[QV,cndG,asg,Qi,ZK,X70 n m]
theorem X3u (n:Int) (m:List (Int×Int)):∀l:List St,Qi l=true->Qi (QJ n m l)=true
 |[],_=>by simp[QJ,Qi]
 | .mk d c v k t a b bs::l,h=>by
   simp only[Qi,ZK,N4,N5]at h;have ha:=X3u n m a h.1.2.1;have hb:=X3u n m b h.1.2.2;have hl:=X3u n m l h.2;simp only[QJ];rw[X2d,hl,Bool.and_true];split
   .simp[X2i,X2d,Qi,ZK,asg,X70]
   simp[Qi,ZK,ha,hb,h.1.1]
theorem X2J:∀a b:List St,Xh (a++b)=Xh a+Xh b
 |[],b=>by simp[Xh]
 |s::a,b=>by simp[Xh,X2J a b,D9]
theorem X49 (n:Int):∀m:List (Int×Int),Xh (QV n m)=7*m.length
 |[]=>rfl
 | p::m=>by
   simp only[QV,Xh,X49 n m,cndG,asg,St.nodes,Tm.nodes,Q5,WI,X3o,List.length_cons];omega
theorem X0Y (n:Int) (m:List (Int×Int)) (hm:m.length<=12):∀l:List St,Xh (QJ n m l)<=Xh l*100
 |[]=>by simp[QJ,Xh]
 | .mk d c v k t a b bs::l=>by
   have ha:=X0Y n m hm a;have hb:=X0Y n m hm b;have hl:=X0Y n m hm l;simp only[QJ];rw[X2J];split
   .simp only[X2i,Xh,X2J,X49,asg,St.nodes,Tm.nodes,Q5,WI]at*;omega
   simp only[Xh,St.nodes]at*;omega
theorem X8d:∀a b:List Int,a.length=b.length->(a.zip b).any outP=(a.any Zj||b.any Zj)
 |[],[],_=>rfl
 | x::a,y::b,h=>by
   have ih:=X8d a b (by simpa using h);simp only[List.zip_cons_cons,List.any_cons,ih,outP];cases Zj x<;>cases Zj y<;>cases a.any Zj<;>cases b.any Zj<;>rfl
theorem X6T {x:Int} {l:List Int} (h:Wt (x::l)=true):Wt l=true:=by
 refine X0V fun i hi=>?_;unfold Wt at h;rw[Nl]at h;have:=h (i+1) (by simp;omega);simpa[WG]using this
theorem X7e:∀(l:List Int) (x:Int),Wt (x::l)=true->∀y∈l,x<y
 |[],_,_,y,hy=>by cases hy
 | z::l,x,h,y,hy=>by
   have h1:x<z:=by
    have h':=h;unfold Wt at h';rw[Nl]at h';simpa[WG]using h' 0 (by simp)
   rcases Np.1 hy with rfl|hy
   .exact h1
   have:=X7e l z (X6T h) y hy;omega
theorem X6y:∀a b:List Int,Wt a=true->(a.zip b).Pairwise (fun p q=>p.1<q.1)
 |[],_,_=>by simp
 |_::_,[],_=>by simp
 | x::a,y::b,h=>by
   rw[List.zip_cons_cons,NZ];exact⟨fun q hq=>X7e a x h q.1 (List.of_mem_zip (a:=q.1) (b:=q.2) hq).1,X6y a b (X6T h)⟩
def e9F (a b:List Int):Int:=if a.length=b.length then(if Wt a=true then(if(a.any Zj||b.any Zj)=true then 3 else 0)else 10)else 2
theorem gpF_eq {f:Fl} {a b:List Int} {k:Nat} (hc:Q2 f=0):gpF f a b k=if e9F a b=0 then ZB (X1E f (a.zip b) (Zh++Qt k) (Zk++Qt k))else(fl0,e9F a b):=by
 unfold gpF e9F;rw[N9 hc];by_cases h:a.length=b.length
 .rw[N9 h,N9 h,X8d a b h];by_cases h2:Wt a=true
  .rw[N9 h2,N9 h2];by_cases h3:(a.any Zj||b.any Zj)=true
   .rw[N9 h3,N9 h3];rfl
   rw[N6 h3,N6 h3];rfl
  rw[N6 h2,N6 h2];rfl
 rw[N6 h,N6 h];rfl
theorem grp_eq {f:Fl} {a b:List Int} {k:Nat} (hc:Q2 f=0):grpG f (a.zip b) k=X1E f (a.zip b) (Zh++Qt k) (Zk++Qt k):=by
 unfold grpG X1E exV;rw[X0Q f.body true (QD hc).2.2.2.1]
theorem X8m:∀(a b:List Int) (x:Int) (k:Nat),a.length=b.length->(X3l a x k=-1/\Z9 (a.zip b) x=x)\/∃i:Nat,X3l a x k=(k:Int)+i/\i<a.length/\b[i]? =some (Z9 (a.zip b) x)
 |[],_,_,_,_=>.inl ⟨rfl,by simp[Z9]⟩
 | z ::a,y::b,x,k,h=>by
   by_cases hz:x=z
   .refine .inr ⟨0,?_,by simp,?_⟩
    .simp[X3l,hz]
    simp[Z9,hz]
   rcases X8m a b x (k+1) (by simpa using h)with⟨h1,h2⟩|⟨i,h1,h2,h3⟩
   .refine .inl ⟨?_,?_⟩
    .rw[X3l,N6 hz,h1]
    rw[List.zip_cons_cons,Z9,N6 hz,h2]
   refine .inr ⟨i+1,?_,by simp;omega,?_⟩
   .rw[X3l,N6 hz,h1];omega
   rw[List.zip_cons_cons,Z9,N6 hz];simpa using h3
theorem X6l (x:Int) (d:Nat):Con Tryz.prog 8 true [li x] (.v (lb (Zj x))) none d:=by
 unfold Zj;refine X3 Tryz.func8 ?_;simp only[Tryz.f8];refine X1 ?_;by_cases hx:x< -1048576
 .refine X1 ?_;exact Xb
 refine X1 ?_;exact Xb
def X77 (f:Fl):Bool:=(decide (f.vars.length=0)&&decide (f.hats.length=0))&&decide (f.body.length=0)
theorem X6i (f:Fl) (d:Nat):Con Tryz.prog 11 true [aF f] (.v (lb (X77 f))) none d:=by
 obtain⟨vars,hats,body⟩:=f;unfold X77;refine X3 Tryz.func11 ?_;simp only[Tryz.f11];simp only[aF,Fl.enc,Na,Ng];refine X1 ?_;refine X1 ?_;exact(Xb (he:=by simp[Xp]))
theorem X7n (g:Fl) (e:Int) (h0:e=0->∀d,Con Tryz.prog 45 true [aF g,aF g] (.v (lb true)) none d) (h1:e≠0->X77 g=true) (d:Nat):
  Con Tryz.prog 13 true [aF g,li e,aF g,li e] (.v (lb true)) none d:=by
 have cn:=X6i g;obtain⟨N,hN⟩:∃x,X77 g=x:=⟨_,rfl⟩;rw[hN]at cn h1;obtain⟨vars,hats,body⟩:=g;clear hN;refine X3 Tryz.func13 ?_;simp only[Tryz.f13];simp only[aF,Fl.enc,Na,Ng]at cn h0⊢;refine X1 ?_;refine X0<|X0<|X2 ?_;refine(X9 rfl (fun h2=>?_) fun h2=>?_)
 ·(try simp only[BN]at h2);have hz:=h1 h2;subst hz;clear h0;refine Xd [⟨true,.v (lb true),none⟩] ?_ ?_
  .first|exact cn _|exact trivial|simpa[*]using cn _
  exact Xb
 (try simp only[BN]at h2);have he:e=0:=by simpa using h2
 subst he;have h0:=h0 rfl;clear h1 cn h2;refine Xd [⟨true,.v (lb true),none⟩] ?_ ?_
 .first|exact h0 _|exact trivial|simpa[*]using h0 _
 exact Xb
theorem le_fnK {s:HS} {f:FuncId} (k:Nat) (hk:lkp s.regs k=some (.v (.one (.fn f [])))):le s {s with regs:=ins k (.v (.one (.c (.fn f [])))) s.regs}:=by
 intro w0 B U F T a w hr;refine⟨F,T,fun _ h=>h,fun _ h=>.inl h,hr.heap,hr.defers,hr.nt,fun j r hj=>?_⟩;by_cases e1:j=k
 .subst e1;rw[XS]at hj;simp only[Nd,Option.some.injEq]at hj;subst hj;obtain⟨us,hv,hl,_⟩:=hr.regs j _ hk;have e:us=[]:=Nr (by simpa using hl);subst e;show CRel F w (.fn f []) _;rw[hv];exact CRel.fn f [] [] rfl fun j d u hd hu=>by simp at hd
 rw[Xq e1]at hj;exact hr.regs j r hj
set_option maxHeartbeats 16000000 in
theorem X6G (f:Fl) (a b:List Int) (d:Nat):Con Tryz.prog 3 true [aF f,lI a,lI b] (.v (lb true)) none d:=by
 have ck:=X8T;have cf:=fit_con f;obtain⟨FW,hFW⟩:∃x,fitB f 16 4 4=x:=⟨_,rfl⟩;rw[hFW]at cf;have hin:FW=true->Fit f 16 4 4:=fun h=>fit_in (hFW.trans h);clear hFW;refine X3 Tryz.func3 ?_;simp only[Tryz.f3];simp only[aF,Fl.enc,Na,Ng]at cf⊢;refine X1 ?_;refine X0<|X0<|(Xl [⟨true,.v (lb true),none⟩] ?_ ?_)
 .first|exact ck _|exact trivial|simpa[*]using ck _
 refine(X9 rfl (fun h2=>?_) fun h2=>?_)
 .exact absurd h2 (by simp)
 (try simp only[BN]at h2);cases FW
 .refine X0<|X0<|(Xl [⟨true,.v (lb false),none⟩] ?_ ?_)
  .first|exact cf _|exact trivial|simpa[*]using cf _
  refine(X9 rfl (fun h6=>?_) fun h6=>?_)
  ·(try simp only[BN]at h6);refine X1 ?_;exact Xb
  exact absurd h6 (by simp)
 refine X0<|X0<|(Xl [⟨true,.v (lb true),none⟩] ?_ ?_)
 .first|exact cf _|exact trivial|simpa[*]using cf _
 refine(X9 rfl (fun h6=>?_) fun h6=>?_)
 ·(try simp only[BN]at h6);refine X1 ?_;exact Xb
 (try simp only[BN]at h6);have hla:a.length<=12:=by omega
 have hlb:b.length<=12:=by omega
 have hF:=hin rfl;clear hin cf ck h2 h6;have hhv:=hF.hv;have hhh:=hF.hh;have hhn:=hF.hn;have hbnd:=hF.hb;have X07:=hF.code;obtain⟨k0,hk0,h0,h1⟩:=X9f f.vars (by omega);have hzl:(a.zip b).length<=12:=by simp;omega
 have hng:=X0Y f.vars.length (a.zip b) hzl f.body;have hbg:=X3u f.vars.length (a.zip b) f.body hbnd;have ce:=X6J f a b k0 (by omega) h0 h1 hla hlb (by omega) (by omega) (by omega) hbnd (by omega) hbg;rw[gpF_eq X07]at ce;have hsm:=X0Q (n:=(f.vars.length:Int)) (m:=a.zip b) f.body true (QD X07).2.2.2.1;have cgr:=fun hlen=>X5G f a b k0 (by omega) h0 h1 hla hlen (by omega) (by omega) (by omega) (by rw[hsm];omega) (by rw[hsm];exact hbg);rw[grp_eq X07]at cgr;have ci:=X7o f hF.good (by omega) hF.s1 hF.s2 hF.s3;have hil:=insL_len hF.good hF.s1 hF.s2 hF.s3;have hiok:=fun i hi=>@ins_ok f.vars (QD X07).2.1 i hi;have r1:=fun i=>X6W f i (by omega) (by omega) (by omega) hbnd;have hol:=fun i=>@outs_len f i hbnd;obtain⟨G,hG0⟩:∃g,g=X1E f (a.zip b) (Zh++Qt k0) (Zk++Qt k0):=⟨_,rfl⟩;rw[<-hG0]at ce cgr;have hGv:G.vars.length<=12:=by rw[hG0];simp[X1E];omega
 have hGh:G.hats.length<=10:=by rw[hG0];exact hhh
 have hGn:Xh G.body+XV G.hats<=9000:=by rw[hG0];simp only[X1E];omega
 have hGb:Qi G.body=true:=by rw[hG0];exact hbg
 have r2:=fun i=>X6W G i (by omega) (by omega) (by omega) hGb;have cq:=eqF_con G (by omega) (by omega) (by omega) hGb
 have hrun:Q2 G=0->e9F a b=0->∀i∈insL f.vars,(Zz f i).2=0/\Zz G i=(⟨(Zz f i).1.outs.map (Z9 (a.zip b)),(Zz f i).1.time⟩,0):=by
  intro hc he i hi
  have hlen:a.length=b.length:=by
   refine Classical.byContradiction fun hn=>?_;unfold e9F at he;rw[N6 hn]at he;cases he
  unfold e9F at he;rw[N9 hlen]at he
  have hri:Wt a=true:=by
   refine Classical.byContradiction fun hn=>?_;rw[N6 hn]at he;cases he
  rw[N9 hri]at he;have hra:¬(a.any Zj||b.any Zj)=true:=fun hn=>by rw[N9 hn]at he;cases he
  rw[hG0]at hc⊢;refine grp_run hbnd X07 hc (X6y a b hri) (fun p hp=>?_) (hiok i hi)
  have hb2:Zj p.2=false:=by
   have:=(List.of_mem_zip (a:=p.1) (b:=p.2) hp).2;simp only[Ni,not_or,List.any_eq_true,not_exists,not_and]at hra;simpa using hra.2 _ this
  simp only[Zj,NC,Nc]at hb2;omega
 obtain⟨L,hL⟩:∃x,insL f.vars=x:=⟨_,rfl⟩;rw[hL]at ci hil hrun;obtain⟨⟨⟨gv,gh,gb⟩,e⟩,hge⟩:∃x,(if e9F a b=0 then ZB G else(fl0,e9F a b))=x:=⟨_,rfl⟩;rw[hge]at ce;have cr:=X5A a (by omega);have ca:=X6u a 8 [] Zj (by omega) (fun v _ d=>X6l v d);have cb:=X6u b 8 [] Zj (by omega) (fun v _ d=>X6l v d);have cno:=X6i ⟨gv,gh,gb⟩;obtain⟨A1,hA⟩:∃x,a.any Zj=x:=⟨_,rfl⟩;obtain⟨B1,hB⟩:∃x,b.any Zj=x:=⟨_,rfl⟩;rw[hA]at ca;rw[hB]at cb
 have hE2:a.length=b.length->Wt a=true->e9F a b=if(A1||B1)=true then 3 else 0:=fun h1 h2=>by
  unfold e9F;rw[N9 h1,N9 h2,hA,hB]
 clear hA hB;clear hF hL hiok hsm hng hbg h0 h1 hG0;obtain⟨vars,hats,body⟩:=f;simp only[aF,Fl.enc,Na,Ng]at ce cgr ci r1 cno;refine Xd [⟨false,.tup [.agg [.c (.sl 5 (Xt gv)),.c (.sl 6 (Xz gh)),.c (.sl 10 (Xe gb))],li e],none⟩] ?_ ?_
 .first|exact ce _|exact trivial|simpa[*]using ce _
 refine X1 ?_;refine X1 ?_;refine Q9 (le_fnK 10 rfl) ?_;refine(Q0 [1,2,3,7,8] (fun(z:Int)=>[(9,.v (li z))]) (fun(z:Int)=>[(3,.box [.c (.sl 5 (Xt vars)),.c (.sl 6 (Xz hats)),.c (.sl 10 (Xe body))]),(7,.box [.c (.sl 5 (Xt gv)),.c (.sl 6 (Xz gh)),.c (.sl 10 (Xe gb))])]) (fun(z:Int)=>e9F a b=z) ?_ ?_)
 ·
  refine X4<|X0<|X2 ?_;refine(X6 rfl (fun h14=>?_) (fun h14=>?_))
  ·(try simp only[BN]at h14);refine X2 ?_;exact⟨(2:Int),by unfold e9F;rw[N6 (by omega)],X5 (fun n=>n) []⟩
  (try simp only[BN]at h14);refine Xd [⟨true,.v (lb (Wt a)),none⟩] ?_ ?_
  .first|exact cr _|exact trivial|simpa[*]using cr _
  refine(X6 rfl (fun h18=>?_) (fun h18=>?_))
  ·(try simp only[BN]at h18);refine X2 ?_;exact⟨(10:Int),by unfold e9F;rw[N9 (by omega),N6 (by simpa using h18)],X5 (fun n=>n) []⟩
  (try simp only[BN]at h18);cases A1
  .refine Xd [⟨true,.v (lb false),none⟩,⟨true,.v (lb B1),none⟩] ?_ ?_
   .first|exact⟨ca _,cb _⟩|exact trivial|(repeat' first|exact trivial|exact ca _|exact cb _|apply And.intro)
   refine(X9 rfl (fun h22=>?_) fun h22=>?_)
   ·(try simp only[BN]at h22);refine X2 ?_;exact⟨(3:Int),by rw[hE2 (by omega) (by simpa using h18)];simp[h22],X5 (fun n=>n) []⟩
   (try simp only[BN]at h22);exact⟨(0:Int),by rw[hE2 (by omega) (by simpa using h18)];simp[h22],X5 (fun n=>n) []⟩
  refine X0<|(Z6 [some ⟨true,.v (lb true),none⟩,none] (by simp[*];first|exact⟨rfl,Iff.rfl⟩|exact⟨rfl,trivial⟩|rfl) ?_ ?_)
  .first|exact trivial|exact ca _|simpa using ca _
  refine(X9 rfl (fun h22=>?_) fun h22=>?_)
  ·(try simp only[BN]at h22);refine X2 ?_;exact⟨(3:Int),by rw[hE2 (by omega) (by simpa using h18)];simp,X5 (fun n=>n) []⟩
  exact Bool.noConfusion h22
 rintro z hz;simp only[upS,X7,Xy]
 try simp only[X7,KN,Nat.reduceBEq,Nd,Nb,ins,Nat.reduceLT]
 clear cr ca cb hE2 ce;refine X0<|X0<|X2 ?_;refine(X9 rfl (fun h27=>?_) fun h27=>?_)
 ·(try simp only[BN]at h27);rw[hz,N6 h27]at hge;simp only[Prod.mk.injEq]at hge;obtain⟨hg1,hg2⟩:=hge;have hno:X77 ⟨gv,gh,gb⟩=true:=by rw[<-hg1];rfl
  rw[hno]at cno;subst hg2;refine Xd [⟨true,.v (lb true),none⟩] ?_ ?_
  .first|exact cno _|exact trivial|simpa[*]using cno _
  exact Xb
 (try simp only[BN]at h27);have hz0:z=0:=by simpa using h27
 have he0:e9F a b=0:=by rw[hz,hz0]
 subst hz0;rw[N9 he0]at hge
 have hlen:a.length=b.length:=by
  refine Classical.byContradiction fun hn=>?_;unfold e9F at he0;rw[N6 hn]at he0;cases he0
 have cgr:=cgr hlen;rw[hge]at cgr;unfold ZB at hge
 have hag:=X7n ⟨gv,gh,gb⟩ e (fun h d=>by
  by_cases hc:Q2 G=0
  .rw[N9 hc]at hge;simp only[Prod.mk.injEq]at hge;rw[<-hge.1];exact cq d
  .rw[N6 hc]at hge;simp only[Prod.mk.injEq]at hge;omega) (fun h=>by
  by_cases hc:Q2 G=0
  .rw[N9 hc]at hge;simp only[Prod.mk.injEq]at hge;omega
  rw[N6 hc]at hge;simp only[Prod.mk.injEq]at hge;rw[<-hge.1]
  rfl)
 simp only[aF,Fl.enc,Na,Ng]at hag cgr;refine Xd [⟨false,.tup [.agg [.c (.sl 5 (Xt gv)),.c (.sl 6 (Xz gh)),.c (.sl 10 (Xe gb))],li e],none⟩] ?_ ?_
 .first|exact cgr _|exact trivial|simpa[*]using cgr _
 refine X0<|X0<|(Xl [⟨true,.v (lb true),none⟩] ?_ ?_)
 .first|exact hag _|exact trivial|simpa[*]using hag _
 refine(X9 rfl (fun h32=>?_) fun h32=>?_)
 .exact absurd h32 (by simp)
 (try simp only[BN]at h32);refine X0<|X0<|X2 ?_;refine(X9 rfl (fun h36=>?_) fun h36=>?_)
 ·(try simp only[BN]at h36);refine X1 ?_;exact Xb
 (try simp only[BN]at h36);have he:e=0:=by simpa using h36
 subst he
 have hc:Q2 G=0:=by
  refine Classical.byContradiction fun hn=>?_;rw[N6 hn]at hge;simp at hge
 rw[N9 hc]at hge;simp only[Prod.mk.injEq,and_true]at hge;rw[hge]at r2 hrun hc;have hT:=hrun hc he0;clear hrun hge cgr hag cq cno h36 h32 h27 hc he0 hGv hGh hGn hGb;simp only[aF,Fl.enc,Na,Ng]at r2;refine X0<|X0<|(Xl [⟨false,.v (.one (.c (.sl 3 (Wa L)))),none⟩] ?_ ?_)
 .first|exact ci _|exact trivial|simpa[*]using ci _
 refine X4<|(Xf [1,2,3,7,87,88] (fun(x:Nat)=>[(89,.v (li x))]) (fun x=>[(3,.box [.c (.sl 5 (Xt vars)),.c (.sl 6 (Xz hats)),.c (.sl 10 (Xe body))]),(7,.box [.c (.sl 5 (Xt gv)),.c (.sl 6 (Xz gh)),.c (.sl 10 (Xe gb))])]) (fun x=>x<=L.length) (fun x=>L.length - x) (0:Nat) (Nf _) ?_ ?_)
 .exact X5 (fun n=>n) []
 rintro k hk;simp only[upS,X7,Xy]
 try simp only[X7,KN,Nat.reduceBEq,Nd,Nb,ins,Nat.reduceLT]
 clear ci;refine X1 ?_;refine X0<|(X6 rfl (fun h42=>Xc ?_) (fun h42=>?_))
 ·(try simp only[BN]at h42);have hlt:k<L.length:=by omega
  obtain⟨⟨is,ip,ir⟩,he,hd⟩:=XF hlt;have hw1:=XB hlt (by omega);have hk1:k+1<=L.length:=hlt;have he':(Wa L)[k]? =some [.sl 1 (Xg is),.sl 1 (Xg ip),.sl 1 (Xg ir)]:=by rw[X9v,he];rfl
  obtain⟨hT1,hT2⟩:=hT _ (N3 he);have r1:=r1 ⟨is,ip,ir⟩;have r2:=r2 ⟨is,ip,ir⟩;have hol:=hol ⟨is,ip,ir⟩;rw[hT2]at r2;obtain⟨⟨⟨O,t⟩,c⟩,hR⟩:∃x,Zz ⟨vars,hats,body⟩ ⟨is,ip,ir⟩=x:=⟨_,rfl⟩;rw[hR]at r1 r2 hol hT1;simp only at r1 r2 hol hT1;subst hT1;simp only[aI]at r1 r2;clear hlt h42 hT hT2 hR hd he;refine X0<|X4<|X0<|X2 ?_;refine Xd [⟨false,.tup [.agg [.c (.sl 1 (Xg O)),.c (iC t)],li 0],none⟩] ?_ ?_
  .first|exact r1 _|exact trivial|simpa[*]using r1 _
  refine Xd [⟨false,.tup [.agg [.c (.sl 1 (Xg (O.map (Z9 (a.zip b))))),.c (iC t)],li 0],none⟩] ?_ ?_
  .first|exact r2 _|exact trivial|simpa[*]using r2 _
  refine X0<|X0<|X2 ?_;refine(X9 rfl (fun h47=>?_) fun h47=>?_)
  .exact absurd h47 (by simp)
  (try simp only[BN]at h47);refine X1 ?_;refine X4<|(Xf [1,2,3,7,16,87,88,89,124,125] (fun(y:Nat)=>[(126,.v (li y))]) (fun y=>[(3,.box [.c (.sl 5 (Xt vars)),.c (.sl 6 (Xz hats)),.c (.sl 10 (Xe body))]),(7,.box [.c (.sl 5 (Xt gv)),.c (.sl 6 (Xz gh)),.c (.sl 10 (Xe gb))]),(16,.box [.c (.sl 1 (Xg (O.map (Z9 (a.zip b))))),.c (iC t)])]) (fun y=>y<=O.length) (fun y=>O.length - y) (0:Nat) (Nf _) ?_ ?_)
  .exact X5 (fun n=>n) []
  rintro j hj;simp only[upS,X7,Xy]
  try simp only[X7,KN,Nat.reduceBEq,Nd,Nb,ins,Nat.reduceLT]
  clear r1 r2;refine X1 ?_;refine X0<|(X6 rfl (fun h53=>Xc ?_) (fun h53=>?_))
  ·(try simp only[BN]at h53);have hlt:j<O.length:=by omega
   obtain⟨o,ho⟩:=Zr hlt;have hw2:=XB hlt hol;have hj1:j+1<=O.length:=hlt;have cx:=X9y a o (by omega);have hmi:=X8m a b o 0 hlen;have hMo:(O.map (Z9 (a.zip b)))[j]? =some (Z9 (a.zip b) o):=by rw[Nj,ho];rfl
   have hMe:(Xg (O.map (Z9 (a.zip b))))[j]? =some [iC (Z9 (a.zip b) o)]:=by rw[X3A,hMo];rfl
   have ho':(Xg O)[j]? =some [iC o]:=by rw[X3A,ho];rfl
   obtain⟨IX,hIX⟩:∃x,X3l a o 0=x:=⟨_,rfl⟩;rw[hIX]at cx hmi;obtain⟨MO,hMO⟩:∃x,Z9 (a.zip b) o=x:=⟨_,rfl⟩;rw[hMO]at hmi hMo hMe;obtain⟨OM,hOM⟩:∃x,O.map (Z9 (a.zip b))=x:=⟨_,rfl⟩;clear hlt h53 hIX ho hMo hMO;refine X0<|X4<|X0<|X2 ?_;refine(Q0 [1,2,3,7,16,18,87,88,89,124,125,126] (fun(z:Int)=>[(19,.v (li z))]) (fun(z:Int)=>[(3,.box [.c (.sl 5 (Xt vars)),.c (.sl 6 (Xz hats)),.c (.sl 10 (Xe body))]),(7,.box [.c (.sl 5 (Xt gv)),.c (.sl 6 (Xz gh)),.c (.sl 10 (Xe gb))]),(16,.box [.c (.sl 1 (Xg (O.map (Z9 (a.zip b))))),.c (iC t)])]) (fun(z:Int)=>z=MO) ?_ ?_)
   ·
    refine Xd [⟨true,.v (li IX),none⟩] ?_ ?_
    .first|exact cx _|exact trivial|simpa[*]using cx _
    refine X1 ?_;refine(X9 rfl (fun h58=>?_) fun h58=>?_)
    .try simp only[BN]at h58
     obtain⟨i,hi,hi2,hb⟩:∃i:Nat,IX=i/\i<a.length/\b[i]? =some MO:=by
      rcases hmi with⟨h1,_⟩|⟨i,h1,h2,h3⟩
      .exfalso;omega
      exact⟨i,by omega,h2,h3⟩
     subst hi;have hbe:(Xg b)[i]? =some [iC MO]:=by rw[X3A,hb];rfl
     clear h58 hmi hi2 hb;refine X2 ?_;exact⟨MO,rfl,X5 (fun n=>n) []⟩
    try simp only[BN]at h58
    have hMo2:o=MO:=by
     rcases hmi with⟨_,h2⟩|⟨i,h1,_,_⟩
     .exact h2.symm
     exfalso;omega
    clear h58 hmi;exact⟨o,hMo2,X5 (fun n=>n) []⟩
   rintro z hz;simp only[upS,X7,Xy]
   try simp only[X7,KN,Nat.reduceBEq,Nd,Nb,ins,Nat.reduceLT]
   subst hz;clear hmi cx ho' hOM;refine X1 ?_;refine(X9 rfl (fun h63=>?_) fun h63=>?_)
   .exact absurd h63 (by simp)
   (try simp only[BN]at h63);refine X2 ?_;exact⟨j+1,hj1,by omega,X5 (fun n=>n) []⟩
  (try simp only[BN]at h53);refine(Xj ?_);refine X2 ?_;exact⟨k+1,hk1,by omega,X5 (fun n=>n) []⟩
 (try simp only[BN]at h42);refine(Xj ?_);refine X1 ?_;exact Xb
end Go.Proofs.YtdccocolnaklkaaGreatDoor
namespace Go.Proofs.YtdccocolnaklkaaGreatDoor
open Go Go.Hl Go.RowKit Go.ChangeShapes Go.Proofs.YtdccocolnaklkaaGreatDoor
theorem tiled:X74 Tryz.prog:=tiled_mk (by kernel_rfl)
theorem own:ownKnob Tryz.prog.godebug=none:=by kernel_rfl
theorem laidOut:laidOutB Tryz.prog=true:=by kernel_rfl
section
variable {P:Program} {k:Nat} {t:TypeId} {ds:List CD}
theorem WL {T:Type} {enc:T->List CD} {e:TypeId} {c:Nat} (hu:P.underlying t=some (.slice e)) (hc:P.cellsOf e=c) (he:∀k',k'<k->∀r,Qk P k' e r->∃x,r=enc x) (h:Qk P k t ds):∃xs:List T,ds=[.sl c (xs.map enc)]:=by
 cases k with
 |zero=>exact h.elim
 | succ k=>
   unfold Qk at h;rw[hu]at h;obtain⟨rows,h1,_,h3⟩:=h;obtain⟨xs,hxs⟩:=X6H (enc:=enc) fun r hr=>he k (Nat.lt_succ_self k) r (h3 r hr).2;subst hxs;exact⟨xs,by rw[h1,hc]⟩
theorem We {fs:Array Field} {l:List (Nat×Nat×TypeId)} {c:Nat} (hu:P.underlying t=some (.struct fs)) (hl:X6I P fs=l) (hc:P.cellsOf t=c) (h:Qk P k t ds):ds.length=c/\∃k',k'<k/\∀x∈l,Qk P k' x.2.2 ((ds.drop x.1).take x.2.1):=by
 cases k with
 |zero=>exact h.elim
 | succ k=>
   unfold Qk at h;rw[hu]at h;have h':ds.length=P.cellsOf t/\∀x∈X6I P fs,Qk P k x.2.2 ((ds.drop x.1).take x.2.1):=h;exact⟨hc▸h'.1,k,Nat.lt_succ_self k,fun x hx=>h'.2 x (hl▸hx)⟩
end
theorem X05 {k:Nat} {t:TypeId} {ds:List CD} (hu:Tryz.prog.underlying t=some (.int .i64)) (h:Qk Tryz.prog k t ds):∃n:Int,ds=[iC n]:=by
 obtain⟨n,h1,_⟩:=X94 hu h;exact⟨n,h1⟩
theorem dec_s {k:Nat} {ds:List CD} (h:Qk Tryz.prog k 9 ds):∃s:ByteArray,ds=[sC s]:=by
 obtain⟨s,h1,_⟩:=X9s Tryz.underlying9 h;exact⟨s,h1⟩
theorem dec_I {k:Nat} {ds:List CD} (h:Qk Tryz.prog k 27 ds):∃l:List Int,ds=[.sl 1 (Xg l)]:=
 WL (enc:=fun x=>[iC x]) Tryz.underlying27 (by kernel_rfl:Tryz.prog.cellsOf 3=1) (fun _ _ _ hr=>X05 Tryz.underlying3 hr) h
theorem dec_T:∀(k:Nat) (ds:List CD),Qk Tryz.prog k 56 ds->∃t:Tm,ds=t.enc:=by
 intro k
 induction k using Nat.strongRecOn with
 | ind k ih=>
   intro ds h;obtain⟨hl,k1,hk1,hx⟩:=We (l:=[(0,1,53),(1,1,3),(2,1,54)]) Tryz.underlying56 (by kernel_rfl) (by kernel_rfl:Tryz.prog.cellsOf 56=3) h
   match ds,hl with
   | [a,b,c],_=>
     obtain⟨n1,h1⟩:=X05 Tryz.underlying53 (hx (0,1,53) (by simp));obtain⟨n2,h2⟩:=X05 Tryz.underlying3 (hx (1,1,3) (by simp));obtain⟨ks,h3⟩:=WL (enc:=Tm.enc) Tryz.underlying54 (by kernel_rfl:Tryz.prog.cellsOf 56=3) (fun k' hk' r hr=>ih k' (by omega) r hr) (hx (2,1,54) (by simp));simp only[List.drop,List.take,List.cons.injEq,and_true]at h1 h2 h3;subst h1 h2 h3;exact⟨.mk n1 n2 ks,by simp only[Tm.enc,ZU]⟩
theorem dec_S:∀(k:Nat) (ds:List CD),Qk Tryz.prog k 63 ds->∃s:St,ds=s.enc:=by
 intro k
 induction k using Nat.strongRecOn with
 | ind k ih=>
   intro ds h;obtain⟨hl,k1,hk1,hx⟩:=We (l:=[(0,1,61),(1,1,3),(2,1,3),(3,1,3),(4,3,56),(7,1,24),(8,1,24),(9,1,27)]) Tryz.underlying63 (by kernel_rfl) (by kernel_rfl:Tryz.prog.cellsOf 63=10) h
   match ds,hl with
   | [a0,a1,a2,a3,a4,a5,a6,a7,a8,a9],_=>
     obtain⟨n0,h0⟩:=X05 Tryz.underlying61 (hx (0,1,61) (by simp));obtain⟨n1,h1⟩:=X05 Tryz.underlying3 (hx (1,1,3) (by simp));obtain⟨n2,h2⟩:=X05 Tryz.underlying3 (hx (2,1,3) (by simp));obtain⟨n3,h3⟩:=X05 Tryz.underlying3 (hx (3,1,3) (by simp));obtain⟨t,h4⟩:=dec_T _ _ (hx (4,3,56) (by simp));obtain⟨la,h7⟩:=WL (enc:=St.enc) Tryz.underlying24 (by kernel_rfl:Tryz.prog.cellsOf 63=10) (fun k' hk' r hr=>ih k' (by omega) r hr) (hx (7,1,24) (by simp));obtain⟨lb',h8⟩:=WL (enc:=St.enc) Tryz.underlying24 (by kernel_rfl:Tryz.prog.cellsOf 63=10) (fun k' hk' r hr=>ih k' (by omega) r hr) (hx (8,1,24) (by simp));obtain⟨lc,h9⟩:=dec_I (hx (9,1,27) (by simp));simp only[List.drop,List.take,List.cons.injEq,and_true]at h0 h1 h2 h3 h4 h7 h8 h9;subst h0 h1 h2 h3 h7 h8 h9;refine⟨.mk n0 n1 n2 n3 t la lb' lc,?_⟩;simp only[St.enc,WK,<-h4,List.cons_append,List.nil_append]
theorem dec_V {k:Nat} {ds:List CD} (h:Qk Tryz.prog k 60 ds):∃v:Vr,ds=v.enc:=by
 obtain⟨hl,k1,_,hx⟩:=We (l:=[(0,1,9),(1,1,58),(2,1,3),(3,1,3),(4,1,3)]) Tryz.underlying60 (by kernel_rfl) (by kernel_rfl:Tryz.prog.cellsOf 60=5) h
 match ds,hl with
 | [a0,a1,a2,a3,a4],_=>
   obtain⟨n0,h0⟩:=dec_s (hx (0,1,9) (by simp));obtain⟨n1,h1⟩:=X05 Tryz.underlying58 (hx (1,1,58) (by simp));obtain⟨n2,h2⟩:=X05 Tryz.underlying3 (hx (2,1,3) (by simp));obtain⟨n3,h3⟩:=X05 Tryz.underlying3 (hx (3,1,3) (by simp));obtain⟨n4,h4⟩:=X05 Tryz.underlying3 (hx (4,1,3) (by simp));simp only[List.drop,List.take,List.cons.injEq,and_true]at h0 h1 h2 h3 h4;subst h0 h1 h2 h3 h4;exact⟨⟨n0,n1,n2,n3,n4⟩,rfl⟩
theorem dec_H {k:Nat} {ds:List CD} (h:Qk Tryz.prog k 94 ds):∃v:Ht,ds=v.enc:=by
 obtain⟨hl,k1,_,hx⟩:=We (l:=[(0,1,9),(1,1,3),(2,1,3),(3,3,56)]) Tryz.underlying94 (by kernel_rfl) (by kernel_rfl:Tryz.prog.cellsOf 94=6) h
 match ds,hl with
 | [a0,a1,a2,a3,a4,a5],_=>
   obtain⟨n0,h0⟩:=dec_s (hx (0,1,9) (by simp));obtain⟨n1,h1⟩:=X05 Tryz.underlying3 (hx (1,1,3) (by simp));obtain⟨n2,h2⟩:=X05 Tryz.underlying3 (hx (2,1,3) (by simp));obtain⟨t,h3⟩:=dec_T _ _ (hx (3,3,56) (by simp));simp only[List.drop,List.take,List.cons.injEq,and_true]at h0 h1 h2 h3;subst h0 h1 h2;exact⟨⟨n0,n1,n2,t⟩,by simp only[Ht.enc,<-h3,List.cons_append,List.nil_append]⟩
theorem dec_F {k:Nat} {ds:List CD} (h:Qk Tryz.prog k 26 ds):∃f:Fl,ds=f.enc:=by
 obtain⟨hl,k1,_,hx⟩:=We (l:=[(0,1,22),(1,1,23),(2,1,24)]) Tryz.underlying26 (by kernel_rfl) (by kernel_rfl:Tryz.prog.cellsOf 26=3) h
 match ds,hl with
 | [a0,a1,a2],_=>
   obtain⟨lv,h0⟩:=WL (enc:=Vr.enc) Tryz.underlying22 (by kernel_rfl:Tryz.prog.cellsOf 60=5) (fun _ _ _ hr=>dec_V hr) (hx (0,1,22) (by simp));obtain⟨lh,h1⟩:=WL (enc:=Ht.enc) Tryz.underlying23 (by kernel_rfl:Tryz.prog.cellsOf 94=6) (fun _ _ _ hr=>dec_H hr) (hx (1,1,23) (by simp));obtain⟨ls,h2⟩:=WL (enc:=St.enc) Tryz.underlying24 (by kernel_rfl:Tryz.prog.cellsOf 63=10) (fun k' _ r hr=>dec_S k' r hr) (hx (2,1,24) (by simp));simp only[List.drop,List.take,List.cons.injEq,and_true]at h0 h1 h2;subst h0 h1 h2;exact⟨⟨lv,lh,ls⟩,by simp only[Fl.enc,Xt,Xz,WK]⟩
theorem aggF:aggT Tryz.prog 26=true:=by unfold aggT;rw[Tryz.underlying26]
end Go.Proofs.YtdccocolnaklkaaGreatDoor
