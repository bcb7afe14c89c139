/- Contracts of functions and plain facts about what they compute. Conditions: as each theorem states. -/
import Derived.Test.YtdccocolnaklkaaGreatDoorK12
import Derived.Test.YtdccocolnaklkaaGreatDoorH7
import Derived.Test.YtdccocolnaklkaaGreatDoorK4
import Derived.Test.YtdccocolnaklkaaGreatDoorK5
set_option linter.unusedSimpArgs false
set_option linter.unusedVariables false
set_option linter.unnecessarySimpa false
set_option maxRecDepth 100000
set_option maxHeartbeats 2000000
namespace Go.Proofs.YtdccocolnaklkaaGreatDoor
open Go Go.Hl
open Tryz(prog)
def X0q (n:Nat):Nat:=min 1025 n
theorem X4T (t:Tm):t.nodes<=1000000000->∀d:Nat,Con prog 85 true [aT t] (.v (li ((X0q t.nodes:Nat):Int))) none d:=by
 induction t using Tm.ind with
 |h o n ks ih=>
 intro hn d;simp only[Tm.nodes]at hn⊢;have hlen:=Qy ks;obtain⟨res,hres⟩:∃r,Xs ks=r:=⟨_,rfl⟩;rw[hres]at hn⊢;refine X2 Tryz.func85 ?_;simp only[Tryz.f85];simp only[aT,Tm.enc];refine X4 ?_;refine X4 ?_;refine X0<|X0<|X1 ?_;refine X3<|(Xb [7,8] (fun(x:Nat×Nat)=>[(3,.v (li ((x.2:Nat):Int))),(9,.v (li x.1))]) (fun(x:Nat×Nat)=>[(1,.box [.c (iC o),.c (iC n),.c (.sl 3 (Xg ks))])]) (fun(x:Nat×Nat)=>x.1<=ks.length/\∃y,x.2=X0q y/\y+Xs (ks.drop x.1)=1+res) (fun(x:Nat×Nat)=>ks.length - x.1) (0,1) ⟨Nc _,1,by decide,by simp[hres]⟩ ?_);rintro⟨k,m⟩ ⟨hk,y,hy,hJ⟩;simp only[LN,Nat.reduceBEq,Nat.reduceLT];simp only at hk hJ hy;subst hy;refine(XS (fun h5=>X6 ?_) fun h5=>?_)
 .have hlt:k<ks.length:=by omega
  obtain⟨⟨eo,en,ek⟩,he,hd⟩:=Xw hlt;have he':=Qc he;simp only[Tm.enc]at he';have hmem:Tm.mk eo en ek∈ks:=N3 he;have hnm:=W3 hmem;have c:=ih _ hmem (by omega);have hw1:=Xz hlt (by omega);have hk1:k+1<=ks.length:=hlt;rw[hd]at hJ;simp only[Xs]at hJ;generalize Tm.nodes (.mk eo en ek)=q at*;have hw2:IntKind.i64.wrap ((X0q y:Int)+(X0q q:Int))=(X0q y:Int)+(X0q q:Int):=X5 (by unfold X0q;omega) (by unfold X0q;omega)
  have hmin:(if(X0q y:Int)+(X0q q:Int)<1025 then(X0q y:Int)+(X0q q:Int)else 1025)=((X0q (y+q):Nat):Int):=by
   unfold X0q;split<;>omega
  clear hlt h5 ih hmem;refine X0<|X3<|X0<|X1 ?_;refine(Xa c ?_);refine X1 ?_;exact Xj ((k+1,X0q (y+q))) (⟨hk1,y+q,rfl,by simp only;omega⟩) (hm:=by simp only;omega)
 have hkl:k=ks.length:=by omega
 rw[hkl,Nj]at hJ;simp only[Xs]at hJ;have hm:y=1+res:=by omega
 subst hm;refine(Xd ?_);exact X7
theorem X1q:∀t:Tm,(Qh t).length<=t.nodes:=by
 intro t
 induction t using Tm.ind with
 | h o n ks ih=>
   have:∀l:List Tm,(∀t∈l,(Qh t).length<=t.nodes)->(Qf l).length<=Xs l:=by
    intro l
    induction l with
    |nil=>intro _;simp[Qf]
    | cons a l ih2=>
      intro h;have h1:=h a (by simp);have h2:=ih2 fun t ht=>h t (by simp[ht]);simp only[Qf,Xs,Nt];omega
   have:=this ks ih;simp only[Qh,Tm.nodes];split
   .simp only[List.length_cons];omega
   omega
theorem X9k (l:List Tm):(Qf l).length<=Xs l:=by
 have:=X1q (.mk 0 0 l);simp only[Qh,Tm.nodes,Int.reduceEq,NW]at this
 induction l with
 |nil=>simp[Qf]
 | cons a l ih=>
   have h1:=X1q a;have h2:=ih (by have:=X1q (.mk 0 0 l);simpa[Qh,Tm.nodes]using this);simp only[Qf,Xs,Nt];omega
theorem X8B (a b:List Tm):Xs (a++b)=Xs a+Xs b:=by
 induction a with
 |nil=>simp[Xs]
 |cons x a ih=>simp only[List.cons_append,Xs,ih];omega
theorem X83 (l:List Tm) (t:Tm):Qf (l++[t])=Qf l++Qh t:=by
 induction l with
 |nil=>simp[Qf]
 |cons a l ih=>simp only[List.cons_append,Qf,ih,D7]
theorem X6D (a b:List Int):Xk (a++b)=Xk a++Xk b:=by simp[Xk]
theorem refs_con (t:Tm):t.nodes<=1000000->∀acc:List Int,acc.length+t.nodes<=2000000->
  X2U prog 84 [(900001,.row 3 1 (Xk acc))] [aT t,.one (.own 900001)] (.v (.one (.own 900002))) [(900002,.row 3 1 (Xk (acc++Qh t)))]:=by
 induction t using Tm.ind with
 |h o n ks ih=>
 intro hn acc ha;simp only[Tm.nodes]at hn ha;have hlen:=Qy ks
 obtain⟨A,hA0,hAn,hAs,hAl⟩:∃A:Nat->List Int,A 0=(acc++if o=24 then [n] else [])/\acc++Qh (.mk o n ks)=A ks.length/\(∀(k:Nat) (t:Tm),ks[k]? =some t->A k++Qh t=A (k+1))/\
   ∀(k:Nat) (t:Tm),ks[k]? =some t->(A k).length+t.nodes<=2000000:=by
  refine⟨fun k=>(acc++if o=24 then [n] else [])++Qf (ks.take k),by simp[Qf],?_,fun k t he=>?_,fun k t he=>?_⟩
  .simp only[List.take_length,Qh];split<;>simp
  .simp only[List.take_add_one,he,Option.toList_some,X83,D7]
  have h1:=X9k (ks.take k);have e:ks=ks.take k++t::ks.drop (k+1):=by rw[<-XaT he,List.take_append_drop]
  have h2:=congrArg Xs e;rw[X8B]at h2;simp only[Xs]at h2;simp only[Nt];split<;>simp only[List.length_cons,List.length_nil]<;>omega
 rw[hAn];refine X3y Tryz.func84 rfl (by kernel_rfl) (Da rfl) (pin_mk rfl) ?_;simp only[Tryz.f84];simp only[aT,Tm.enc];refine X4 ?_;refine(XY [2] (fun(z:Unit)=>[(1,.v (.one (.own 1001)))]) (fun(z:Unit)=>[(2,.box [.c (iC o),.c (iC n),.c (.sl 3 (Xg ks))]),(1001,.row 3 1 (Xk (A 0)))]) (fun(z:Unit)=>True) ?_ ?_)
 .have hroom:QF (acc.length+1) 8:=XO (by omega) (by decide);refine(X8 (fun h3=>?_) fun h3=>?_)
  .rw[N9 h3]at hA0;rw[show Xk (A 0)=Xk acc++[[iC n]] by rw[hA0,X6D];rfl];refine X1 ?_;exact Xv (()) (trivial)
  rw[N6 h3,Db]at hA0;rw[hA0];exact Xv (()) (trivial)
 rintro _ _;simp only[LN,Nat.reduceBEq,Nat.reduceLT];clear hA0;refine X0<|X0<|X1 ?_;refine X3<|(Xb [16,17] (fun(k:Nat)=>[(1,.v (.one (.own 1001))),(18,.v (li k))]) (fun(k:Nat)=>[(1001,.row 3 1 (Xk (A k)))]) (fun(k:Nat)=>k<=ks.length) (fun(k:Nat)=>ks.length - k) (0:Nat) (Nc _) ?_);rintro k hk;simp only[LN,Nat.reduceBEq,Nat.reduceLT];refine(XS (fun h10=>X6 ?_) fun h10=>?_)
 .have hlt:k<ks.length:=by omega
  obtain⟨⟨eo,en,ek⟩,he,hd⟩:=Xw hlt;have he':=Qc he;simp only[Tm.enc]at he';have hmem:Tm.mk eo en ek∈ks:=N3 he;have hnm:=W3 hmem;have hAl:=hAl k _ he;have hAs:=hAs k _ he;have c:=ih _ hmem (by omega) (A k) hAl;rw[hAs]at c;clear hAs hAl;have hw1:=Xz hlt (by omega);have hk1:k+1<=ks.length:=hlt;simp only[aT,Tm.enc]at c;clear hlt h10 ih hmem hd hAn he;refine X0<|X3<|X0<|X1 ?_;refine(X4I ?_);refine RunsS.cutE 2 [] (by simp[*];rfl) trivial (le_refl _) ?_;refine RunsS.call (fun n=>if n=900001 then 1001 else n) (fun n=>if n=900002 then 900012 else n) (by simp;rfl) (ZD (by simp) (by simp) (by simp) (by simp) (by simp)) c (by rfl) ?_;refine RunsS.doneE [] (by simp;rfl) trivial ?_;refine X1 ?_;exact Xj (k+1) (hk1)
 obtain rfl:k=ks.length:=by omega
 refine(Xd ?_);refine X4 ?_;exact Xn ⟨.inr rfl,(⟨⟨_,none⟩,[(4,.v (.one (.own 900002)))],[(900002,.row 3 1 (Xk (A ks.length)))]⟩:HS),ZC,⟨_,by simp;rfl,by simp[Xl]⟩,by simp⟩
theorem deep_con (d:Nat):Con prog 91 false [] (.v (aT (ZE 13))) none d:=by
 have hz:∀k,(ZE k).n=0:=fun k=>by cases k<;>rfl
 obtain⟨dop,dks,h0,h1,h2,h3,hE⟩:∃(dop:Nat->Int) (dks:Nat->List (List CD)),dop 0=0/\dks 0=[]/\(∀k,dop (k+1)=6)/\(∀k,dks (k+1)=[[iC (dop k),iC 0,.sl 3 (dks k)]])/\aT (ZE 13)=.agg [.c (iC (dop 13)),.c (iC 0),.c (.sl 3 (dks 13))]:=by
  refine⟨fun k=>(ZE k).op,fun k=>Xg (ZE k).kids,rfl,rfl,fun _=>rfl,fun k=>?_,rfl⟩;have:=hz k;rcases hx:ZE k with⟨a,b,c⟩;rw[hx]at this;simp only[Tm.n]at this;subst this;simp[ZE,Tm.kids,hx,Xg,Tm.enc,Tm.op]
 clear hz;rw[hE];clear hE;refine X2 Tryz.func91 ?_;simp only[Tryz.f91];refine X4 ?_;refine X4 ?_;refine X0<|X0<|X1 ?_;refine X3<|(Xb [0,1] (fun(k:Nat)=>[(3,.v (li k))]) (fun(k:Nat)=>[(0,.box [.c (iC 0),.c (iC 0),.c (.lit XR)]),(1,.box [.c (iC (dop k)),.c (iC 0),.c (.sl 3 (dks k))])]) (fun(k:Nat)=>k<=13) (fun(k:Nat)=>13 - k) (0:Nat) (Nc _) ?_ (le_trans (Ww 1 [.c (iC 0),.c (iC 0),.c (.sl 3 [])] rfl (by(repeat'(first|exact LWk.nil|apply LWk.cons|exact CWk.refl _|exact CWk.nil _)))) ZC));rintro k hk;simp only[LN,Nat.reduceBEq,Nat.reduceLT];refine(XS (fun h5=>X6 ?_) fun h5=>?_)
 .have hlt:k<13:=by omega
  have hw1:=Xz hlt (by omega);have hk1:k+1<=13:=hlt;have e1:=h2 k;have e2:=h3 k;clear hlt h5 h0 h1 h2 h3;refine X0<|X3<|X1 ?_;refine Q6 (XL 6 rfl) ?_;refine X1 ?_;exact Xj (k+1) (hk1)
 obtain rfl:k=13:=by omega
 clear h0 h1 h2 h3;refine(Xd ?_);exact X7
def cuL:List St->Nat->List Int
 |[],_=>[]
 |s::l,k=>if s.do_=3\/s.do_=4\/s.do_=5 then [] else if s.do_=0 then(k:Int)::cuL l (k+1)else cuL l (k+1)
theorem X40:∀(l:List St) (k:Nat),(cuL l k).length<=l.length
 |[],_=>by simp[cuL]
 | s::l,k=>by
   have:=X40 l (k+1);simp only[cuL]
   (repeat' split)<;>simp only[List.length_cons,List.length_nil]<;>omega
theorem X7a (f:Fl) (hl:f.body.length<=1000000) (d:Nat):Con prog 49 false [aF f] (.v (lI (cuL f.body 0))) none d:=by
 obtain⟨vars,hats,body⟩:=f;simp only at hl⊢;obtain⟨res,hres⟩:∃r,cuL body 0=r:=⟨_,rfl⟩;rw[hres];refine X2 Tryz.func49 ?_;simp only[Tryz.f49];simp only[aF,Fl.enc,Na,Nb];refine X4 ?_;refine X4 ?_;refine X0<|X0<|X1 ?_;refine X3<|(Xb [7,8] (fun(x:Nat×List Int)=>[(3,.v (.one (.own 1003))),(9,.v (li x.1))]) (fun(x:Nat×List Int)=>[(1003,.row 3 1 (Xk x.2))]) (fun(x:Nat×List Int)=>x.1<=body.length/\x.2.length<=x.1/\x.2++cuL (body.drop x.1) x.1=res) (fun(x:Nat×List Int)=>body.length - x.1) (0,[]) ⟨Nc _,Nc _,by simpa using hres⟩ ?_);rintro⟨k,q⟩ ⟨hk,hq,hJ⟩;simp only[LN,Nat.reduceBEq,Nat.reduceLT];simp only at hk hq hJ;refine(XS (fun h5=>X6 ?_) fun h5=>?_)
 .have hlt:k<body.length:=by omega
  obtain⟨s,he,hd⟩:=Xw hlt;have he':=Q7 he;have hw1:=Xz hlt (by omega);have hk1:k+1<=body.length:=hlt;have hroom:QF (q.length+1) 8:=XO (by omega) (by decide);rw[hd]at hJ;obtain⟨do_,sc,sv,sn,⟨so,stn,sks⟩,sa,sb,sbs⟩:=s;replace hJ:q++(if do_=3\/do_=4\/do_=5 then [] else if do_=0 then(k:Int)::cuL (body.drop (k+1)) (k+1)else cuL (body.drop (k+1)) (k+1))=res:=hJ;simp only[St.enc,Tm.enc,List.cons_append,List.nil_append]at he';clear hlt h5 hd he;refine X0<|X3<|X0<|X1 ?_;refine X4 ?_;refine X3<|(XY [3,4,7,8,9,15] (fun(b:Bool)=>[(16,.v (lb b))]) (fun(b:Bool)=>[(1003,.row 3 1 (Xk q))]) (fun(b:Bool)=>b=decide (do_=3\/do_=4\/do_=5)) ?_ ?_)
  .refine(Xc (fun h10=>X6 ?_) fun h10=>?_)
   .exact Xv (true) (by simp[h10])
   refine(Xc (fun h13=>X6 ?_) fun h13=>?_)
   .exact Xv (true) (by simp[h13])
   refine X1 ?_;exact Xv (decide (do_=5)) (by simp[h10,h13])
  rintro b hb;simp only[LN,Nat.reduceBEq,Nat.reduceLT];cases b
  .refine(QR (fun h17=>?_) fun h17=>?_)
   .exact absurd h17 (by simp)
   have hb':¬(do_=3\/do_=4\/do_=5):=by simpa using hb.symm
   rw[N6 hb']at hJ;clear hb hb' h17;refine(X8 (fun h21=>?_) fun h21=>?_)
   .rw[N9 h21]at hJ;refine X1 ?_;refine X1 ?_;exact Xj ((k+1,q++[(k:Int)])) (⟨hk1,by simp only[Nt,List.length_cons,List.length_nil];omega,by simp only[D7,List.cons_append,List.nil_append];exact hJ⟩) (hm:=by simp only;omega)
   rw[N6 h21]at hJ;refine X1 ?_;exact Xj ((k+1,q)) (⟨hk1,by simp only;omega,hJ⟩) (hm:=by simp only;omega)
  refine(QR (fun h17=>?_) fun h17=>?_)
  .have hb':do_=3\/do_=4\/do_=5:=by simpa using hb.symm
   rw[N9 hb',Db]at hJ;clear hb hb' h17;subst hJ;refine Q6 (XL 1003 rfl) ?_;exact X7
  exact absurd h17 (by simp)
 have hkl:k=body.length:=by omega
 rw[hkl,Nj]at hJ;simp only[cuL,Db]at hJ;subst hJ;refine(Xd ?_);refine Q6 (XL 1003 rfl) ?_;exact X7
theorem cutR_con (f:Fl) (hl:f.body.length<=1000000) (d:Nat):Con prog 20 false [aF f] (.v (lI (cuL f.body 0))) none d:=by
 obtain⟨vars,hats,body⟩:=f;simp only at hl⊢;obtain⟨res,hres⟩:∃r,cuL body 0=r:=⟨_,rfl⟩;rw[hres];refine X2 Tryz.func20 ?_;simp only[Tryz.f20];simp only[aF,Fl.enc,Na,Nb];refine X4 ?_;refine X4 ?_;refine X0<|X0<|X1 ?_;refine X3<|(Xb [8,9] (fun(x:Nat×List Int)=>[(3,.v (.one (.own 1003))),(10,.v (li x.1))]) (fun(x:Nat×List Int)=>[(1003,.row 3 1 (Xk x.2))]) (fun(x:Nat×List Int)=>x.1<=body.length/\x.2.length<=x.1/\x.2++cuL (body.drop x.1) x.1=res) (fun(x:Nat×List Int)=>body.length - x.1) (0,[]) ⟨Nc _,Nc _,by simpa using hres⟩ ?_);rintro⟨k,q⟩ ⟨hk,hq,hJ⟩;simp only[LN,Nat.reduceBEq,Nat.reduceLT];simp only at hk hq hJ;refine(XS (fun h5=>X6 ?_) fun h5=>?_)
 .have hlt:k<body.length:=by omega
  obtain⟨s,he,hd⟩:=Xw hlt;have he':=Q7 he;have hw1:=Xz hlt (by omega);have hk1:k+1<=body.length:=hlt;have hroom:QF (q.length+1) 8:=XO (by omega) (by decide);rw[hd]at hJ;obtain⟨do_,sc,sv,sn,⟨so,stn,sks⟩,sa,sb,sbs⟩:=s;replace hJ:q++(if do_=3\/do_=4\/do_=5 then [] else if do_=0 then(k:Int)::cuL (body.drop (k+1)) (k+1)else cuL (body.drop (k+1)) (k+1))=res:=hJ;simp only[St.enc,Tm.enc,List.cons_append,List.nil_append]at he';clear hlt h5 hd he;refine X0<|X3<|X0<|X1 ?_;refine X0<|(X8 (fun h8=>?_) fun h8=>?_)
  .rw[N9 (by simpa[or_assoc]using h8),Db]at hJ;subst hJ;refine(Xd ?_);refine Q6 (XL 1003 rfl) ?_;exact X7
  rw[N6 (by omega)]at hJ;refine(X8 (fun h12=>?_) fun h12=>?_)
  .rw[N9 h12]at hJ;refine X1 ?_;refine X1 ?_;exact Xj ((k+1,q++[(k:Int)])) (⟨hk1,by simp only[Nt,List.length_cons,List.length_nil];omega,by simp only[D7,List.cons_append,List.nil_append];exact hJ⟩) (hm:=by simp only;omega)
  rw[N6 h12]at hJ;refine X1 ?_;exact Xj ((k+1,q)) (⟨hk1,by simp only;omega,hJ⟩) (hm:=by simp only;omega)
 have hkl:k=body.length:=by omega
 rw[hkl,Nj]at hJ;simp only[cuL,Db]at hJ;subst hJ;refine(Xd ?_);refine Q6 (XL 1003 rfl) ?_;exact X7
theorem X7t (p:Int×Int) (v:Vr) (t:Tm):(clT p v t).nodes<=t.nodes+4:=by
 unfold clT
 (repeat' split)<;>simp[Tm.nodes,Xs,QX]<;>omega
mutual
theorem X6G (vl:List Tm):∀t:Tm,(Qa vl t).nodes<=t.nodes+X1f vl (Qh t)
 | .mk o n ks=>by
   have h:=X82 vl ks;simp only[Qa,Qh];by_cases e:o=24
   .simp only[N9 e,X1f,Na,List.sum_cons];omega
   simp only[N6 e,Tm.nodes];omega
theorem X82 (vl:List Tm):∀l:List Tm,Xs (Qr vl l)<=Xs l+X1f vl (Qf l)
 |[]=>by simp[Qr,Xs]
 | t::l=>by
   have h1:=X6G vl t;have h2:=X82 vl l;simp only[Qr,Xs,Qf,X8i];omega
end
theorem X9n {vl:List Tm} (h:∀u∈vl,u.nodes<=1030):∀l:List Int,X1f vl l<=2*szP vl l
 |[]=>by simp[X1f,szP]
 | n::l=>by
   have ih:=X9n h l;simp only[X1f,szP,Na,List.sum_cons]at*
   have:((vl[n.toNat]?).getD (.mk 0 0 [])).nodes<=1030:=by
    cases hv:vl[n.toNat]? with
    |none=>simp[Tm.nodes,Xs]
    |some u=>exact h u (N3 hv)
   omega
theorem X6c (vl:List Tm):∀l:List Int,szP vl l<=l.length*1025
 |[]=>by simp[szP]
 | n::l=>by
   have ih:=X6c vl l;simp only[szP,Na,List.sum_cons,List.length_cons,NJ]at*;omega
theorem X51 (st:List Tm->Vr->Tm->Tm×Tm) (vars:List Vr) (body:List St):∀k,(vlG st vars body k).length=vars.length
 |0=>by simp[vlG,vl0]
 | k +1=>by
   have ih:=X51 st vars body k;simp only[vlG];split
   .split
    .simp[ih]
    exact ih
   exact ih
theorem X04 {vars:List Vr} {u:Tm} (h:u∈vl0 vars):u.nodes=1:=by
 obtain⟨i,hi⟩:=Nu.1 h;cases hv:vars[i]? with
 |none=>simp[vl0,hv]at hi
 | some v=>
   rw[X1l hv]at hi;cases hi;split<;>simp[QX,tref,Tm.nodes,Xs]
theorem X9K {T:Type} {l:List T} {i:Nat} {x y:T} (h:y∈l.set i x):y=x\/y∈l:=(Dg h).symm
theorem X3r (vars:List Vr) (vl:List Tm) (w:Vr) (t:Tm):(stP vars vl w t).2.nodes<=1030:=by
 unfold stP;split
 .simp[X18,Tm.nodes,Xs]
 simp only;split
 .rename_i hc;have:=X7t (rgP vars (Qa vl t)).1 w (Qa vl t);omega
 simp[X18,Tm.nodes,Xs]
theorem X78 (t:Tm):(lwT t).nodes<=2000:=by
 unfold lwT;split
 .decide
 omega
theorem Xan (vars:List Vr) (vl:List Tm) (w:Vr) (t:Tm):(stQ vars vl w t).2.nodes<=2010:=by
 have h1:=X78 (Qa vl t);have:=X7t (rgQ vars (lwT (Qa vl t))).1 w (lwT (Qa vl t));unfold stQ;simp only;omega
theorem X0V {st:List Tm->Vr->Tm->Tm×Tm} {B:Nat} (hst:∀vl w t,(st vl w t).2.nodes<=B) (hB:1<=B) (vars:List Vr) (body:List St):∀k,∀u∈vlG st vars body k,u.nodes<=B
 |0,u,h=>by rw[X04 h];exact hB
 | k + 1,u,h=>by
   have ih:=X0V hst hB vars body k;simp only[vlG]at h;split at h
   .split at h
    .rcases X9K h with rfl|h
     .exact hst _ _ _
     exact ih u h
    exact ih u h
   exact ih u h
mutual
theorem X5a {vars:List Vr} {vl:List Tm} (hl:vl.length=vars.length) (h:∀u∈vl,Xt vars true u=true):∀t:Tm,Xt vars false t=true->Xt vars true (Qa vl t)=true
 | .mk o n ks,hf=>by
   simp only[Xt,N4]at hf;by_cases e:o=24
   .subst e;obtain⟨_,v,hv,_⟩:=Wn hf.1;have hlt:n.toNat<vl.length:=by rw[hl];exact(N5.1 hv).1
    simp only[Qa,NG,Nr hlt,Option.getD_some];exact h _ (Di _)
   simp only[Qa,N6 e,Xt,X03,N4];exact⟨by rw[X8a e true];exact hf.1,X5R hl h ks hf.2⟩
theorem X5R {vars:List Vr} {vl:List Tm} (hl:vl.length=vars.length) (h:∀u∈vl,Xt vars true u=true):∀l:List Tm,Q0 vars false l=true->Q0 vars true (Qr vl l)=true
 |[],_=>rfl
 | t::l,hf=>by
   simp only[Q0,N4]at hf;simp only[Qr,Q0,X5a hl h t hf.1,X5R hl h l hf.2,Bool.and_self]
end
theorem X54 (vars:List Vr) (x:Int):Xt vars true (QX x)=true:=by simp[QX,Xt,Q0,XK,XI]
theorem form_cl {vars:List Vr} {t:Tm} (p:Int×Int) (v:Vr) (h:Xt vars true t=true):Xt vars true (clT p v t)=true:=by
 unfold clT
 (repeat' split)<;>simp[Xt,Q0,XK,XI,h,X54]
theorem X5s (vars:List Vr):∀n,Xt vars true (ZE n)=true
 |0=>X54 vars 0
 |n+1=>by simp[ZE,Xt,Q0,XK,XI,X5s vars n]
theorem X9V {vars:List Vr} {t:Tm} (h:Xt vars true t=true):Xt vars true (lwT t)=true:=by
 unfold lwT;split
 .exact X5s vars 13
 exact h
theorem X9q {f:Fl} (h:XU f=0):∀k,∀u∈vlG (stQ f.vars) f.vars f.body k,Xt f.vars true u=true
 | 0,u,hu=>by
   obtain⟨i,hi⟩:=Nu.1 hu;obtain⟨h1,_,h3⟩:=rl_0 (XA h).2.1
   have hlt:i<f.vars.length:=by
    have h4:=(N5.1 hi).1;have h5:(vlG (stQ f.vars) f.vars f.body 0).length=f.vars.length:=X51 _ _ _ 0;omega
   obtain⟨x,y,h5,_,h6⟩:=h3 i _ (Nr hlt);have e:(vl0 f.vars)[i]? =some u:=hi;rw[h5]at e;cases e;rcases h6 with⟨_,hs⟩|⟨hb,_⟩
   .exact hs.form
   rcases hb with hb|hb|hb
   .rw[X04 hu]at hb;omega
   .have:=td_le u;rw[X04 hu]at this;omega
   have:=X1l (vars:=f.vars) (i:=i) (Nr hlt);rw[h5]at this;simp only[Option.some.injEq]at this;subst this;split at hb
   .rw[X54]at hb;cases hb
   rename_i hk;simp[tref,Xt,Q0,XK,XI,Zj,hlt,hk]at hb
 | k + 1,u,hu=>by
   have ih:=X9q h k;simp only[vlG]at hu;split at hu
   .rename_i s hs;split at hu
    .rcases X9K hu with rfl|hu
     .have ht:=(Z8 f.body true k s (XA h).2.2.2.1 hs).1;unfold stQ;exact form_cl _ _ (X9V (X5a (X51 _ _ _ k) ih _ (QA ht)))
     exact ih u hu
    exact ih u hu
   exact ih u hu
theorem X6o:∀(l:List St) (k j:Nat) (a:Int),(cuL l k)[j]? =some a->∃(i:Nat) (s:St),a=((k+i:Nat):Int)/\l[i]? =some s/\s.do_=0/\∀(q:Nat) (t:St),q<=i->l[q]? =some t->t.do_≠3/\t.do_≠4/\t.do_≠5
 |[],_,_,_,h=>by simp[cuL]at h
 | s ::l,k,j,a,h=>by
   simp only[cuL]at h;split at h
   .simp at h
   rename_i hc;simp only[not_or]at hc
   have Xy:∀j':Nat,(cuL l (k+1))[j']? =some a->∃(i:Nat) (s':St),a=((k+i:Nat):Int)/\(s::l)[i]? =some s'/\s'.do_=0/\∀(q:Nat) (t:St),q<=i->(s::l)[q]? =some t->t.do_≠3/\t.do_≠4/\t.do_≠5:=by
    intro j' h';obtain⟨i,s',h1,h2,h3,h4⟩:=X6o l (k+1) j' a h';refine⟨i+1,s',by rw[h1];congr 1;omega,by simpa using h2,h3,fun q t hq ht=>?_⟩;cases q with
    |zero=>cases ht;exact⟨hc.1,hc.2.1,hc.2.2⟩
    |succ q=>exact h4 q t (by omega) (by simpa using ht)
   split at h
   .rename_i h0;cases j with
    | zero=>
      simp only[List.getElem?_cons_zero,Option.some.injEq]at h;refine⟨0,s,by rw[<-h];simp,rfl,h0,fun q t hq ht=>?_⟩;have:q=0:=by omega
      subst this;cases ht;exact⟨hc.1,hc.2.1,hc.2.2⟩
    |succ j=>exact Xy j (by simpa using h)
   exact Xy j h
theorem X3w:∀(l:List St) (k:Nat),(cuL l k).Pairwise (· < ·)/\∀a∈cuL l k,(k:Int)<=a
 |[],_=>by simp[cuL]
 | s ::l,k=>by
   obtain⟨h1,h2⟩:=X3w l (k+1);simp only[cuL];split
   .simp
   split
   .refine⟨NV.2 ⟨fun a ha=>?_,h1⟩,fun a ha=>?_⟩
    .have:=h2 a ha;omega
    rcases Ni.1 ha with rfl|ha
    .omega
    have:=h2 a ha;omega
   exact⟨h1,fun a ha=>by have:=h2 a ha;omega⟩
theorem X8W:∀(l:List St) (k i:Nat) (s:St),l[i]? =some s->s.do_=0->(∀(q:Nat) (t:St),q<=i->l[q]? =some t->t.do_≠3/\t.do_≠4/\t.do_≠5)->((k+i:Nat):Int)∈cuL l k
 | s::l,k,0,s',h,h0,hc=>by
   obtain rfl:s=s':=by simpa using h
   have h1:=hc 0 s (ND _) rfl;simp only[cuL];rw[N6 (by omega),N9 h0];simp
 | s::l,k,i+1,s',h,h0,hc=>by
   have h1:=hc 0 s (Nc _) rfl;have ih:=X8W l (k+1) i s' (by simpa using h) h0 fun q t hq ht=>hc (q+1) t (by omega) (by simpa using ht);rw[show k+1+i=k+(i+1) by omega]at ih;simp only[cuL];rw[N6 (by omega)];split
   .exact Nx _ ih
   exact ih
 |[],_,_,_,h,_,_=>by simp at h
theorem X4S (st:List Tm->Vr->Tm->Tm×Tm) (vars:List Vr) (body:List St) (p:Nat):∀n,(∀(q:Nat) (t:St),p<=q->q<p+n->body[q]? =some t->t.do_≠0)->vlG st vars body (p+n)=vlG st vars body p
 |0,_=>rfl
 | n+1,h=>by
   have ih:=X4S st vars body p n fun q t h1 h2=>h q t h1 (by omega);rw[<-ih,show p+(n+1)=(p+n)+1 by omega];simp only[vlG];split
   .rename_i s hs;rw[N6 (h _ s (by omega) (by omega) hs)]
   rfl
def vqG (st:List Tm->Vr->Tm->Tm×Tm) (vars:List Vr) (body:List St) (j:Nat):List Tm:=
 match j with
 |0=>vl0 vars
 | j+1=>match(cuL body 0)[j]? with
   |some a=>vlG st vars body (a.toNat+1)
   |none=>vl0 vars
theorem vq_get {st:List Tm->Vr->Tm->Tm×Tm} {vars:List Vr} {body:List St} {j:Nat} {a:Int} (h:(cuL body 0)[j]? =some a):vqG st vars body j=vlG st vars body a.toNat:=by
 obtain⟨i,s,h1,h2,h3,h4⟩:=X6o body 0 j a h;rw[Nat.zero_add]at h1;have hi:a.toNat=i:=by omega
 have hasc:=(X3w body 0).1;cases j with
 | zero=>
   rw[hi]
   have:=X4S st vars body 0 i fun q t _ hq ht h0=>by
    have hm:=X8W body 0 q t ht h0 fun q' t' hq'=>h4 q' t' (by omega);obtain⟨j',hj'⟩:=Nu.1 hm
    have:(a:Int)<=((0+q:Nat):Int):=by
     cases j' with
     |zero=>rw[h]at hj';cases hj';exact NX _
     | succ j'=>
       have e1:=N5.1 h;have e2:=N5.1 hj';have:=List.pairwise_iff_getElem.1 hasc 0 (j'+1) e1.1 e2.1 (by omega);rw[e1.2,e2.2]at this;omega
    omega
   rw[Nat.zero_add]at this;rw[this];rfl
 | succ j=>
   have hlt:j<(cuL body 0).length:=by have:=(N5.1 h).1;omega
   obtain⟨b,hb,_⟩:=Xw hlt
   have hab:b<a:=by
    have e1:=N5.1 h;have e2:=N5.1 hb;have:=List.pairwise_iff_getElem.1 hasc j (j+1) e2.1 e1.1 (by omega);rw[e1.2,e2.2]at this;exact this
   have hb0:=(X3w body 0).2 b (N3 hb);simp only[vqG,hb];obtain⟨n,hn⟩:∃n,i=(b.toNat+1)+n:=⟨i - (b.toNat+1),by omega⟩;rw[hi,hn]
   exact(X4S st vars body (b.toNat+1) n fun q t hq1 hq2 ht h0=>by
    have hm:=X8W body 0 q t ht h0 fun q' t' hq'=>h4 q' t' (by omega);obtain⟨j',hj'⟩:=Nu.1 hm;have e1:=N5.1 hj';have e2:=N5.1 hb;have e3:=N5.1 h;rcases Nat.lt_trichotomy j' (j+1)with hlt|heq|hgt
    .rcases Nat.lt_or_eq_of_le (Nat.le_of_lt_succ hlt)with hl|rfl
     .have:=List.pairwise_iff_getElem.1 hasc j' j e1.1 e2.1 hl;rw[e1.2,e2.2]at this;omega
     rw[hb]at hj';cases hj';omega
    .subst heq;rw[h]at hj';cases hj';omega
    have:=List.pairwise_iff_getElem.1 hasc (j+1) j' e3.1 e1.1 hgt;rw[e1.2,e3.2]at this
    omega).symm
theorem vq_succ {st:List Tm->Vr->Tm->Tm×Tm} {vars:List Vr} {body:List St} {j:Nat} {a:Int} (h:(cuL body 0)[j]? =some a):vqG st vars body (j+1)=vlG st vars body (a.toNat+1):=by
 simp only[vqG,h]
theorem X5Y (bl:List Tm) (l:List Tm) (t:Tm):Qr bl (l++[t])=Qr bl l++[Qa bl t]:=by
 induction l with
 |nil=>simp[Qr]
 |cons a l ih=>simp only[List.cons_append,Qr,ih]
theorem X4E (l:List Tm) (t:Tm):Xg (l++[t])=Xg l++[t.enc]:=by simp[WZ]
theorem X8T (vars:List Vr) (hv:W8 vars=0) (hl:vars.length<=1000000) (t:Tm) (hn:t.nodes<=1000000000) (d:Nat):
  Con prog 121 true [lV vars,aT t] (.tup [li (if QC vars false t=0 then(rgP vars t).1.1 else 0),li (if QC vars false t=0 then(rgP vars t).1.2 else 0),li (QC vars false t)]) none d:=by
 have cv:=X5n vars hl;rw[hv]at cv;have hg:=Qz hv;have ct:=X2W vars false hg (by omega) t hn;have cr:=fun h=>X58 vars false hg t (QA h);have hok:=fun h=>X81 (vars:=vars) (inp:=false) (t:=t) h;obtain⟨C,hC⟩:∃x,QC vars false t=x:=⟨_,rfl⟩;rw[hC]at ct cr hok⊢;obtain⟨⟨⟨p1,p2⟩,b⟩,hR⟩:∃x,rgP vars t=x:=⟨_,rfl⟩;rw[hR]at cr hok⊢;simp only at hok⊢;obtain⟨o,n,ks⟩:=t;simp only[aT,Tm.enc,Na,Nb]at ct cr;clear hR hC hv hg;refine X2 Tryz.func121 ?_;simp only[Tryz.f121];simp only[aT,Tm.enc,Na,Nb];refine X4 ?_;refine X0<|X0<|(Xa cv ?_);refine(X8 (fun h3=>?_) fun h3=>?_)
 .exact absurd h3 (by simp)
 refine X0<|X0<|(Xa ct ?_);refine(X8 (fun h8=>?_) fun h8=>?_)
 .rw[N6 h8,N6 h8];exact X7
 have h0:C=0:=by simpa using h8
 subst h0;have cr:=cr rfl;rw[N9 rfl,N9 rfl];clear ct h8 hok;refine X0<|(Xa cr ?_);refine X0<|(N0 ?_);exact Qd
set_option maxHeartbeats 16000000 in
theorem X9e (f:Fl) (hv:W8 f.vars=0) (hl:f.vars.length<=1000000) (t:Tm) (hn:t.nodes<=1000000000) (v:Vr) (d:Nat):
  Con prog 87 false [aF f,aT t,aV v] (.tup [aT (if QC f.vars false t=0 then clT (rgP f.vars t).1 v t else t),lb (decide (QC f.vars false t=0))]) none d:=by
 have cr:=X8T f.vars hv hl t hn;obtain⟨vars,hats,body⟩:=f;simp only at cr⊢;obtain⟨C,hC⟩:∃x,QC vars false t=x:=⟨_,rfl⟩;rw[hC]at cr⊢;obtain⟨⟨⟨p1,p2⟩,b⟩,hR⟩:∃x,rgP vars t=x:=⟨_,rfl⟩;rw[hR]at cr⊢;obtain⟨vn,vk,vl,vh,vi⟩:=v;obtain⟨T1,hT1⟩:∃x,(if vh<p2 then Tm.mk 21 0 [t,QX vh] else t)=x:=⟨_,rfl⟩;obtain⟨RS,hRS⟩:∃x,(if C=0 then clT (p1,p2) ⟨vn,vk,vl,vh,vi⟩ t else t)=x:=⟨_,rfl⟩;rw[hRS];unfold clT at hRS;simp only[hT1]at hRS;clear hC hR hv;obtain⟨o,n,ks⟩:=t;simp only[aT,Tm.enc,Na,Nb]at cr;refine X2 Tryz.func87 ?_;simp only[Tryz.f87];simp only[aF,aV,aT,Fl.enc,Vr.enc,Tm.enc,Na,Nb];refine X4 ?_;refine X0<|(Xa cr ?_);refine X0<|(X8 (fun h3=>?_) fun h3=>?_)
 .have h0:¬C=0:=by simpa using h3
  rw[N6 h0]at hRS;subst hRS;rw[decide_eq_false h0];clear cr hT1;exact X7
 have h0:C=0:=by simpa using h3
 subst h0;simp only[NG,N9 rfl]at hRS⊢;clear cr h3;refine(XY [4,5,6,8] (fun(z:Tm)=>[]) (fun(z:Tm)=>[(4,.box [.c (iC z.op),.c (iC z.n),.c (.sl 3 (Xg z.kids))]),(5,.box [.c (sC vn),.c (iC vk),.c (iC vl),.c (iC vh),.c (iC vi)]),(6,.box [.c (iC 0),.c (iC 0),.c (.lit XR)])]) (fun(z:Tm)=>z=T1) ?_ ?_)
 .refine(X8 (fun h8=>?_) fun h8=>?_)
  .refine X1 ?_;exact⟨.mk 21 0 [.mk o n ks,QX vh],by rw[<-hT1,N9 (by simpa using h8)],le_trans (ZH (rows':=[[iC o,iC n,.sl 3 (Xg ks)],[iC 0,iC vh,.sl 3 []]]) 30 rfl (by simp[nlR,nlL])) (le_trans (XL 30 rfl) (QJ (fun n=>n) [] rfl (by simp[upS,Ql,rwO]) (by simp[upS,rwO,Tm.op,Tm.n,Tm.kids,QX]) (by simp[upS,rwO])))⟩
  exact⟨.mk o n ks,by rw[<-hT1,N6 (by simpa using h8)],QJ (fun n=>n) [] rfl (by simp[upS,Ql]) (by simp[upS,Tm.op,Tm.n,Tm.kids]) (by simp[upS])⟩
 rintro⟨o1,n1,k1⟩ hz;simp only[LN,Nat.reduceBEq,Nat.reduceLT];rw[<-hz]at hRS;simp only[Tm.op,Tm.n,Tm.kids];clear hz hT1;refine X0<|(X8 (fun h13=>?_) fun h13=>?_)
 .rw[N9 (by simpa using h13)]at hRS;subst hRS;refine X1 ?_;refine Q6 (le_trans (ZH (rows':=[[iC o1,iC n1,.sl 3 (Xg k1)],[iC 0,iC vl,.sl 3 []]]) 40 rfl (by simp[nlR,nlL])) (le_trans (XL 40 rfl) (Zo (by simp[rwO,HS.frz,X0R,RV.frz,TV.frz,CV.frz,Ob.frz,del];rfl)))) ?_;exact X7
 rw[N6 (by simpa using h13)]at hRS;subst hRS;exact X7
set_option maxHeartbeats 16000000 in
theorem X96 (vars:List Vr) (vl:List Tm) (hvl:vl.length=vars.length) (hvn:∀u∈vl,u.nodes<=1000000) (t:Tm):t.nodes<=1000000->Xt vars false t=true->
  ConL prog 86 [(1000000,.row 56 3 (Xg vl))] [aT t,.one (.own 1000000)] (.v (aT (Qa vl t))):=by
 induction t using Tm.ind with
 |h o n ks ih=>
 intro hn hf;simp only[Tm.nodes]at hn;simp only[Xt,N4]at hf;have hlen:=Qy ks;refine X3C Tryz.func86 ?_ (pin_l rfl);simp only[Tryz.f86];simp only[aT,Tm.enc,Qa];refine X4 ?_;refine X0<|(X8 (fun h2=>?_) fun h2=>?_)
 .subst h2;obtain⟨hn0,v,hv,_⟩:=Wn hf.1;obtain⟨m,rfl⟩:∃m:Nat,n=m:=⟨n.toNat,by omega⟩;rw[Int.toNat_natCast]at hv⊢;have hlt:m<vl.length:=by rw[hvl];exact(N5.1 hv).1
  obtain⟨u,hu,_⟩:=Xw hlt;have hu':=Qc hu;have cu:=X0p u (hvn u (N3 hu));rw[N9 rfl,hu,Option.getD_some];obtain⟨uo,un,uk⟩:=u;simp only[aT,Tm.enc,Na,Nb]at hu' cu⊢;clear ih hf hv hlt hu hn0 hvn hvl hn hlen;refine X0<|(Xa cu ?_);exact Xn ⟨.inr rfl,X3X (by simp;rfl) (by simp[Xl]) (by simp[*])⟩
 rw[N6 h2]
 obtain⟨A,hA0,hAn,hAs,hAl⟩:∃A:Nat->List (List CD),A 0=[]/\A ks.length=Xg (Qr vl ks)/\(∀(k:Nat) (t:Tm),ks[k]? =some t->A (k+1)=A k++[(Qa vl t).enc])/\∀k,(A k).length<=k:=
  ⟨fun k=>Xg (Qr vl (ks.take k)),by simp[Qr],by simp,fun k t he=>by simp only[List.take_add_one,he,Option.toList_some,X5Y,X4E],fun k=>by simp only[X7A,X03,Ns];omega⟩
 simp only[aT,Tm.enc,Na,Nb];rw[<-hAn];clear h2 hAn;refine X4 ?_;refine X0<|X0<|X1 ?_;refine X3<|(Xb [1,2,4,18,19] (fun(k:Nat)=>[(5,.v (.one (.own 1005))),(20,.v (li k))]) (fun(k:Nat)=>[(2,.box [.c (iC o),.c (iC n),.c (.sl 3 (Xg ks))]),(4,.box [.c (iC 0),.c (iC 0),.c (.lit XR)]),(1005,.row 56 3 (A k)),(1000000,.row 56 3 (Xg vl))]) (fun(k:Nat)=>k<=ks.length) (fun(k:Nat)=>ks.length - k) (0:Nat) (Nc _) ?_);rintro k hk;simp only[LN,Nat.reduceBEq,Nat.reduceLT];clear hA0;refine(XS (fun h9=>X6 ?_) fun h9=>?_)
 .have hlt:k<ks.length:=by omega
  obtain⟨⟨eo,en,ek⟩,he,hd⟩:=Xw hlt;have he':=Qc he;simp only[Tm.enc]at he';have hmem:Tm.mk eo en ek∈ks:=N3 he;have hnm:=W3 hmem;have c:=ih _ hmem (by omega) (QB hf.2 _ hmem);have hAs:=hAs k _ he;have hal:=hAl k;rcases hR:Qa vl (.mk eo en ek)with⟨ro,rn,rk⟩;rw[hR]at c hAs;simp only[aT,Tm.enc,Na,Nb]at c hAs;have hw1:=Xz hlt (by omega);have hk1:k+1<=ks.length:=hlt;have hroom:QF ((A k).length+1) 40:=XO (by omega) (by decide);clear hlt h9 ih hmem hd he hAl hR hf hvn;refine X0<|X3<|X0<|X1 ?_;refine(X6l 3 [(1000000,.row 56 3 (Xg vl))] [.agg [.c (iC eo),.c (iC en),.c (.sl 3 (Xg ek))],.one (.own 1000000)] (fun n=>n) (.v (.agg [.c (iC ro),.c (iC rn),.c (.sl 3 (Xg rk))])) [] [] rfl (by simp[*];rfl) trivial (by simp;rfl) (X2Q (by simp[Ob.isRow]) (by simp)) (by simp) c rfl (by simp[*];rfl) trivial ?_);refine X1 ?_;exact Xj (k+1) (hk1)
 obtain rfl:k=ks.length:=by omega
 clear hAs ih hf;refine(Xd ?_);refine Q6 (XL 1005 rfl) ?_;refine X4 ?_;refine X4 ?_;exact Xn ⟨.inr rfl,X3X (by simp;rfl) (by simp[Xl]) (by simp[*])⟩
set_option maxHeartbeats 16000000 in
theorem XaM (vars:List Vr) (vl:List Tm) (hvl:vl.length=vars.length) (t:Tm):t.nodes<=1000000->Xt vars false t=true->
  ConL prog 89 [(1000000,.row 56 3 (Xg vl))] [aT t,.one (.own 1000000)] (.v (aT (Qa vl t))):=by
 induction t using Tm.ind with
 |h o n ks ih=>
 intro hn hf;simp only[Tm.nodes]at hn;simp only[Xt,N4]at hf;have hlen:=Qy ks;refine X3C Tryz.func89 ?_ (pin_l rfl);simp only[Tryz.f89];simp only[aT,Tm.enc,Qa];refine X4 ?_;refine X0<|(X8 (fun h2=>?_) fun h2=>?_)
 .subst h2;obtain⟨hn0,v,hv,_⟩:=Wn hf.1;obtain⟨m,rfl⟩:∃m:Nat,n=m:=⟨n.toNat,by omega⟩;rw[Int.toNat_natCast]at hv⊢;have hlt:m<vl.length:=by rw[hvl];exact(N5.1 hv).1
  obtain⟨u,hu,_⟩:=Xw hlt;have hu':=Qc hu;rw[N9 rfl,hu,Option.getD_some];obtain⟨uo,un,uk⟩:=u;simp only[aT,Tm.enc,Na,Nb]at hu'⊢;clear ih hf hv hlt hu hn0 hvl hn hlen;refine X4 ?_;exact Xn ⟨.inr rfl,X3X (by simp;rfl) (by simp[Xl]) (by simp[*])⟩
 rw[N6 h2]
 obtain⟨A,hA0,hAn,hAs,hAl⟩:∃A:Nat->List (List CD),A 0=[]/\A ks.length=Xg (Qr vl ks)/\(∀(k:Nat) (t:Tm),ks[k]? =some t->A (k+1)=A k++[(Qa vl t).enc])/\∀k,(A k).length<=k:=
  ⟨fun k=>Xg (Qr vl (ks.take k)),by simp[Qr],by simp,fun k t he=>by simp only[List.take_add_one,he,Option.toList_some,X5Y,X4E],fun k=>by simp only[X7A,X03,Ns];omega⟩
 simp only[aT,Tm.enc,Na,Nb];rw[<-hAn];clear h2 hAn;refine X4 ?_;refine X0<|X0<|X1 ?_;refine X3<|(Xb [1,4,5,22,23] (fun(k:Nat)=>[(24,.v (li k))]) (fun(k:Nat)=>[(2,.box [.c (iC o),.c (iC n),.c (.sl 3 (Xg ks))]),(4,.box [.c (iC 0),.c (iC 0),.c (.lit XR)]),(5,.box [.c (iC o),.c (iC n),.own 1005]),(1005,.row 56 3 (A k)),(1000000,.row 56 3 (Xg vl))]) (fun(k:Nat)=>k<=ks.length) (fun(k:Nat)=>ks.length - k) (0:Nat) (Nc _) ?_ (X59));rintro k hk;simp only[LN,Nat.reduceBEq,Nat.reduceLT];clear hA0;refine(XS (fun h9=>X6 ?_) fun h9=>?_)
 .have hlt:k<ks.length:=by omega
  obtain⟨⟨eo,en,ek⟩,he,hd⟩:=Xw hlt;have he':=Qc he;simp only[Tm.enc]at he';have hmem:Tm.mk eo en ek∈ks:=N3 he;have hnm:=W3 hmem;have c:=ih _ hmem (by omega) (QB hf.2 _ hmem);have hAs:=hAs k _ he;have hal:=hAl k;rcases hR:Qa vl (.mk eo en ek)with⟨ro,rn,rk⟩;rw[hR]at c hAs;simp only[aT,Tm.enc,Na,Nb]at c hAs;have hw1:=Xz hlt (by omega);have hk1:k+1<=ks.length:=hlt;have hroom:QF ((A k).length+1) 40:=XO (by omega) (by decide);clear hlt h9 ih hmem hd he hAl hR hf;refine X0<|X3<|X0<|X1 ?_;refine Q6 (s':=⟨⟨38,none⟩,[(1,.v (.one (.own 1000000))),(4,.v (.one (.at_ 4 0))),(5,.v (.one (.at_ 5 0))),(7,.v (.one (.at_ 7 0))),(22,.v (lT ks)),(23,.v (li ks.length)),(24,.v (li k))],[(2,.box [.c (iC o),.c (iC n),.c (.sl 3 (Xg ks))]),(4,.box [.c (iC 0),.c (iC 0),.c (.lit XR)]),(5,.box [.c (iC o),.c (iC n),.own 1005]),(7,.box [.c (iC eo),.c (iC en),.c (.sl 3 (Xg ek))]),(1005,.row 56 3 (A k)),(1000000,.row 56 3 (Xg vl))]⟩) X59 ?_;refine(X55 (fun D=>⟨⟨38,none⟩,(1,.v (.one (.own 1000000)))::(4,.v (.one (.at_ 4 0)))::(5,.v (.one (.at_ 5 0)))::(7,.v (.one (.at_ 7 0)))::(22,.v (lT ks))::(23,.v (li ks.length))::(24,.v (li k))::oL (D 0) (28,.v (.one (.at_ 5 2))) (oL (D 1) (29,.v (.one (.own 1005))) (oL (D 2) (30,.v (.agg [.c (iC eo),.c (iC en),.c (.sl 3 (Xg ek))])) (oL (D 3) (31,.v (.one (.own 1000000))) (oL (D 4) (32,.v (.agg [.c (iC ro),.c (iC rn),.c (.sl 3 (Xg rk))])) (oL (D 5) (33,.v (.one (.c (.sl 3 [[iC ro,iC rn,.sl 3 (Xg rk)]])))) (oL (D 6) (34,.v (.one (.own 34))) (oL (D 7) (35,.v (.one (.at_ 5 2))) ([])))))))),(2,.box [.c (iC o),.c (iC n),.c (.sl 3 (Xg ks))])::(4,.box [.c (iC 0),.c (iC 0),.c (.lit XR)])::(5,.box [.c (iC o),.c (iC n),if D 8=true then .own 34 else .own 1005])::(7,.box [.c (iC eo),.c (iC en),.c (.sl 3 (Xg ek))])::oL (D 6) (34,.row 56 3 (A k++[[iC ro,iC rn,.sl 3 (Xg rk)]])) (oL (!D 6) (1005,.row 56 3 (A k)) ((1000000,.row 56 3 (Xg vl))::[]))⟩) [(0,[],[1,6,7,8]),(1,[0],[6,7,8]),(2,[],[4,5,6,7,8]),(3,[],[4,5,6,7,8]),(4,[2,3],[5,6,7,8]),(5,[2,3,4],[6,7,8]),(6,[0,1,2,3,4,5],[7,8]),(7,[0,1,2,3,4,5,6],[8]),(8,[0,1,2,3,4,5,6,7],[])] rfl (by kernel_rfl) (by kernel_rfl) (Zo (by simp)) (fun D=>⟨?_,?_,?_,?_,?_,?_,?_,?_,?_,trivial⟩) ?_)
  all_goals try(intro h0 h1 h2;simp only[allM]at h1 h2)
  case refine_5=>exact Qk.lent (fun n=>n) c rfl (by simp[h0,h1,h2];rfl) (X2Q (by simp[h0,h1,h2,Ob.isRow]) (by simp)) (by simp) rfl (Zo (by simp[h0,h1,h2]))
  case refine_6=>refine Qk.evZ [] rfl (by simp[h0,h1,h2];rfl) trivial ?_;exact le_trans (XL 33 (by simp[h0,h1,h2];exact⟨rfl,rfl,rfl⟩)) (Zo (by simp[h0,h1,h2,HS.frz,X0R,RV.frz,TV.frz,CV.frz,Ob.frz]))
  all_goals first
   |(refine Qk.evZ [] rfl (by simp[h0,h1,h2,hroom,he',XG,Qp,XW,cellsOf,WG,WE,X0O,WT,Zm,Wt];rfl) trivial ?_;exact Zo (by simp[h0,h1,h2]))
   |refine Q6 (s':=⟨⟨38,none⟩,[(1,.v (.one (.own 1000000))),(4,.v (.one (.at_ 4 0))),(5,.v (.one (.at_ 5 0))),(7,.v (.one (.at_ 7 0))),(22,.v (lT ks)),(23,.v (li ks.length)),(24,.v (li k))],[(2,.box [.c (iC o),.c (iC n),.c (.sl 3 (Xg ks))]),(4,.box [.c (iC 0),.c (iC 0),.c (.lit XR)]),(5,.box [.c (iC o),.c (iC n),.own 1005]),(7,.box [.c (iC eo),.c (iC en),.c (.sl 3 (Xg ek))]),(1005,.row 56 3 (A k++[[iC ro,iC rn,.sl 3 (Xg rk)]])),(1000000,.row 56 3 (Xg vl))]⟩) X59 ?_
  refine X1 ?_;exact Xj (k+1) hk1 (hl:=by rw[hAs];exact ZC)
 obtain rfl:k=ks.length:=by omega
 clear hAs ih hf;refine(Xd ?_);refine Q6 (XL 1005 rfl) ?_;refine X4 ?_;exact Xn ⟨.inr rfl,X3X (by simp;rfl) (by simp[Xl]) (by simp[*])⟩
end Go.Proofs.YtdccocolnaklkaaGreatDoor
