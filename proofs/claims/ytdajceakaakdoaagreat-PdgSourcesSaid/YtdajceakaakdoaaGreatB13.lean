/- Contracts of functions and plain facts about what they compute. Conditions: as each theorem states. -/
import Derived.Test.YtdajceakaakdoaaGreatB12
import Derived.Test.YtdajceakaakdoaaGreatB1
import Derived.Test.YtdajceakaakdoaaGreatB2
import Derived.Test.YtdajceakaakdoaaGreatB10
import Derived.Test.YtdajceakaakdoaaGreatB11
import Derived.Test.YtdajceakaakdoaaGreatH5
import Derived.Test.YtdajceakaakdoaaGreatB7
set_option linter.unusedSimpArgs false
set_option linter.unusedVariables false
set_option linter.unnecessarySimpa false
set_option maxRecDepth 100000
set_option maxHeartbeats 2000000
namespace Go.Proofs.YtdajceakaakdoaaGreat
open Go Go.Hl
open Tryz(prog)
@[simp] theorem fsDp2:X4X prog 51=some [true,true,true]/\arrI prog 51=none:=by and_intros<;>kernel_rfl
def X5Y:List Dp->Dp->Nat->Int
 |[],_,_=>-1
 |y::l,x,k=>if x=y then k else X5Y l x (k+1)
theorem X9Q:∀(l:List Dp) (x:Dp) (k:Nat),0<=X5Y l x k↔x∈l
 |[],x,k=>by simp[X5Y]
 | y::l,x,k=>by
   have ih:=X9Q l x (k+1);unfold X5Y;by_cases h:x=y
   .rw[Na h];simp[h]
   rw[N7 h,ih];simp[h]
theorem idxD_iff (l:List Dp) (x:Dp) (k:Nat):decide (0<=X5Y l x k)=decide (x∈l):=by
 simp only[X9Q]
abbrev aDp (x:Dp):TV:=.agg [.c (iC x.f),.c (iC x.t),.c (iC x.k)]
theorem idxD_con (l:List Dp) (x:Dp) (hl:l.length<=1000000000) (d:Nat):Con prog 214 true [.one (.c (.sl 3 (XG l))),aDp x] (.v (li (X5Y l x 0))) none d:=by
 obtain⟨res,hres⟩:∃r,X5Y l x 0=r:=⟨_,rfl⟩;rw[hres];obtain⟨xf,xt,xk⟩:=x;refine X6 Tryz.func214 ?_;simp only[Tryz.f214];simp only[aDp];refine X1 ?_;refine X0<|X0<|X2 ?_;refine X3<|(Xd [0,3,7] (fun(z:Nat)=>[(8,.v (li z))]) (fun z=>[(3,.box [.c (iC xf),.c (iC xt),.c (iC xk)])]) (fun z=>z<=l.length/\X5Y (l.drop z) ⟨xf,xt,xk⟩ z=res) (fun z=>l.length - z) (0:Nat) ⟨Nq _,hres⟩ ?_ ?_)
 .exact X4 (fun n=>n) []
 rintro k ⟨hk,hJ⟩;simp only[upS,X5,Xy]
 try simp only[X5,KN,Nat.reduceBEq,Nf,Nc,ins,Nat.reduceLT]
 clear hres;refine X1 ?_;refine X0<|(X8 rfl (fun h4=>Xb ?_) (fun h4=>?_))
 ·(try simp only[BN]at h4);have hlt:k<l.length:=by first|omega|simpa using h4
  obtain⟨b,he,hd⟩:=Xu hlt;have hw1:=XE hlt (by omega);have hk1:k+1<=l.length:=hlt;have hye:=X02 he;rw[hd]at hJ;simp only[X5Y]at hJ;obtain⟨yf,yt,yk⟩:=b;simp only[Dp.enc]at hye;simp only[Dp.mk.injEq]at hJ;clear hlt h4 hd;refine X0<|X3<|X0<|X2 ?_;refine X0<|(N0 ?_);refine(Xc rfl (fun h7=>?_) fun h7=>?_)
  ·(try simp only[BN]at h7);rw[Na (by simpa using h7)]at hJ;subst hJ;refine X1 ?_;exact Xf
  (try simp only[BN]at h7);rw[N7 (by have:=h7;omega)]at hJ;refine X2 ?_;exact⟨k+1,⟨hk1,hJ⟩,by omega,X4 (fun n=>n) []⟩
 (try simp only[BN]at h4);have hkl:k=l.length:=by first|omega|(have:=h4;simp at this;omega)
 rw[hkl,Nt]at hJ;simp only[X5Y]at hJ;subst hJ;refine(Xg ?_);refine X1 ?_;exact Xf
theorem memD_con (l:List Dp) (x:Dp) (hl:l.length<=1000000000) (d:Nat):Con prog 165 true [.one (.c (.sl 3 (XG l))),aDp x] (.v (lb (decide (x∈l)))) none d:=by
 have ci:=idxD_con l x hl;rw[<-idxD_iff l x 0];obtain⟨res,hres⟩:∃r,X5Y l x 0=r:=⟨_,rfl⟩;rw[hres]at ci⊢;clear hres;obtain⟨xf,xt,xk⟩:=x;refine X6 Tryz.func165 ?_;simp only[Tryz.f165];simp only[aDp]at ci⊢;refine X1 ?_;refine Xk [⟨true,.v (li res),none⟩] ?_ ?_
 .first|exact ci _|exact trivial|simpa[*]using ci _
 exact Xf
def mkO (vars:List Vr) (hats:List Ht) (body:List St) (n nx:Int) (T:List Dp) (q:Bool):List (Nat×Ob):=[(900002,.row 51 3 (XG T)),(1000001,.box [.c (.sl 5 (Xm vars)),.c (.sl 6 (Xn hats)),.c (.sl 10 (X7 body)),.c (iC n),.c (iC nx),.own 900002,.c (bC q)])]
theorem X4a {vars:List Vr} {hats:List Ht} {body:List St} {n nx:Int} {T:List Dp} {q:Bool}:∀m cs,lkp (mkO vars hats body n nx T q) m=some (.box cs)->1000000<=m:=by
 intro m cs h;simp only[mkO,lkp]at h
 repeat' split at h
 all_goals first|omega|cases h
def adM (q:Bool) (T:List Dp) (x:Dp):List Dp:=if q=true then T else Wm T x
set_option maxHeartbeats 16000000 in
theorem X1z (vars:List Vr) (hats:List Ht) (body:List St) (n nx:Int) (T:List Dp) (q:Bool) (a b k:Int) (hT:T.length<=2000000):
  Z7 prog 101 none (mkO vars hats body n nx T q) [.one (.at_ 1000001 0),li a,li b,li k] (fun _:Unit=>True) (fun _=>.tup []) (fun _=>mkO vars hats body n nx (adM q T ⟨a,b,k⟩) q):=by
 have cm:=memD_con T ⟨a,b,k⟩ (by omega);simp only[aDp]at cm;have hroom:W4 (T.length+1) 24:=XX (by omega) (by decide);refine XV Tryz.func101 rfl (by kernel_rfl) (NH rfl) X4a (fun v h=>by cases h) ?_;simp only[Tryz.f101];simp only[mkO];refine X1 ?_;cases q
 .refine X0<|(QC [⟨true,.v (lb (decide ((⟨a,b,k⟩:Dp)∈T))),none⟩] (by kernel_rfl) (by kernel_rfl) (by rfl) (by simp[*];first|exact⟨rfl,Iff.rfl⟩|exact⟨rfl,trivial⟩|rfl) ?_ ?_)
  .first|exact cm _|exact trivial|simpa[*]using cm _
  refine(Xc rfl (fun h2=>?_) fun h2=>?_)
  ·(try simp only[BN]at h2);have hm:¬(⟨a,b,k⟩:Dp)∈T:=by simpa using h2
   have had:adM false T ⟨a,b,k⟩=T++[⟨a,b,k⟩]:=by simp[adM,Wm,hm]
   rw[had];rw[X6z];rw[show XG [(⟨a,b,k⟩:Dp)]=[[iC a,iC b,iC k]] from rfl];refine(N0 ?_);exact⟨.inl rfl,(),trivial,⟨⟨37,none⟩,[],[(900002,.row 51 3 (XG T++[[iC a,iC b,iC k]])),(1000001,.box [.c (.sl 5 (Xm vars)),.c (.sl 6 (Xn hats)),.c (.sl 10 (X7 body)),.c (iC n),.c (iC nx),.own 900002,.c (bC false)])]⟩,Xl (fun n=>if n=900002 then 34 else n) [] rfl (by simp) (by simp[*]) (by simp),⟨[],rfl,rfl⟩,fun n o h=>h⟩
  (try simp only[BN]at h2);have hm:(⟨a,b,k⟩:Dp)∈T:=by simpa using h2
  have had:adM false T ⟨a,b,k⟩=T:=by simp[adM,Wm,hm]
  rw[had];exact⟨.inl rfl,(),trivial,⟨⟨37,none⟩,[],[(900002,.row 51 3 (XG T)),(1000001,.box [.c (.sl 5 (Xm vars)),.c (.sl 6 (Xn hats)),.c (.sl 10 (X7 body)),.c (iC n),.c (iC nx),.own 900002,.c (bC false)])]⟩,Xl (fun n=>n) [] rfl (by simp) (by simp[*]) (by simp),⟨[],rfl,rfl⟩,fun n o h=>h⟩
 refine X0<|(X0Z [none] (by kernel_rfl) (by kernel_rfl) (by rfl) (by simp[*];first|exact⟨rfl,Iff.rfl⟩|exact⟨rfl,trivial⟩|rfl) ?_ ?_)
 .exact trivial
 refine(Xc rfl (fun h2=>?_) fun h2=>?_)
 .exfalso;simp at h2
 (try simp only[BN]at h2);have had:adM true T ⟨a,b,k⟩=T:=rfl;rw[had];exact⟨.inl rfl,(),trivial,⟨⟨37,none⟩,[],[(900002,.row 51 3 (XG T)),(1000001,.box [.c (.sl 5 (Xm vars)),.c (.sl 6 (Xn hats)),.c (.sl 10 (X7 body)),.c (iC n),.c (iC nx),.own 900002,.c (bC true)])]⟩,Xl (fun n=>n) [] rfl (by simp) (by simp[*]) (by simp),⟨[],rfl,rfl⟩,fun n o h=>h⟩
def QP (q:Bool) (T:List Dp) (l:List Dp):List Dp:=if q=true then T else XS l T
theorem QW (q:Bool) (T a b:List Dp):QP q T (a++b)=QP q (QP q T a) b:=by
 unfold QP;cases q
 .simp[X00]
 rfl
theorem X0K (q:Bool) (T:List Dp) (x:Dp) (l:List Dp):QP q T (x::l)=QP q (adM q T x) l:=by
 unfold QP adM;cases q
 .rfl
 rfl
@[simp] theorem Wy (q:Bool) (T:List Dp):QP q T []=T:=by
  unfold QP;cases q<;>rfl
def bq (q:Bool) (l:List Dp):Nat:=if q=true then 0 else l.length
theorem X2S (q:Bool) (a b:List Dp):bq q (a++b)=bq q a+bq q b:=by
 unfold bq;cases q<;>simp
theorem Xbi (q:Bool) (x:Dp) (l:List Dp):bq q (x::l)=bq q [x]+bq q l:=X2S q [x] l
@[simp] theorem bq_nil (q:Bool):bq q []=0:=by
  unfold bq;cases q<;>rfl
theorem Xba (q:Bool) (T:List Dp) (x:Dp):(adM q T x).length<=T.length+bq q [x]:=by
 unfold adM bq;split
 .omega
 exact X7f _ _
theorem ZP (q:Bool) (T l:List Dp):(QP q T l).length<=T.length+bq q l:=by
 unfold QP bq;split
 .omega
 exact XcT _ _
abbrev lDD (D:List (List Nat)):TV:=.one (.c (.sl 1 (Q8 D)))
def rwE (s:Nat) (r:List Nat):List Dp:=r.map fun d:Nat=>(⟨(d:Int),(s:Int),0⟩:Dp)
def rdEs (s:Nat) (D:Dfs) (l:List Tm):List Dp:=(ZV l).flatMap fun v=>rwE s (D[v.toNat]?.getD [])
theorem rdE_eq (s:Nat) (D:Dfs) (t:Tm):rdE s D t=(tmV t).flatMap fun v=>rwE s (D[v.toNat]?.getD []):=rfl
theorem Xc5 (s:Nat) (D:Dfs) (t:Tm) (l:List Tm):rdEs s D (t::l)=rdE s D t++rdEs s D l:=by
 unfold rdEs;rw[rdE_eq,ZV,List.flatMap_append]
theorem rdE_mk (s:Nat) (D:Dfs) (o n:Int) (ks:List Tm):rdE s D (.mk o n ks)=(if o=24 then rwE s (D[n.toNat]?.getD [])else [])++rdEs s D ks:=by
 rw[rdE_eq,tmV,List.flatMap_append];unfold rdEs;split<;>simp
theorem X64 {t:Tm}:∀{l:List Tm},t∈l->∀v∈tmV t,v∈ZV l
 |[],h,_,_=>by cases h
 | y::l,h,v,hv=>by
   simp only[ZV,Ng];rcases Nh.1 h with rfl|h
   .exact .inl hv
   exact .inr (X64 h v hv)
theorem getD_in {D:List (List Nat)} {n:Nat} {r:List Nat} (h:D[n]? =some r):D[n]?.getD []=r:=by rw[h];rfl
theorem Xbq {r:List Nat} {k d:Nat} (h:r[k]? =some d):(QJ r)[k]? =some [iC (d:Int)]:=by simp[QJ,h]
theorem gtDD {l:List (List Nat)} {i:Nat} {x:List Nat} (h:l[i]? =some x):(Q8 l)[i]? =some [CD.sl 1 (QJ x)]:=by simp[Q8,h]
theorem gtHt {l:List Ht} {i:Nat} {x:Ht} (h:l[i]? =some x):(Xn l)[i]? =some x.enc:=by simp[Xn,h]
theorem X1V {q:Bool} {T a b:List Dp} (h:T.length+bq q (a++b)<=2000000):T.length+bq q a<=2000000/\(QP q T a).length+bq q b<=2000000:=by
 rw[X2S]at h;have:=ZP q T a;omega
set_option maxHeartbeats 16000000 in
theorem X5u (vars:List Vr) (hats:List Ht) (body:List St) (n nx:Int) (q:Bool) (s:Nat) (D:Dfs) (hD:∀r∈D,r.length<=1000000) (hDl:D.length<=1000000) (t:Tm):t.nodes<=1000000->(∀v∈tmV t,0<=v/\v.toNat<D.length)->∀T:List Dp,T.length+bq q (rdE s D t)<=2000000->
  Z7 prog 102 none (mkO vars hats body n nx T q) [.one (.at_ 1000001 0),li s,aT t,lDD D] (fun _:Unit=>True) (fun _=>.tup []) (fun _=>mkO vars hats body n nx (QP q T (rdE s D t)) q):=by
 induction t using Tm.ind with
 |h o tn ks ih=>
 intro hn hv T0 hT0;simp only[Tm.nodes]at hn;have hlen:=Wh ks;rw[rdE_mk]at hT0⊢;obtain⟨E1,hE1⟩:∃x,(if o=24 then rwE s (D[tn.toNat]?.getD [])else [])=x:=⟨_,rfl⟩;rw[hE1]at hT0⊢;rw[QW];rw[X2S]at hT0;obtain⟨T1,hT1⟩:∃x,QP q T0 E1=x:=⟨_,rfl⟩
 have hT1l:T1.length+bq q (rdEs s D ks)<=2000000:=by
  have:=ZP q T0 E1;rw[hT1]at this;omega
 obtain⟨R1,hR1⟩:∃x,QP q T1 (rdEs s D ks)=x:=⟨_,rfl⟩;rw[hT1,hR1];refine XV Tryz.func102 rfl (by kernel_rfl) (NH rfl) X4a (fun v h=>by cases h) ?_;simp only[Tryz.f102];simp only[aT,Tm.enc,Ni,Nr,mkO];refine X1 ?_;refine(XM [0,1,3,6] (fun(z:Unit)=>[]) (fun(z:Unit)=>[(6,.box [.c (iC o),.c (iC tn),.c (.sl 3 (XA ks))]),(900002,.row 51 3 (XG T1)),(1000001,.box [.c (.sl 5 (Xm vars)),.c (.sl 6 (Xn hats)),.c (.sl 10 (X7 body)),.c (iC n),.c (iC nx),.own 900002,.c (bC q)])]) (fun(z:Unit)=>True) ?_ ?_)
 ·
  refine X1 ?_;refine(Xc rfl (fun h3=>?_) fun h3=>?_)
  ·(try simp only[BN]at h3);have ho:o=24:=by simpa using h3
   subst ho;have h0:=hv tn (by simp[tmV]);obtain⟨m,rfl⟩:∃m:Nat,tn=m:=⟨tn.toNat,by omega⟩;rw[Int.toNat_natCast]at h0 hE1;obtain⟨row,hrow,_⟩:=Xu h0.2;have hrl:=hD row (N3 hrow);rw[Na rfl,getD_in hrow]at hE1;have hrow':=gtDD hrow;have hlt0:m+1<=D.length:=h0.2;clear hv ih h0;refine X1 ?_;refine X3<|(Xd [0,1,3,6,19,20] (fun(y:Nat×List Dp)=>[(21,.v (li y.1))]) (fun y=>[(6,.box [.c (iC 24),.c (iC m),.c (.sl 3 (XA ks))]),(900002,.row 51 3 (XG y.2)),(1000001,.box [.c (.sl 5 (Xm vars)),.c (.sl 6 (Xn hats)),.c (.sl 10 (X7 body)),.c (iC n),.c (iC nx),.own 900002,.c (bC q)])]) (fun y=>y.1<=row.length/\QP q y.2 (rwE s (row.drop y.1))=T1/\y.2.length+bq q (rwE s (row.drop y.1))<=2000000) (fun y=>row.length - y.1) (0,T0) ⟨Nq _,by rw[<-hT1,<-hE1];rfl,by have:=hT0;rw[<-hE1]at this;simp only[List.drop_zero];omega⟩ ?_ ?_)
   .exact X4 (fun n=>n) []
   rintro⟨k,T⟩ ⟨hk,hJ,hTl⟩;simp only[upS,X5,Xy]
   try simp only[X5,KN,Nat.reduceBEq,Nf,Nc,ins,Nat.reduceLT]
   simp only at hk hJ hTl;clear hT0 hE1 hT1;refine X1 ?_;refine X0<|(X8 rfl (fun h7=>Xb ?_) (fun h7=>?_))
   ·(try simp only[BN]at h7);have hlt:k<row.length:=by first|omega|simpa using h7
    obtain⟨d,he,hd⟩:=Xu hlt;have hw1:=XE hlt (by omega);have hk1:k+1<=row.length:=hlt;have he':=Xbq he;rw[hd]at hJ hTl;have hTl:T.length+(bq q [⟨d,s,0⟩]+bq q (rwE s (row.drop (k+1))))<=2000000:=by rw[<-Xbi];exact hTl
    have hJ2:QP q (adM q T ⟨d,s,0⟩) (rwE s (row.drop (k+1)))=T1:=by rw[<-X0K];exact hJ
    have ca:=X1z vars hats body n nx T q d s 0 (by omega);have hal:=Xba q T ⟨d,s,0⟩;obtain⟨T2,hT2⟩:∃x,adM q T ⟨d,s,0⟩=x:=⟨_,rfl⟩;rw[hT2]at ca hJ2 hal;simp only[mkO]at ca;clear hlt h7 hd he hJ hT2;refine X0<|X3<|X0<|X2 ?_;refine(Xw ?_);refine RunsN.cutE 3 [] (by simp;rfl) trivial (le_refl _) ?_;refine RunsN.callA (fun n=>n) (fun n=>if n=900002 then 900012 else n) ca fun _ _=>?_;refine RunsN.doneE [] rfl trivial ?_;refine X2 ?_;exact⟨(k+1,T2),⟨hk1,hJ2,by simp only;omega⟩,by simp only;omega,Xl (fun n=>if n=900002 then 900012 else n) [] rfl (by simp[upS,X5,XJ,XU,del,ins,CV.ren,Ob.ren, *]) (by simp[*,upS,XJ,XU,del,ins,CV.ren,Ob.ren]) (by simp[upS])⟩
   try simp only[BN]at h7
   have hkl:k=row.length:=by
    have:¬k<row.length:=by first|omega|simpa using h7
    omega
   subst hkl;simp only[Nt,rwE,Nr,Wy]at hJ;subst hJ;refine(Xg ?_);exact⟨(),trivial,X4 (fun n=>n) []⟩
  (try simp only[BN]at h3);have ho:¬o=24:=by simpa using h3
  rw[N7 ho]at hE1;subst hE1;simp only[Wy]at hT1;subst hT1;exact⟨(),trivial,X4 (fun n=>n) []⟩
 rintro⟨⟩ hz;simp only[upS,X5,Xy]
 try simp only[X5,KN,Nat.reduceBEq,Nf,Nc,ins,Nat.reduceLT]
 refine X1 ?_;refine X3<|(Xd [0,1,3,31,32] (fun(y:Nat×List Dp)=>[(33,.v (li y.1))]) (fun y=>[(900002,.row 51 3 (XG y.2)),(1000001,.box [.c (.sl 5 (Xm vars)),.c (.sl 6 (Xn hats)),.c (.sl 10 (X7 body)),.c (iC n),.c (iC nx),.own 900002,.c (bC q)])]) (fun y=>y.1<=ks.length/\QP q y.2 (rdEs s D (ks.drop y.1))=R1/\y.2.length+bq q (rdEs s D (ks.drop y.1))<=2000000) (fun y=>ks.length - y.1) (0,T1) ⟨Nq _,by simpa using hR1,by simpa using hT1l⟩ ?_ ?_)
 .exact X4 (fun n=>n) []
 rintro⟨k,T⟩ ⟨hk,hJ,hTl⟩;simp only[upS,X5,Xy]
 try simp only[X5,KN,Nat.reduceBEq,Nf,Nc,ins,Nat.reduceLT]
 simp only at hk hJ hTl;clear hT0 hE1 hT1 hR1 hT1l;refine X1 ?_;refine X0<|(X8 rfl (fun h17=>Xb ?_) (fun h17=>?_))
 ·(try simp only[BN]at h17);have hlt:k<ks.length:=by first|omega|simpa using h17
  obtain⟨t,he,hd⟩:=Xu hlt;have hw1:=XE hlt (by omega);have hk1:k+1<=ks.length:=hlt;have hmem:t∈ks:=N3 he;have hnm:=ZD hmem;rw[hd,Xc5]at hJ hTl;rw[QW]at hJ;rw[X2S]at hTl;have he':=Wx he;have ct:=ih t hmem (by omega) (fun v hv2=>hv v (by simp only[tmV,Ng];exact .inr (X64 hmem v hv2))) T (by omega);have hal:=ZP q T (rdE s D t);obtain⟨kp,tn2,tk⟩:=t;obtain⟨T2,hT2⟩:∃x,QP q T (rdE s D (.mk kp tn2 tk))=x:=⟨_,rfl⟩;rw[hT2]at ct hJ hal;simp only[Tm.enc]at he';simp only[aT,Tm.enc,Ni,Nr,mkO]at ct;clear hlt h17 ih hmem hd he hT2 hnm hv;refine X0<|X3<|X0<|X2 ?_;refine(Xw ?_);refine RunsN.cutE 4 [] (by simp;rfl) trivial (le_refl _) ?_;refine RunsN.callA (fun n=>n) (fun n=>if n=900002 then 900012 else n) ct fun _ _=>?_;refine RunsN.doneE [] rfl trivial ?_;refine X2 ?_;exact⟨(k+1,T2),⟨hk1,hJ,by simp only;omega⟩,by simp only;omega,Xl (fun n=>if n=900002 then 900012 else n) [] rfl (by simp[upS,X5,XJ,XU,del,ins,CV.ren,Ob.ren, *]) (by simp[*,upS,XJ,XU,del,ins,CV.ren,Ob.ren]) (by simp[upS])⟩
 try simp only[BN]at h17
 have hkl:k=ks.length:=by
  have:¬k<ks.length:=by first|omega|simpa using h17
  omega
 subst hkl;simp only[Nt,rdEs,ZV,List.flatMap_nil,Wy]at hJ;subst hJ;refine(Xg ?_);exact⟨.inl rfl,(),trivial,_,le_refl _,⟨[],rfl,rfl⟩,fun n o h=>h⟩
theorem eqG2 (a b:List Int) (h:a.length=b.length) (hall:∀k:Nat,k<a.length->a[k]? =b[k]?):a=b:=by
 apply NN;intro k;by_cases hk:k<a.length
 .exact hall k hk
 rw[Nx (by omega),Nx (by omega)]
theorem X8p (a b:List Int) (ha:a.length<=1000000000) (hb:b.length<=1000000000) (d:Nat):Con prog 19 true [lI a,lI b] (.v (lb (decide (a=b)))) none d:=by
 obtain⟨res,hres⟩:∃r,decide (a=b)=r:=⟨_,rfl⟩;rw[hres];refine X6 Tryz.func19 ?_;simp only[Tryz.f19];refine X1 ?_;refine X0<|X0<|X2 ?_;refine(Xc rfl (fun h2=>?_) fun h2=>?_)
 .try simp only[BN]at h2
  have hz:res=false:=by
   rw[<-hres,Nj];intro h;subst h;simp at h2
  subst hz;refine X1 ?_;exact Xf
 (try simp only[BN]at h2);have hle:a.length=b.length:=by omega
 clear h2;refine X0<|X0<|X2 ?_;refine X3<|(Xd [0,1,12] (fun(z:Nat)=>[(13,.v (li z))]) (fun z=>[]) (fun z=>z<=a.length/\∀k:Nat,k<z->a[k]? =b[k]?) (fun z=>a.length - z) (0:Nat) ⟨Nq _,fun k hk=>absurd hk (Dy k)⟩ ?_ ?_)
 .exact X4 (fun n=>n) []
 rintro k ⟨hk,hall⟩;simp only[upS,X5,Xy]
 try simp only[X5,KN,Nat.reduceBEq,Nf,Nc,ins,Nat.reduceLT]
 refine X1 ?_;refine X0<|(X8 rfl (fun h8=>Xb ?_) (fun h8=>?_))
 ·(try simp only[BN]at h8);have hlt:k<a.length:=by omega
  obtain⟨x,he,_⟩:=Xu hlt;obtain⟨y,hey,_⟩:=Xu (show k<b.length by omega);have hw1:=XE hlt (by omega);have hk1:k+1<=a.length:=hlt;clear hlt h8;refine X0<|X3<|X0<|X2 ?_;refine X0<|(N0 ?_);refine(Xc rfl (fun h11=>?_) fun h11=>?_)
  .try simp only[BN]at h11
   have hz:res=false:=by
    rw[<-hres,Nj];intro h;subst h;rw[he]at hey;cases hey;simp at h11
   subst hz;refine X1 ?_;exact Xf
  (try simp only[BN]at h11);refine X2 ?_
  exact⟨k+1,⟨hk1,fun j hj=>by
   rcases Nat.lt_or_eq_of_le (Nat.le_of_lt_succ hj)with h|h
   .exact hall j h
   rw[h,he,hey];have:x=y:=by simpa using h11
   rw[this]⟩,by omega,X4 (fun n=>n) []⟩
 try simp only[BN]at h8
 have hz:res=true:=by
  rw[<-hres,N6];exact eqG2 a b hle fun j hj=>hall j (by omega)
 subst hz;refine(Xg ?_);refine X1 ?_;exact Xf
theorem Z7.toS {P:Program} {f:FuncId} {objs objs':List (Nat×Ob)} {args:List TV} {r:RV} (h:Z7 (X:=Unit) P f none objs args (fun _=>True) (fun _=>r) (fun _=>objs')):X46 P f objs args r objs':=
 ⟨h.1,fun F T w vs hh hs ha=>(h.2 F T w vs hh (fun _ h=>by cases h) hs ha).mono fun e w' ⟨_,v,N,T',_,h1,h2⟩=>⟨v,N,T',h1,h2⟩⟩
def rlEs (n s:Nat) (l:List Tm):List Dp:=(ZV l).map fun v:Int=>(⟨(n:Int)+v,(s:Int),2⟩:Dp)
theorem Xcu (n s:Nat) (t:Tm) (l:List Tm):rlEs n s (t::l)=rlE n s t++rlEs n s l:=by
 unfold rlEs rlE;rw[ZV,Dr]
theorem rlE_mk (n s:Nat) (o tn:Int) (ks:List Tm):rlE n s (.mk o tn ks)=(if o=24 then [⟨(n:Int)+tn,s,2⟩] else [])++rlEs n s ks:=by
 unfold rlE rlEs;rw[tmV,Dr];split<;>rfl
set_option maxHeartbeats 16000000 in
theorem X6u (vars:List Vr) (hats:List Ht) (body:List St) (n:Nat) (hn6:n<=1000000) (nx:Int) (q:Bool) (s:Nat) (t:Tm):t.nodes<=1000000->(∀v∈tmV t,0<=v/\v<=1000000)->∀T:List Dp,T.length+bq q (rlE n s t)<=2000000->
  Z7 prog 104 none (mkO vars hats body n nx T q) [.one (.at_ 1000001 0),li s,aT t] (fun _:Unit=>True) (fun _=>.tup []) (fun _=>mkO vars hats body n nx (QP q T (rlE n s t)) q):=by
 induction t using Tm.ind with
 |h o tn ks ih=>
 intro hn hv T0 hT0;simp only[Tm.nodes]at hn;have hlen:=Wh ks;rw[rlE_mk]at hT0⊢;obtain⟨E1,hE1⟩:∃x,(if o=24 then [(⟨(n:Int)+tn,s,2⟩:Dp)] else [])=x:=⟨_,rfl⟩;rw[hE1]at hT0⊢;rw[QW];rw[X2S]at hT0;obtain⟨T1,hT1⟩:∃x,QP q T0 E1=x:=⟨_,rfl⟩
 have hT1l:T1.length+bq q (rlEs n s ks)<=2000000:=by
  have:=ZP q T0 E1;rw[hT1]at this;omega
 obtain⟨R1,hR1⟩:∃x,QP q T1 (rlEs n s ks)=x:=⟨_,rfl⟩;rw[hT1,hR1];refine XV Tryz.func104 rfl (by kernel_rfl) (NH rfl) X4a (fun v h=>by cases h) ?_;simp only[Tryz.f104];simp only[aT,Tm.enc,Ni,Nr,mkO];refine X1 ?_;refine(XM [0,1,5] (fun(z:Unit)=>[]) (fun(z:Unit)=>[(5,.box [.c (iC o),.c (iC tn),.c (.sl 3 (XA ks))]),(900002,.row 51 3 (XG T1)),(1000001,.box [.c (.sl 5 (Xm vars)),.c (.sl 6 (Xn hats)),.c (.sl 10 (X7 body)),.c (iC n),.c (iC nx),.own 900002,.c (bC q)])]) (fun(z:Unit)=>True) ?_ ?_)
 ·
  refine X1 ?_;refine(Xc rfl (fun h3=>?_) fun h3=>?_)
  ·(try simp only[BN]at h3);have ho:o=24:=by simpa using h3
   subst ho;have h0:=hv tn (by simp[tmV]);rw[Na rfl]at hE1;have hw0:IntKind.i64.wrap ((n:Int)+tn)=(n:Int)+tn:=X9;have ca:=X1z vars hats body n nx T0 q ((n:Int)+tn) s 2 (by omega);have hT1':adM q T0 ⟨(n:Int)+tn,s,2⟩=T1:=by rw[<-hT1,<-hE1,X0K,Wy]
   rw[hT1']at ca;have ca:=Z7.toS ca;simp only[mkO]at ca;clear hv ih hT0 hE1 hT1 hT1';refine(X1X [(14,1000001),(16,5)] 9 [] (fun n=>n) (fun n=>if n=900002 then 900012 else n) (by kernel_rfl) (by kernel_rfl) (by rfl) (by kernel_rfl) (by rfl) (by simp[*,X4L,X4E,Qy];first|exact⟨rfl,Iff.rfl⟩|exact⟨rfl,trivial⟩|rfl) ?_ (by rfl) (by simp;rfl) (QG (by simp[rbB,QR,Qc,CV.ren,Ob.ren,lkp]) (by simp) (by simp) (by simp[rbB,QR,Qc,CV.ren,Ob.ren,lkp]) (by simp[rbB,QR,Qc,CV.ren,Ob.ren,lkp])) ca (by rfl) ?_)
   .exact trivial
   exact⟨(),trivial,Xl (fun n=>if n=900002 then 900012 else n) [] rfl (by simp[upS,X5,XJ,XU,del,ins,CV.ren,Ob.ren]) (by simp[upS,XJ,XU,del,ins,CV.ren,Ob.ren]) (by simp[upS])⟩
  (try simp only[BN]at h3);have ho:¬o=24:=by simpa using h3
  rw[N7 ho]at hE1;subst hE1;simp only[Wy]at hT1;subst hT1;exact⟨(),trivial,X4 (fun n=>n) []⟩
 rintro⟨⟩ hz;simp only[upS,X5,Xy]
 try simp only[X5,KN,Nat.reduceBEq,Nf,Nc,ins,Nat.reduceLT]
 refine X1 ?_;refine X3<|(Xd [0,1,22,23] (fun(y:Nat×List Dp)=>[(24,.v (li y.1))]) (fun y=>[(900002,.row 51 3 (XG y.2)),(1000001,.box [.c (.sl 5 (Xm vars)),.c (.sl 6 (Xn hats)),.c (.sl 10 (X7 body)),.c (iC n),.c (iC nx),.own 900002,.c (bC q)])]) (fun y=>y.1<=ks.length/\QP q y.2 (rlEs n s (ks.drop y.1))=R1/\y.2.length+bq q (rlEs n s (ks.drop y.1))<=2000000) (fun y=>ks.length - y.1) (0,T1) ⟨Nq _,by simpa using hR1,by simpa using hT1l⟩ ?_ ?_)
 .exact X4 (fun n=>n) []
 rintro⟨k,T⟩ ⟨hk,hJ,hTl⟩;simp only[upS,X5,Xy]
 try simp only[X5,KN,Nat.reduceBEq,Nf,Nc,ins,Nat.reduceLT]
 simp only at hk hJ hTl;clear hT0 hE1 hT1 hR1 hT1l;refine X1 ?_;refine X0<|(X8 rfl (fun h10=>Xb ?_) (fun h10=>?_))
 ·(try simp only[BN]at h10);have hlt:k<ks.length:=by first|omega|simpa using h10
  obtain⟨t,he,hd⟩:=Xu hlt;have hw1:=XE hlt (by omega);have hk1:k+1<=ks.length:=hlt;have hmem:t∈ks:=N3 he;have hnm:=ZD hmem;rw[hd,Xcu]at hJ hTl;rw[QW]at hJ;rw[X2S]at hTl;have he':=Wx he;have ct:=ih t hmem (by omega) (fun v hv2=>hv v (by simp only[tmV,Ng];exact .inr (X64 hmem v hv2))) T (by omega);have hal:=ZP q T (rlE n s t);obtain⟨kp,tn2,tk⟩:=t;obtain⟨T2,hT2⟩:∃x,QP q T (rlE n s (.mk kp tn2 tk))=x:=⟨_,rfl⟩;rw[hT2]at ct hJ hal;simp only[Tm.enc]at he';simp only[aT,Tm.enc,Ni,Nr,mkO]at ct;clear hlt h10 ih hmem hd he hT2 hnm hv;refine X0<|X3<|X0<|X2 ?_;refine(Xw ?_);refine RunsN.cutE 3 [] (by simp;rfl) trivial (le_refl _) ?_;refine RunsN.callA (fun n=>n) (fun n=>if n=900002 then 900012 else n) ct fun _ _=>?_;refine RunsN.doneE [] rfl trivial ?_;refine X2 ?_;exact⟨(k+1,T2),⟨hk1,hJ,by simp only;omega⟩,by simp only;omega,Xl (fun n=>if n=900002 then 900012 else n) [] rfl (by simp[upS,X5,XJ,XU,del,ins,CV.ren,Ob.ren, *]) (by simp[*,upS,XJ,XU,del,ins,CV.ren,Ob.ren]) (by simp[upS])⟩
 try simp only[BN]at h10
 have hkl:k=ks.length:=by
  have:¬k<ks.length:=by first|omega|simpa using h10
  omega
 subst hkl;simp only[Nt,rlEs,ZV,Nr,Wy]at hJ;subst hJ;refine(Xg ?_);exact⟨.inl rfl,(),trivial,_,le_refl _,⟨[],rfl,rfl⟩,fun n o h=>h⟩
theorem le_nameM {s:HS} (t n d:Nat) {e e':TypeId} {sz:Nat} {rows:List (Option (List (List CD)))} (hl:opd s.regs (.tmp t)=.v (.one (.own n))) (ho:lkp s.objs n=some (.mat e e' sz rows)) (hd:d<1000000):
  le s ⟨s.nt,[(t,.v (.one (.own d)))],[(d,.mat e e' sz rows)]⟩:=by
 have hp:X0m (fun _=>n) d=n:=by unfold X0m;rw[N7 (by omega)]
 refine Xl (fun _=>n) [] rfl ?_ ?_ ?_
 .refine⟨⟨rfl,?_⟩,trivial⟩;rw[hl];simp only[RV.ren,TV.ren,CV.ren,hp,List.contains_nil,Nz,Nc]
 .simp only[WY,List.contains_nil,Nz,Nc,Ob.okNil,hp,ho,Ob.ren,and_self]
 simp only[WY,true_or,and_self]
def rwS (M:List (List Nat)):List (Option (List (List CD))):=M.map fun r=>some (QJ r)
@[simp] theorem rwS_len (M:List (List Nat)):(rwS M).length=M.length:=by simp[rwS]
theorem rwS_snoc (M:List (List Nat)) (r:List Nat):rwS M++[some (QJ r)]=rwS (M++[r]):=by simp[rwS]
theorem rwS_get {M:List (List Nat)} {d:Nat} {l:List Nat} (h:M[d]? =some l):(rwS M)[d]? =some (some (QJ l)):=by simp[rwS,h]
theorem Xbv (M:List (List Nat)) (d:Nat) (l:List Nat):(rwS M).set d (some (QJ l))=rwS (M.set d l):=by simp[rwS,List.map_set]
theorem rwS_end (M:List (List Nat)):(rwS M).map (fun r=>[CD.sl 1 (r.getD [])])=Q8 M:=by simp[rwS,Q8,Function.comp_def]
theorem X5Q (l:List Nat) (hl:l.length<=1000000000) (d:Nat) (hd:d<1000000):Con prog 72 false [.one (.c (.sl 1 (QJ l)))] (.v (.one (.own d))) (some (.row 3 1 (QJ l))) d:=by
 have:=X5X (l.map Int.ofNat) (by simpa using hl) d hd;rw[X10];exact this
set_option maxHeartbeats 8000000 in
theorem X9J (D:List (List Nat)) (hD:∀r∈D,r.length<=1000000) (hDl:D.length<=1000000) (d:Nat) (hd6:d<1000000):Con prog 103 false [lDD D] (.v (.one (.own d))) (some (.mat 29 3 1 (rwS D))) d:=by
 refine X6 Tryz.func103 ?_;simp only[Tryz.f103];refine X1 ?_;refine X1 ?_;refine XB (XaX (k:=0) 6 3 1 (by decide) (by decide) rfl rfl rfl) ?_;refine X0<|X0<|X2 ?_;refine X3<|(Xd [7,8] (fun(y:Nat)=>[(3,.v (.one (.own 1003))),(9,.v (li y))]) (fun y=>[(1003,.mat 29 3 1 (rwS (D.take y)))]) (fun y=>y<=D.length) (fun y=>D.length - y) 0 (Nq _) ?_ ?_)
 .exact Xl (fun n=>if n=1003 then 6 else n) [] rfl (by simp[*,upS,X5]) (by simp[*,upS,rwS]) (by simp[upS])
 rintro k hk;simp only[upS,X5,Xy]
 try simp only[X5,KN,Nat.reduceBEq,Nf,Nc,ins,Nat.reduceLT]
 refine X1 ?_;refine X0<|(X8 rfl (fun h5=>Xb ?_) (fun h5=>?_))
 ·(try simp only[BN]at h5);have hlt:k<D.length:=by first|omega|simpa using h5
  obtain⟨r,he,hd⟩:=Xu hlt;have hw1:=XE hlt (by omega);have hk1:k+1<=D.length:=hlt;have he':=gtDD he;have hrl:=hD r (N3 he);have cl:=X5Q r (by omega);have hsn:=rwS_snoc (D.take k) r;rw[<-WA he]at hsn;have hroom:W4 (k+1) 24:=XX (by omega) (by decide);clear hlt h5 hd he;refine X0<|X3<|X0<|X2 ?_;refine(Xo [⟨false,.v (.one (.own 15)),some (.row 3 1 (QJ r))⟩] ?_ ?_)
  .first|exact cl _ (by decide)|exact trivial|simpa[*]using cl _ (by decide)
  refine X2 ?_;exact⟨k+1,hk1,by omega,X4 (fun n=>if n=1003 then 17 else n) []⟩
 try simp only[BN]at h5
 have hkl:k=D.length:=by
  have:¬k<D.length:=by first|omega|simpa using h5
  omega
 subst hkl;rw[List.take_length];refine(Xg ?_);refine X1 ?_;exact Qe ⟨.inr rfl,_,le_nameM 2 1003 d rfl rfl hd6,⟨⟨_,by simp;rfl,by simp[XL]⟩,by simp,fun h=>by cases h⟩⟩
set_option maxHeartbeats 8000000 in
theorem X9N (D:List (List Nat)) (hD:∀r∈D,r.length<=1000000) (hDl:D.length<=1000000) (d:Nat) (hd6:d<1000000):Con prog 103 false [lDD D] (.v (.one (.own d))) (some (.row 29 1 (Q8 D))) d:=by
 refine X6 Tryz.func103 ?_;simp only[Tryz.f103];refine X1 ?_;refine X1 ?_;refine X0<|X0<|X2 ?_;refine X3<|(Xd [7,8] (fun(y:Nat)=>[(3,.v (.one (.own 1003))),(9,.v (li y))]) (fun y=>[(1003,.row 29 1 (Q8 (D.take y)))]) (fun y=>y<=D.length) (fun y=>D.length - y) 0 (Nq _) ?_ ?_)
 .exact Xl (fun n=>if n=1003 then 6 else n) [] rfl (by simp[*,upS,X5]) (by simp[*,upS,Q8]) (by simp[upS])
 rintro k hk;simp only[upS,X5,Xy]
 try simp only[X5,KN,Nat.reduceBEq,Nf,Nc,ins,Nat.reduceLT]
 refine X1 ?_;refine X0<|(X8 rfl (fun h5=>Xb ?_) (fun h5=>?_))
 ·(try simp only[BN]at h5);have hlt:k<D.length:=by first|omega|simpa using h5
  obtain⟨r,he,hd⟩:=Xu hlt;have hw1:=XE hlt (by omega);have hk1:k+1<=D.length:=hlt;have he':=gtDD he;have hrl:=hD r (N3 he);have cl:=X5Q r (by omega);have hsn:Q8 (D.take k)++[[.sl 1 (QJ r)]]=Q8 (D.take (k+1)):=by rw[WA he];simp[Q8]
  have hroom:W4 (k+1) 24:=XX (by omega) (by decide);have hmin:min k D.length=k:=by omega
  clear hlt h5 hd he;refine X0<|X3<|X0<|X2 ?_;refine(X2g 3 [⟨false,.v (.one (.own 15)),some (.row 3 1 (QJ r))⟩] [] (by simp[*];first|exact⟨rfl,Iff.rfl⟩|exact⟨rfl,trivial⟩|rfl) ?_ (Qs 15 rfl) (by simp[*];rfl) trivial ?_)
  .first|exact cl _ (by decide)|exact trivial|simpa using cl _ (by decide)
  refine X2 ?_;exact⟨k+1,hk1,by omega,X4 (fun n=>if n=1003 then 17 else n) []⟩
 try simp only[BN]at h5
 have hkl:k=D.length:=by
  have:¬k<D.length:=by first|omega|simpa using h5
  omega
 subst hkl;rw[List.take_length];refine(Xg ?_);refine X1 ?_;exact Qe ⟨.inr rfl,_,X2b 2 1003 d rfl rfl hd6,⟨⟨_,by simp;rfl,by simp[XL]⟩,by simp,fun h=>by cases h⟩⟩
theorem X8m:∀(l:List Int) (x:Int) (k:Nat),¬x∈l->X4k l x k=-1
 |[],_,_,_=>rfl
 | y::l,x,k,h=>by
   simp only[Nh,not_or]at h;simp only[X4k,h.1,Nc];exact X8m l x _ h.2
theorem idxF_iff (l:List Int) (x:Int):decide (0<=X4k l x 0)=decide (x∈l):=by
 by_cases h:x∈l
 .simp[h,X9m l x 0 h]
 simp[h,X8m l x 0 h]
theorem has_con (l:List Int) (x:Int) (hl:l.length<=1000000000) (d:Nat):Con prog 36 true [lI l,li x] (.v (lb (decide (x∈l)))) none d:=by
 have:=X7H l x hl d
 rwa [idxF_iff]at this
theorem srt_nat (l:List Nat):Xi ((l.map Int.ofNat).mergeSort fun x y=>decide (x<=y))=QJ (l.mergeSort fun x y=>decide (x<=y)):=by
 rw[X10,List.map_mergeSort (r:=fun x y:Nat=>decide (x<=y)) (s:=fun x y:Int=>decide (x<=y))];intro a _ b _;simp
theorem X8F:∀{x y:List Nat},x.map Int.ofNat=y.map Int.ofNat->x=y
 |[],[],_=>rfl
 |[],_::_,h=>by simp at h
 |_::_,[],h=>by simp at h
 | a::x,b::y,h=>by
   simp only[Ni,List.cons.injEq]at h;rw[Int.ofNat.inj h.1,X8F h.2]
theorem memN_iff (l:List Nat) (i:Nat):decide ((i:Int)∈l.map Int.ofNat)=decide (i∈l):=by
 rw[Dk];simp only[N6,NF];constructor
 .rintro⟨a,h1,h2⟩;have:a=i:=Int.ofNat.inj h2;exact this▸h1
 intro h;exact⟨i,h,rfl⟩
theorem hasN_con (l:List Nat) (i:Nat) (hl:l.length<=1000000) (d:Nat):Con prog 36 true [.one (.c (.sl 1 (QJ l))),li i] (.v (lb (decide (i∈l)))) none d:=by
 have:=has_con (l.map Int.ofNat) i (by simp;omega) d;rw[memN_iff]at this;rw[X10];exact this
def jnS (A B:Dfs) (k:Nat):Dfs:=XZ (A.take k) (B.take k)++A.drop k
theorem jnS_zero (A B:Dfs):jnS A B 0=A:=by simp[jnS,XZ]
theorem jnS_len {A B:Dfs} (h:A.length=B.length) (k:Nat):(jnS A B k).length=A.length:=by
 unfold jnS;rw[N9,Zw (by simp[h]),NG,Da];omega
theorem jnS_get {A B:Dfs} (h:A.length=B.length) {k:Nat} {a:List Nat} (ha:A[k]? =some a):(jnS A B k)[k]? =some a:=by
 have hk:=(N5.1 ha).1;have hl:(XZ (A.take k) (B.take k)).length=k:=by rw[Zw (by simp[h]),NG];omega
 unfold jnS;rw[Nn (by omega),hl,Nat.sub_self,Ny,Nat.add_zero,ha]
theorem X5K:∀{A B:Dfs} (a b:List Nat),A.length=B.length->XZ (A++[a]) (B++[b])=XZ A B++[X55 a b]
 |[],[],a,b,_=>rfl
 | x::A,y::B,a,b,h=>by
   simp only[List.cons_append,XZ];rw[X5K a b (by simpa using h)]
 |[],_::_,_,_,h=>by simp at h
 |_::_,[],_,_,h=>by simp at h
theorem jnS_succ {A B:Dfs} (h:A.length=B.length) {k:Nat} {a b:List Nat} (ha:A[k]? =some a) (hb:B[k]? =some b):(jnS A B k).set k (X55 a b)=jnS A B (k+1):=by
 have hk:=(N5.1 ha).1;have hl:(XZ (A.take k) (B.take k)).length=k:=by rw[Zw (by simp[h]),NG];omega
 obtain⟨a',ha',hd⟩:=Xu hk;rw[ha]at ha';cases ha';unfold jnS;rw[WA ha,WA hb,X5K a b (by simp[h]),List.set_append,N7 (by omega),hl,Nat.sub_self,hd,Df];rfl
theorem jnS_end {A B:Dfs} (h:A.length=B.length) {k:Nat} (hk:k=A.length):jnS A B k=XZ A B:=by
 unfold jnS;subst hk;rw[List.take_length,Nt,Dq,h,List.take_length]
set_option maxHeartbeats 16000000 in
theorem X68 (A B:Dfs) (hAB:A.length=B.length) (hA:∀r∈A,r.length<=500000/\r≠[]) (hB:∀r∈B,r.length<=500000) (hAl:A.length<=1000000) (d:Nat):Con prog 105 false [lDD A,lDD B] (.v (lDD (XZ A B))) none d:=by
 have cc:=X9J A (fun r hr=>by have:=(hA r hr).1;omega) hAl;have hz:=jnS_zero A B;have hjl:=jnS_len hAB;have hend:=@jnS_end A B hAB;refine X6 Tryz.func105 ?_;simp only[Tryz.f105];refine X1 ?_;refine Xk [⟨false,.v (.one (.own 11)),some (.mat 29 3 1 (rwS A))⟩] ?_ ?_
 .first|exact cc 11 (by decide)|exact trivial|simpa[*]using cc 11 (by decide)
 refine X0<|X0<|X2 ?_;refine X3<|(Xd [5,12,13] (fun(y:Nat)=>[(14,.v (li y))]) (fun y=>[(11,.mat 29 3 1 (rwS (jnS A B y)))]) (fun y=>y<=B.length) (fun y=>B.length - y) 0 (Nq _) ?_ ?_)
 .exact Xl (fun n=>n) [] rfl (by simp[*,upS,X5]) (by simp[*,upS,hz]) (by simp[upS])
 rintro k hk;simp only[upS,X5,Xy]
 try simp only[X5,KN,Nat.reduceBEq,Nf,Nc,ins,Nat.reduceLT]
 clear cc hz;refine X1 ?_;refine X0<|(X8 rfl (fun h5=>Xb ?_) (fun h5=>?_))
 ·(try simp only[BN]at h5);have hlt:k<B.length:=by first|omega|simpa using h5
  obtain⟨b,hbe,_⟩:=Xu hlt;obtain⟨a,hae,_⟩:=Xu (show k<A.length by omega);have hw1:=XE hlt (by omega);have hk1:k+1<=B.length:=hlt;have hbe':=gtDD hbe;obtain⟨hal,hane⟩:=hA a (N3 hae);have hbl:=hB b (N3 hbe);have hg0:=jnS_get hAB hae;have hsu:=jnS_succ hAB hae hbe;obtain⟨M,hM⟩:∃x,jnS A B k=x:=⟨_,rfl⟩;have hMl:M.length=A.length:=by rw[<-hM];exact hjl k
  rw[hM]at hg0 hsu;have hks:k<M.length:=by omega
  have hset0:M.set k a=M:=by
   apply NN;intro i;rw[NY];split
   .rename_i e;subst e
    first|exact hg0.symm|rw[Na hks,hg0]
   rfl
  clear hlt h5 hbe hae hA hB;rw[hM];refine X0<|X3<|X0<|X2 ?_;refine X0<|X0<|X2 ?_;refine X3<|(Xd [5,6,12,13,14,19,20] (fun(y:Nat×List Nat)=>[(21,.v (li y.1))]) (fun y=>[(11,.mat 29 3 1 (rwS (M.set k y.2)))]) (fun y=>y.1<=b.length/\addAll (b.drop y.1) y.2=addAll b a/\y.2.length<=a.length+y.1/\y.2≠[]) (fun y=>b.length - y.1) (0,a) ⟨Nq _,by simp,by simp,hane⟩ ?_ ?_)
  .exact Xl (fun n=>n) [] rfl (by simp[*,upS,X5]) (by simp[*,upS,hset0]) (by simp[upS])
  rintro⟨j,cur⟩ ⟨hj,hJ,hcl,hcn⟩;simp only[upS,X5,Xy]
  try simp only[X5,KN,Nat.reduceBEq,Nf,Nc,ins,Nat.reduceLT]
  simp only at hj hJ hcl hcn;clear hset0 hg0;have hRl:k+1<=(M.set k cur).length:=by rw[DF];exact hks
  have hg:(rwS (M.set k cur))[k]? =some (some (QJ cur)):=rwS_get (by rw[NX hks]);refine X1 ?_;refine X0<|(X8 rfl (fun h10=>Xb ?_) (fun h10=>?_))
  ·(try simp only[BN]at h10);have hlt:j<b.length:=by first|omega|simpa using h10
   obtain⟨v,hve,hvd⟩:=Xu hlt;have hw2:=XE hlt (by omega);have hj1:j+1<=b.length:=hlt;have hve':=Xbq hve;have ch:=hasN_con cur v (by omega);rw[hvd]at hJ;simp only[addAll]at hJ;clear hlt h10 hve hvd;refine X0<|X3<|X0<|X2 ?_;refine Xk [⟨true,.v (lb (decide (v∈cur))),none⟩] ?_ ?_
   .first|exact ch _|exact trivial|simpa[*]using ch _
   refine(Xc rfl (fun h13=>?_) fun h13=>?_)
   ·(try simp only[BN]at h13);have hm:¬v∈cur:=by simpa using h13
    have had:addN cur v=cur++[v]:=by simp[addN,hm]
    rw[had]at hJ;have hroom:W4 (cur.length+1) 8:=XX (by omega) (by decide)
    have g3:(rwS (M.set k cur)).set k (some (QJ cur++[[iC v]]))=rwS (M.set k (cur++[v])):=by
     have:=Xbv (M.set k cur) k (cur++[v]);rw[List.set_set]at this;rw[<-this];simp
    refine(Xw ?_);refine RunsN.cutE 8 [] (by simp[hg,hRl];rfl) trivial (le_refl _) ?_;refine RunsN.matA (by simp[X9c,neT,hg,g3,hroom];rfl) ?_;refine RunsN.doneE [] rfl trivial ?_;refine X2 ?_;exact⟨(j+1,cur++[v]),⟨hj1,hJ,by simp only[N9,List.length_singleton];omega,by simp⟩,by simp only;omega,Xl (fun n=>if n=11 then 40 else n) [] rfl (by simp[upS,X5,W9,RV.mv,TV.mv,CV.mv, *]) (by simp[*,upS,W9,Ob.mv,CV.mv]) (by simp[upS])⟩
   (try simp only[BN]at h13);have hm:v∈cur:=by simpa using h13
   have had:addN cur v=cur:=by simp[addN,hm]
   rw[had]at hJ;refine X2 ?_;exact⟨(j+1,cur),⟨hj1,hJ,by simp only;omega,hcn⟩,by simp only;omega,X4 (fun n=>n) []⟩
  try simp only[BN]at h10
  have hjl:j=b.length:=by
   have:¬j<b.length:=by first|omega|simpa using h10
   omega
  subst hjl;simp only[Nt,addAll]at hJ;have hsrt:=srt_nat cur;rw[hJ]at hsrt;rw[<-X55]at hsrt;have cs:=X4i (cur.map Int.ofNat) (by rw[NO];exact List.length_pos_iff.2 hcn) (by simp only[NO];omega);rw[<-X10,hJ,hsrt]at cs;have hJn:addAll b a≠[]:=hJ▸hcn;rw[hJ]at hg hRl hcl;have g5:0<(addAll b a).length:=List.length_pos_iff.2 hJn
  have g4:(rwS (M.set k (addAll b a))).set k (some (QJ (X55 a b)))=rwS (jnS A B (k+1)):=by
   rw[Xbv,List.set_set,hsu]
  clear h10;refine(Xg ?_);rw[hJ];refine(Xw ?_);refine RunsN.cutE 4 [] (by simp[hg,hRl];rfl) trivial (le_refl _) ?_;refine RunsN.subA (by simp[X8Z,X23,hg,g5];first|exact⟨rfl,rfl,rfl,rfl,rfl⟩|exact⟨rfl,rfl,rfl,rfl⟩) cs ?_;refine RunsN.doneE [] rfl trivial ?_;refine X2 ?_;exact⟨k+1,hk1,by omega,Xl (fun n=>n) [] rfl (by simp[upS,X5, *]) (by simp[*,upS,g4]) (by simp[upS])⟩
 try simp only[BN]at h5
 have hkl:k=A.length:=by
  have:¬k<B.length:=by first|omega|simpa using h5
  omega
 rw[hend hkl];have hfin:=rwS_end (XZ A B);refine(Xg ?_);refine X1 ?_;refine XB (X9P 11 rfl) ?_;exact Qe ⟨.inr rfl,_,le_refl _,⟨_,by simp[HS.frz,W9,RV.frz,TV.frz,CV.frz];rfl,by simp[XL,hfin]⟩,by simp,fun h=>by cases h⟩
theorem same_con (A B:Dfs) (hAB:A.length=B.length) (hA:∀r∈A,r.length<=1000000) (hB:∀r∈B,r.length<=1000000) (hAl:A.length<=1000000) (d:Nat):Con prog 166 true [lDD A,lDD B] (.v (lb (decide (A=B)))) none d:=by
 obtain⟨res,hres⟩:∃r,decide (A=B)=r:=⟨_,rfl⟩;rw[hres];refine X6 Tryz.func166 ?_;simp only[Tryz.f166];refine X1 ?_;refine X0<|X0<|X2 ?_;refine X3<|(Xd [0,1,7] (fun(z:Nat)=>[(8,.v (li z))]) (fun z=>[]) (fun z=>z<=A.length/\∀k:Nat,k<z->A[k]? =B[k]?) (fun z=>A.length - z) (0:Nat) ⟨Nq _,fun k hk=>absurd hk (Dy k)⟩ ?_ ?_)
 .exact X4 (fun n=>n) []
 rintro k ⟨hk,hall⟩;simp only[upS,X5,Xy]
 try simp only[X5,KN,Nat.reduceBEq,Nf,Nc,ins,Nat.reduceLT]
 refine X1 ?_;refine X0<|(X8 rfl (fun h4=>Xb ?_) (fun h4=>?_))
 ·(try simp only[BN]at h4);have hlt:k<A.length:=by first|omega|simpa using h4
  obtain⟨x,he,_⟩:=Xu hlt;obtain⟨y,hey,_⟩:=Xu (show k<B.length by omega);have hw1:=XE hlt (by omega);have hk1:k+1<=A.length:=hlt;have hkb:k+1<=B.length:=by omega
  have hxe:=gtDD he;have hye:=gtDD hey;have hxl:=hA x (N3 he);have hyl:=hB y (N3 hey);have ce:=X8p (x.map Int.ofNat) (y.map Int.ofNat) (by simp;omega) (by simp;omega);simp only[lI,<-X10]at ce
  have hmi:decide (x.map Int.ofNat=y.map Int.ofNat)=decide (x=y):=by
   have:x.map Int.ofNat=y.map Int.ofNat↔x=y:=⟨fun h=>X8F h,fun h=>by rw[h]⟩;simp only[this]
  rw[hmi]at ce;clear hlt h4 hmi hxl hyl;refine X0<|X3<|X0<|X2 ?_;refine X0<|(QC [⟨true,.v (lb (decide (x=y))),none⟩] (by kernel_rfl) (by kernel_rfl) (by rfl) (by simp[*];first|exact⟨rfl,Iff.rfl⟩|exact⟨rfl,trivial⟩|rfl) ?_ ?_)
  .first|exact ce _|exact trivial|simpa[*]using ce _
  refine(Xc rfl (fun h7=>?_) fun h7=>?_)
  .try simp only[BN]at h7
   have hz:res=false:=by
    rw[<-hres,Nj];intro h;subst h;rw[he]at hey;cases hey;simp at h7
   subst hz;refine X1 ?_;exact Xf
  (try simp only[BN]at h7);refine X2 ?_
  exact⟨k+1,⟨hk1,fun j hj=>by
   rcases Nat.lt_or_eq_of_le (Nat.le_of_lt_succ hj)with h|h
   .exact hall j h
   rw[h,he,hey];have:x=y:=by simpa using h7
   rw[this]⟩,by omega,X4 (fun n=>n) []⟩
 try simp only[BN]at h4
 have hz:res=true:=by
  rw[<-hres,N6];have h4':¬k<A.length:=by first|omega|simpa using h4
  apply NN;intro i;by_cases hi:i<A.length
  .exact hall i (by omega)
  rw[Nx (by omega),Nx (by omega)]
 subst hz;refine(Xg ?_);refine X1 ?_;exact Xf
structure okM (nv B:Nat) (D:Dfs):Prop where
 ok:okD nv D
 ne:∀r∈D,r≠[]
 lt:∀r∈D,∀x∈r,x<B
theorem asc_len:∀{r:List Nat} {B:Nat},r.Pairwise (· < ·)->(∀x∈r,x<B)->r.length<=B:=by
 intro r B h hb;have hn:r.Nodup:=h.imp fun {a b} h=>by show a≠b;omega
 have hs:r ⊆ List.range B:=fun x hx=>List.mem_range.2 (hb x hx);have:=hn.length_le_of_subset hs;simpa using this
theorem okM.len {nv B:Nat} {D:Dfs} (h:okM nv B D):∀r∈D,r.length<=B:=fun r hr=>asc_len (h.ok.asc r hr) (h.lt r hr)
theorem uniL_ne {a:List Nat} (b:List Nat) (h:a≠[]):X55 a b≠[]:=by
 obtain⟨x,hx⟩:=List.exists_mem_of_ne_nil a h;intro he;have:=(X3u a b x).2 (.inl hx);rw[he]at this;cases this
theorem X4H:∀{A B:Dfs} {r:List Nat},r∈XZ A B->∃a∈A,∃b∈B,r=X55 a b
 | a::A,b::B,r,h=>by
   simp only[XZ,Nh]at h;rcases h with rfl|h
   .exact⟨a,by simp,b,by simp,rfl⟩
   obtain⟨x,hx,y,hy,e⟩:=X4H h;exact⟨x,NS _ hx,y,NS _ hy,e⟩
 |[],_,r,h=>by simp[XZ]at h
 |_::_,[],r,h=>by simp[XZ]at h
theorem okM.join {nv N:Nat} {A B:Dfs} (ha:okM nv N A) (hb:okM nv N B):okM nv N (XZ A B):=by
 refine⟨X0M ha.ok hb.ok.len,fun r hr=>?_,fun r hr x hx=>?_⟩
 .obtain⟨a,h1,b,h2,rfl⟩:=X4H hr;exact uniL_ne b (ha.ne a h1)
 obtain⟨a,h1,b,h2,rfl⟩:=X4H hr;rcases(X3u a b x).1 hx with h|h
 .exact ha.lt a h1 x h
 exact hb.lt b h2 x h
theorem okM.set {nv N:Nat} {D:Dfs} (h:okM nv N D) (i:Nat) {p:Nat} (hp:p<N):okM nv N (D.set i [p]):=by
 refine⟨set_ok h.ok i p,fun r hr=>?_,fun r hr x hx=>?_⟩
 .rcases Dg hr with h1|rfl
  .exact h.ne r h1
  simp
 rcases Dg hr with h1|rfl
 .exact h.lt r h1 x hx
 rw[Nk.1 hx];exact hp
theorem okM.ouL {nv N:Nat}:∀l:List St,∀(p:Nat) (D:Dfs),p+szL l<=N->okM nv N D->okM nv N (ouL l p D):=by
 apply St.lind
 .intro p D _ h;exact h
 intro o c w q t a b bs l ia ib il p D hp h;simp only[szL,szS]at hp;rw[Go.Proofs.YtdajceakaakdoaaGreat.ouL,X66]
 have key:okM nv N (if o=3 then XZ (Go.Proofs.YtdajceakaakdoaaGreat.ouL a (p+1) D) (Go.Proofs.YtdajceakaakdoaaGreat.ouL b (p+1+szL a) D)else if o=4 then XZ D (Go.Proofs.YtdajceakaakdoaaGreat.ouL a (p+1) D)else if o=0\/o=5 then D.set w.toNat [p] else D):=by
  split
  .exact(ia _ _ (by omega) h).join (ib _ _ (by omega) h)
  split
  .exact h.join (ia _ _ (by omega) h)
  split
  .exact h.set _ (by omega)
  exact h
 exact il _ _ (by simp only[szS];omega) key
def StepsC (vars:List Vr) (hats:List Ht) (body:List St) (n N:Nat) (l:List St):Prop:=
 ∀(p:Nat) (q:Bool) (T:List Dp) (c:Int) (D:Dfs),p+szL l<=N->c<1000000->okM vars.length N D->T.length+bq q (edL n hats l c p D)<=2000000->
  Z7 prog 55 none (mkO vars hats body n p T q) [.one (.at_ 1000001 0),lS l,li c,lDD D] (fun _:Unit=>True) (fun _=>.v (lDD (ouL l p D))) (fun _=>mkO vars hats body n (p+szL l:Nat) (QP q T (edL n hats l c p D)) q)
set_option maxHeartbeats 16000000 in
theorem XcC (vars:List Vr) (hats:List Ht) (body:List St) (n N:Nat) (hN:N<=500000) (hvl:vars.length<=500000) (o c w sn:Int) (t:Tm) (a b:List St) (bs:List Int) (ha:StepsC vars hats body n N a) (hva:vaL vars.length a=true)
  (ht:t.nodes<=1000000) (htv:∀v∈tmV t,0<=v/\v.toNat<vars.length) (p:Nat) (q:Bool) (T:List Dp) (D:Dfs) (hp:p+1+szL a<=N) (hD:okM vars.length N D)
  (hT:T.length+bq q (rdE p (XZ D (ouL a (p+1) D)) t++(⟨p,p,1⟩::edL n hats a p (p+1) (XZ D (ouL a (p+1) D))))<=2000000):
  Z7 prog 106 none (mkO vars hats body n (p+1:Nat) T q) [.one (.at_ 1000001 0),.agg ((St.mk o c w sn t a b bs).enc.map .c),li p,lDD D] (fun _:Unit=>True) (fun _=>.v (lDD (XZ D (ouL a (p+1) D))))
   (fun _=>mkO vars hats body n (p+1+szL a:Nat) (QP q T (rdE p (XZ D (ouL a (p+1) D)) t++(⟨p,p,1⟩::edL n hats a p (p+1) (XZ D (ouL a (p+1) D))))) q):=by
 have hou:=fun D' (h:okM vars.length N D')=>okM.ouL a (p+1) D' hp h;have hjo:=hD.join (hou D hD);have hfix:=loop_fix (p:=p) hva hD.ok
 have hjf:∀y,okM vars.length N y->∀d,Con prog 105 false [lDD y,lDD (ouL a (p+1) y)] (.v (lDD (XZ y (ouL a (p+1) y)))) none d:=fun y hy d=>
  X68 y (ouL a (p+1) y) (by rw[hy.ok.len,(hou y hy).ok.len]) (fun r hr=>⟨by have:=hy.len r hr;omega,hy.ne r hr⟩) (fun r hr=>by have:=(hou y hy).len r hr;omega) (by rw[hy.ok.len];omega) d
 have hsm:∀y,okM vars.length N y->∀d,Con prog 166 true [lDD (XZ y (ouL a (p+1) y)),lDD y] (.v (lb (decide (XZ y (ouL a (p+1) y)=y)))) none d:=fun y hy d=>
  same_con _ y (by rw[(hy.join (hou y hy)).ok.len,hy.ok.len]) (fun r hr=>by have:=(hy.join (hou y hy)).len r hr;omega) (fun r hr=>by have:=hy.len r hr;omega) (by rw[(hy.join (hou y hy)).ok.len];omega) d
 obtain⟨J,hJ⟩:∃x,XZ D (ouL a (p+1) D)=x:=⟨_,rfl⟩;rw[hJ]at hT hjo hfix⊢;rw[X2S,Xbi]at hT;rw[QW,X0K];have hpq:=fun(y:Dfs) (hy:okM vars.length N y)=>ha (p+1) true T p y hp (by omega) hy (by simp only[bq,Nf];omega);have hadt:∀l,QP true T l=T:=fun l=>rfl;simp only[hadt]at hpq;have cr:=X5u vars hats body n (p+1:Nat) q p J (fun r hr=>by have:=hjo.len r hr;omega) (by rw[hjo.ok.len];omega) t ht (fun v hv=>by rw[hjo.ok.len];exact htv v hv) T (by omega);have hl1:=ZP q T (rdE p J t);obtain⟨T1,hT1⟩:∃x,QP q T (rdE p J t)=x:=⟨_,rfl⟩;rw[hT1]at cr hl1⊢;have ca:=X1z vars hats body n (p+1:Nat) T1 q p p 1 (by omega);have hl2:=Xba q T1 ⟨p,p,1⟩;obtain⟨T2,hT2⟩:∃x,adM q T1 ⟨p,p,1⟩=x:=⟨_,rfl⟩;rw[hT2]at ca hl2⊢;have cst:=ha (p+1) q T2 p J hp (by omega) hjo (by omega);obtain⟨T3,hT3⟩:∃x,QP q T2 (edL n hats a p (p+1) J)=x:=⟨_,rfl⟩;rw[hT3]at cst⊢;obtain⟨e,hE⟩:∃x,p+1+szL a=x:=⟨_,rfl⟩;rw[hE]at hpq cst⊢;obtain⟨po,tn,tk⟩:=t;simp only[aT,Tm.enc,Ni,Nr]at cr;simp only[mkO]at hpq cr ca cst;have hpw:((p+1:Nat):Int)=(p:Int)+1:=by omega
 refine XV Tryz.func106 rfl (by kernel_rfl) (NH rfl) X4a (fun v h=>by cases h) ?_;simp only[Tryz.f106];simp only[mkO,St.enc,Tm.enc,Ni,Nr,List.cons_append,List.nil_append];clear ha hva htv hT hT1 hT2 hT3 hl1 hl2 hou hadt;refine X1 ?_;refine X0<|(N0 ?_);refine X1 ?_;refine X0<|X3<|(Xd [0,2,5,9,10] (fun(y:Dfs×Int)=>[(3,.v (lDD y.1))]) (fun y=>[(5,.box [.c (iC o),.c (iC c),.c (iC w),.c (iC sn),.c (iC po),.c (iC tn),.c (.sl 3 (XA tk)),.c (.sl 10 (X7 a)),.c (.sl 10 (X7 b)),.c (.sl 1 (Xi bs))]),(900002,.row 51 3 (XG T)),(1000001,.box [.c (.sl 5 (Xm vars)),.c (.sl 6 (Xn hats)),.c (.sl 10 (X7 body)),.c (iC n),.c (iC y.2),.own 900002,.c (bC true)])]) (fun y=>y.1=D\/y.1=J) (fun y=>if y.1=J then 0 else 1) (D,((p+1:Nat):Int)) (.inl rfl) ?_ ?_)
 .exact X4 (fun n=>n) []
 rintro⟨y,nx⟩ hy;simp only[upS,X5,Xy]
 try simp only[X5,KN,Nat.reduceBEq,Nf,Nc,ins,Nat.reduceLT]
 simp only at hy;have hyo:okM vars.length N y:=by rcases hy with rfl|rfl<;>assumption
 have hpy:=hpq y hyo;have cj:=hjf y hyo;have cs:=hsm y hyo
 have hyj:XZ y (ouL a (p+1) y)=J:=by
  rcases hy with rfl|rfl
  .exact hJ
  exact hfix
 rw[hyj]at cj cs;obtain⟨Y,hY⟩:∃x,ouL a (p+1) y=x:=⟨_,rfl⟩;rw[hY]at hpy cj;clear hpq hjf hsm hjo hfix hD hyo hy hyj;refine X3<|X0<|X2 ?_;refine X0<|(Xw ?_);refine RunsN.cutE 6 [] (by simp;rfl) trivial (le_refl _) ?_;refine RunsN.callA (fun n=>n) (fun n=>if n=900002 then 900012 else n) hpy fun _ _=>?_;refine RunsN.doneE [⟨false,.v (lDD J),none⟩] (by simp[*];first|exact⟨rfl,Iff.rfl⟩|exact⟨rfl,trivial⟩|rfl) (by first|exact cj _|simpa using cj _) ?_;refine XB (s':=⟨⟨64,none⟩,[(0,.v (.one (.at_ 1000001 0))),(2,.v (li p)),(3,.v (lDD y)),(5,.v (.one (.at_ 5 0))),(9,.v (lb q)),(10,.v (li (p+1:Nat))),(11,.v (lDD J))],[(5,.box [.c (iC o),.c (iC c),.c (iC w),.c (iC sn),.c (iC po),.c (iC tn),.c (.sl 3 (XA tk)),.c (.sl 10 (X7 a)),.c (.sl 10 (X7 b)),.c (.sl 1 (Xi bs))]),(900002,.row 51 3 (XG T)),(1000001,.box [.c (.sl 5 (Xm vars)),.c (.sl 6 (Xn hats)),.c (.sl 10 (X7 body)),.c (iC n),.c (iC e),.own 900002,.c (bC true)])]⟩) (Xl (fun n=>if n=900002 then 900012 else n) [] rfl (by simp[XJ,XU,del,ins,CV.ren,Ob.ren]) (by simp[XJ,XU,del,ins,CV.ren,Ob.ren]) (by simp)) ?_;refine X0<|X0<|(Xo [⟨true,.v (lb (decide (J=y))),none⟩] ?_ ?_)
 .first|exact cs _|exact trivial|simpa[*]using cs _
 refine(Xc rfl (fun h7=>?_) fun h7=>?_)
 ·(try simp only[BN]at h7);have hyj:J=y:=by simpa using h7
  subst hyj;refine(Xg ?_);refine X1 ?_;refine X0<|(Xw ?_);refine RunsN.cutE 5 [] (by simp;rfl) trivial (le_refl _) ?_;refine RunsN.callA (fun n=>n) (fun n=>if n=900002 then 900012 else n) cr fun _ _=>?_;refine RunsN.doneE [] rfl trivial ?_;refine XB (s':=⟨⟨64,none⟩,[(0,.v (.one (.at_ 1000001 0))),(2,.v (li p)),(3,.v (lDD J)),(5,.v (.one (.at_ 5 0)))],[(5,.box [.c (iC o),.c (iC c),.c (iC w),.c (iC sn),.c (iC po),.c (iC tn),.c (.sl 3 (XA tk)),.c (.sl 10 (X7 a)),.c (.sl 10 (X7 b)),.c (.sl 1 (Xi bs))]),(900002,.row 51 3 (XG T1)),(1000001,.box [.c (.sl 5 (Xm vars)),.c (.sl 6 (Xn hats)),.c (.sl 10 (X7 body)),.c (iC n),.c (iC ((p+1:Nat):Int)),.own 900002,.c (bC q)])]⟩) (Xl (fun n=>if n=900002 then 900012 else n) [] rfl (by simp[XJ,XU,del,ins,CV.ren,Ob.ren]) (by simp[XJ,XU,del,ins,CV.ren,Ob.ren]) (by simp)) ?_;refine X0<|(Xw ?_);refine RunsN.cutE 3 [] (by simp;rfl) trivial (le_refl _) ?_;refine RunsN.callA (fun n=>n) (fun n=>if n=900002 then 900012 else n) ca fun _ _=>?_;refine RunsN.doneE [] rfl trivial ?_;refine XB (s':=⟨⟨64,none⟩,[(0,.v (.one (.at_ 1000001 0))),(2,.v (li p)),(3,.v (lDD J)),(5,.v (.one (.at_ 5 0)))],[(5,.box [.c (iC o),.c (iC c),.c (iC w),.c (iC sn),.c (iC po),.c (iC tn),.c (.sl 3 (XA tk)),.c (.sl 10 (X7 a)),.c (.sl 10 (X7 b)),.c (.sl 1 (Xi bs))]),(900002,.row 51 3 (XG T2)),(1000001,.box [.c (.sl 5 (Xm vars)),.c (.sl 6 (Xn hats)),.c (.sl 10 (X7 body)),.c (iC n),.c (iC ((p+1:Nat):Int)),.own 900002,.c (bC q)])]⟩) (Xl (fun n=>if n=900002 then 900012 else n) [] rfl (by simp[XJ,XU,del,ins,CV.ren,Ob.ren]) (by simp[XJ,XU,del,ins,CV.ren,Ob.ren]) (by simp)) ?_;refine X0<|(Xw ?_);refine RunsN.cutE 5 [] (by simp;rfl) trivial (le_refl _) ?_;refine RunsN.callA (fun n=>n) (fun n=>if n=900002 then 900012 else n) cst fun _ _=>?_;refine RunsN.doneE [] rfl trivial ?_;refine XB (s':=⟨⟨64,none⟩,[(3,.v (lDD J))],[(900002,.row 51 3 (XG T3)),(1000001,.box [.c (.sl 5 (Xm vars)),.c (.sl 6 (Xn hats)),.c (.sl 10 (X7 body)),.c (iC n),.c (iC e),.own 900002,.c (bC q)])]⟩) (Xl (fun n=>if n=900002 then 900012 else n) [] rfl (by simp[XJ,XU,del,ins,CV.ren,Ob.ren]) (by simp[XJ,XU,del,ins,CV.ren,Ob.ren]) (by simp)) ?_;refine X1 ?_;exact Qe ⟨.inr rfl,(),trivial,_,le_refl _,⟨_,by simp;rfl,by simp[XL]⟩,fun n o h=>h⟩
 (try simp only[BN]at h7);have hne:¬y=J:=fun h=>by have:=h7;simp[h]at this
 refine X2 ?_;exact⟨(J,(e:Int)),.inr rfl,by simp only[Nf];rw[N7 hne];omega,X4 (fun n=>n) []⟩
def BT:List St->Int
 |[]=>0
 | .mk d c _ n _ a b _::l=>(if d=4 then n*(c+BT a)else if d=3 then c+mx (BT a) (BT b)else c)+BT l
def SX:List St->Int
 |[]=>0
 | .mk d c _ n (.mk o tn _) a b _::l=>(if d=3 then c+mn (SX a) (SX b)else if d=4 then(if o≠0 then Zh n c else if tn≠0 then n*(c+SX a)else Zh n c)else c)+SX l
theorem once_le {n c x:Int} (hn:0<=n) (hc:0<=c) (hx:0<=x):0<=Zh n c/\Zh n c<=n*(c+x):=by
 unfold Zh;split
 .have:=Int.mul_le_mul_of_nonneg_right (show(1:Int)<=n by omega) (show 0<=c+x by omega);omega
 have:n=0:=by omega
 subst this;simp
theorem X62:∀l:List St,okL l=true->0<=SX l/\SX l<=BT l
 |[],_=>by simp[SX,BT]
 | .mk d c v n (.mk o tn ks) a b bs::l,h=>by
   simp only[okL,okS,N4,Nl,N6]at h;have ha:=X62 a h.1.2.2.1;have hb:=X62 b h.1.2.2.2;have hl:=X62 l h.2;have hc:=h.1.1.1;have hn:d=4->0<=n:=fun h4=>by omega
   clear h;simp only[SX,BT];by_cases h3:d=3
   .rw[Na h3,N7 (by omega),Na h3];unfold mn mx
    (repeat' split)<;>omega
   rw[N7 h3];by_cases h4:d=4
   .have hn:=hn h4;rw[Na h4,Na h4];have ho:=once_le hn hc (x:=BT a) (by omega);have h1:=Int.mul_le_mul_of_nonneg_left (show c+SX a<=c+BT a by omega) hn;have h2:=DJ hn (show 0<=c+SX a by omega);split
    .omega
    split<;>omega
   rw[N7 h4,N7 h4,N7 h3];omega
theorem X5v:∀(l:List St) (p:B3),okL l=true->0<=p.t->0<=(bdL CR l p).t/\mn (bdL CR l p).t 67108865=mn (p.t+BT l) 67108865
 |[],p,_,hp=>by simp[bdL,BT,hp]
 | .mk d c v n t a b bs::l,p,h,hp=>by
   have hbt:=X62 a (by simp only[okL,okS,N4,Nl,N6]at h;exact h.1.2.2.1);have hbu:=X62 b (by simp only[okL,okS,N4,Nl,N6]at h;exact h.1.2.2.2);have hbl:=X62 l (by simp only[okL,N4]at h;exact h.2);simp only[okL,okS,N4,Nl,N6]at h;have ha:=X5v a ⟨0,0,0⟩ h.1.2.2.1 (D9 0);have hb:=X5v b ⟨0,0,0⟩ h.1.2.2.2 (D9 0);have il:=fun q=>X5v l q h.2;have hc:=h.1.1.1;have hn:d=4->0<=n/\n<=4096:=fun h4=>by omega
   clear h;simp only[bdL,bdS,BT];generalize bdL CR a ⟨0,0,0⟩=A at*;generalize bdL CR b ⟨0,0,0⟩=B at*;simp only[DM]at ha hb;generalize SX a=xa at*;generalize SX b=xb at*;generalize SX l=xl at*;generalize BT a=ya at*;generalize BT b=yb at*;generalize BT l=yl at*
   have key:∀(X:B3) (Y:Int),0<=X.t->0<=Y->mn X.t 67108865=mn Y 67108865->0<=(bdL CR l (Qf CR p X)).t/\mn (bdL CR l (Qf CR p X)).t 67108865=mn (p.t+(Y+yl)) 67108865:=by
    intro X Y hX hY he;have:=il (Qf CR p X) (by simp only[Qf,CR];unfold mn;split<;>omega);refine⟨this.1,?_⟩;rw[this.2];simp only[Qf,CR];simp only[mn]at he⊢
    (repeat' split at he)<;>(repeat' split)<;>omega
   unfold bd1;by_cases h4:d=4
   .obtain⟨hn0,hn1⟩:=hn h4;rw[Na h4,Na h4];have e:=X2Z (C:=67108865) hn0 ha.1 (show 0<=ya by omega) hc (D9 0) ha.2;simp only[DM]at e;exact key _ _ (DJ hn0 (show 0<=c+A.t by omega)) (DJ hn0 (show 0<=c+ya by omega)) e
   rw[N7 h4,N7 h4];by_cases h3:d=3
   .rw[Na h3,Na h3]
    have e:mn (c+mx A.t B.t) 67108865=mn (c+mx ya yb) 67108865:=by
     obtain⟨a0,a1⟩:=ha;obtain⟨b0,b1⟩:=hb;clear key il;simp only[mn,mx]at*
     (repeat' split at a1)<;>(repeat' split at b1)<;>(repeat' split)<;>omega
    exact key _ _ (by simp only[mx];split<;>omega) (by unfold mx;split<;>omega) e
   rw[N7 h3,N7 h3];split
   .exact key _ _ hc hc rfl
   exact key _ _ hc hc rfl
structure Inn (vars:List Vr) (hv:List Int) (a a':List St):Prop where
 ok:okL a'=true
 run:BT a'<=67108864->∀s:Sta,0<=s.time->s.time+SX a'<=1000000000000->
  (X2L vars hv a' s).time=s.time+SX a'/\s.time<=(X2L vars hv a s).time/\(X2L vars hv a s).time<=s.time+SX a'
theorem BT_of {l:List St} {vars:List Vr} {nh:Nat} (h:ssC vars nh l true=0) (ho:X5V l=false):BT l<=67108864:=by
 have ht:=(X5E ho).2.2;have:=X5v l ⟨0,0,0⟩ (X0E _ _ h) (D9 0);simp only[DM,mn]at this;obtain⟨h1,h2⟩:=this
 (repeat' split at h2)<;>omega
theorem times_eq {f:Fl} (h:Qa f=0):(bdL CP f.body ⟨0,0,0⟩).t=BT f.body/\(bdL CR f.body ⟨0,0,0⟩).t=BT f.body/\0<=BT f.body/\BT f.body<=67108864:=by
 obtain⟨_,_,_,hs,ho⟩:=W6 h;have hok:=X0E _ _ hs;have h1:=BT_of hs ho;have h0:=X62 _ hok;have h2:=X5v f.body ⟨0,0,0⟩ hok (D9 0);have h3:=X3M X2Q X5T (by decide) f.body _ _ hok (WS X5T) (WS X2Q) rfl;unfold X0o at h3;simp only[B3.mk.injEq]at h3;have h4:=h3.2.2;simp only[DM]at h2;generalize(bdL CP f.body ⟨0,0,0⟩).t=p at*;generalize(bdL CR f.body ⟨0,0,0⟩).t=q at*;generalize BT f.body=y at*;obtain⟨h5,h6⟩:=h2;clear h3 hs ho
 have e1:q=y:=by
  simp only[mn]at h6
  (repeat' split at h6)<;>omega
 subst e1
 have e2:p=q:=by
  simp only[mn,CR]at h4
  (repeat' split at h4)<;>omega
 exact⟨e2,rfl,by omega,h1⟩
theorem ZJ:∀(l:List St) (i:Int),i<0->Zr l i=none
 |[],i,h=>X3Y i
 | .mk d c v n t a b bs::l,i,h=>by
   rw[X0G];rw[N7 (by omega),ZJ a _ (by omega)];simp only;rw[ZJ b _ (by omega)];simp only;exact ZJ l _ (by omega)
theorem X0v:∀(l:List St) (i:Int),(szL l:Int)<=i->Zr l i=none
 |[],i,h=>X3Y i
 | .mk d c v n t a b bs::l,i,h=>by
   simp only[szL,szS]at h;rw[X0G];rw[N7 (by omega),X0v a _ (by omega)];simp only;rw[X0v b _ (by omega)];simp only;exact X0v l _ (by omega)
theorem X3O:∀(l:List St) (i:Int),0<=i->i<(szL l:Int)->∃s,Zr l i=some s/\s.nodes<=Xh l/\(Z6 l=true->X43 s=true)/\i+szS s<=szL l/\szL (woL l i)+szS s=szL l
 |[],i,h0,h=>by simp only[szL]at h;omega
 | .mk d c v n t a b bs::l,i,h0,h=>by
   simp only[szL,szS]at h;rw[X0G];split
   .rename_i e;subst e;refine⟨_,rfl,?_,?_,?_,?_⟩
    .simp only[Xh];omega
    .intro hb;simp only[Z6,N4]at hb;exact hb.1
    .simp only[szL,szS];omega
    simp only[woL,Na,List.nil_append,szL];rw[X0C l _ (by have:=X7N (.mk d c v n t a b bs);omega)];omega
   rename_i e;by_cases ha:i - 1<(szL a:Int)
   .obtain⟨s,h1,h2,h3,h4,h5⟩:=X3O a (i - 1) (by omega) ha;rw[h1];refine⟨s,rfl,?_,?_,?_,?_⟩
    .simp only[Xh,St.nodes];omega
    .intro hb;simp only[Z6,X43,N4]at hb;exact h3 hb.1.2.1
    .simp only[szL,szS];omega
    simp only[woL,N7 e,woS,List.cons_append,List.nil_append,szL,szS];rw[X0C b _ (by omega),X0C l _ (by omega)];omega
   rw[X0v a _ (by omega)];simp only;by_cases hb:i - 1 - (szL a:Int)<(szL b:Int)
   .obtain⟨s,h1,h2,h3,h4,h5⟩:=X3O b (i - 1 - szL a) (by omega) hb;rw[h1];refine⟨s,rfl,?_,?_,?_,?_⟩
    .simp only[Xh,St.nodes];omega
    .intro hb;simp only[Z6,X43,N4]at hb;exact h3 hb.1.2.2
    .simp only[szL,szS];omega
    simp only[woL,N7 e,woS,List.cons_append,List.nil_append,szL,szS];rw[X0C a _ (by omega),X0C l _ (by omega)];omega
   rw[X0v b _ (by omega)];simp only;obtain⟨s,h1,h2,h3,h4,h5⟩:=X3O l (i - 1 - szL a - szL b) (by omega) (by omega);rw[h1];refine⟨s,rfl,?_,?_,?_,?_⟩
   .simp only[Xh];omega
   .intro hb;simp only[Z6,N4]at hb;exact h3 hb.2
   .simp only[szL,szS];omega
   simp only[woL,N7 e,woS,List.cons_append,List.nil_append,szL,szS];rw[X0C a _ (by omega),X0C b _ (by omega),show i - ((1+szL a+szL b:Nat):Int)=i - 1 - szL a - szL b by omega];omega
theorem fnd_flL:∀l:List St,∀i:Int,0<=i->Zr l i=(flL l)[i.toNat]? :=by
 apply St.lind
 .intro i _;rw[X3Y];simp[flL]
 intro d c v n t a b bs l ia ib il i hi;rw[X0G];simp only[flL,flS,List.cons_append,Df];split
 .rename_i h0;subst h0;simp
 rename_i h0;have e1:i.toNat=(i - 1).toNat+1:=by omega
 rw[e1,List.getElem?_cons_succ];by_cases h1:i - 1<szL a
 .rw[ia (i - 1) (by omega),Ns (by rw[Q6];omega)];have hl:(i - 1).toNat<(flL a).length:=by rw[Q6];omega
  rw[NA hl]
 rw[X0v a _ (by omega)];simp only;rw[Nn (by rw[Q6];omega),Q6];have e2:(i - 1).toNat - szL a=(i - 1 - szL a).toNat:=by omega
 rw[e2];by_cases h2:i - 1 - szL a<szL b
 .rw[ib (i - 1 - szL a) (by omega),Ns (by rw[Q6];omega)];have hl:(i - 1 - szL a).toNat<(flL b).length:=by rw[Q6];omega
  rw[NA hl]
 rw[X0v b _ (by omega)];simp only;rw[Nn (by rw[Q6];omega),Q6];have e3:(i - 1 - szL a).toNat - szL b=(i - 1 - szL a - szL b).toNat:=by omega
 rw[e3,il _ (by omega)]
end Go.Proofs.YtdajceakaakdoaaGreat
namespace Go.Hl
open Go Go.RowKit
theorem pin_mk {objs:List (Nat×Ob)} (h:(objs.all fun p=>match p.2 with| .box _=>decide (1000000<=p.1)|_=>true)=true) (n:Nat) (cs:List CV) (hl:lkp objs n=some (.box cs)):1000000<=n:=by
 rw[Nm]at h;have:=h _ (XC hl);simpa using this
theorem HT_endS {P:Program} {rs:List ResultVar} {s:HS} {r:RV} {objs':List (Nat×Ob)} {ts:List TV} (hr:X34 P s rs=some ts) (he:r=XL ts) (ho:∀p∈objs',lkp s.objs p.1=some p.2):
  ∃s2,le s s2/\(∃ts,X34 P s2 rs=some ts/\r=XL ts)/\∀n o,lkp objs' n=some o->lkp s2.objs n=some o:=
 ⟨s,le_refl s,⟨ts,hr,he⟩,fun n o h=>ho _ (XC h)⟩
attribute [simp] XJ okTV X38 Qc QR rbB
end Go.Hl
namespace Go.Proofs.YtdajceakaakdoaaGreat
open Go Go.Hl
open Tryz(prog)
variable {n:Nat} {L:List (List Nat)}
end Go.Proofs.YtdajceakaakdoaaGreat
