/- Contracts of functions and plain facts about what they compute. Conditions: as each theorem states. -/
import Derived.Test.YtdajceakaakdoaaGreatB12
set_option linter.unusedSimpArgs false
set_option linter.unusedVariables false
set_option linter.unnecessarySimpa false
set_option maxRecDepth 100000
set_option maxHeartbeats 2000000
namespace Go.Proofs.YtdajceakaakdoaaGreat
open Go Go.Hl
open Tryz(prog)
def ms102a:List (Nat×List Nat):=[(1023,[0,4,8]),(1022,[1,4,8]),(1007,[0,5,8]),(767,[0,4]),(1020,[2,4,8]),(1006,[1,5,8]),(766,[1,4]),(975,[0,8]),(751,[0,5]),(1016,[3,4,8]),(1004,[2,5,8]),(764,[2,4]),(974,[1,8]),(750,[1,5]),(719,[0]),(1008,[4,8]),(1000,[3,5,8]),(760,[3,4]),(972,[2,8]),(748,[2,5]),(718,[1]),(992,[5,8]),(752,[4]),(968,[3,8]),(744,[3,5]),(716,[2]),(960,[6,8]),(736,[5]),(712,[3]),(896,[7,8]),(704,[6]),(768,[8]),(640,[7]),(512,[9])]
def ms102b:List (Nat×List Nat):=[(8191,[0,5,12]),(8190,[1,5,12]),(8159,[0,6,12]),(4095,[0,5]),(8188,[2,5,12]),(8158,[1,6,12]),(4094,[1,5]),(8095,[0,12]),(4063,[0,6]),(8184,[3,5,12]),(8156,[2,6,12]),(4092,[2,5]),(8094,[1,12]),(4062,[1,6]),(3999,[0]),(8176,[4,5,12]),(8152,[3,6,12]),(4088,[3,5]),(8092,[2,12]),(4060,[2,6]),(3998,[1]),(8160,[5,12]),(8144,[4,6,12]),(4080,[4,5]),(8088,[3,12]),(4056,[3,6]),(3996,[2]),(8128,[6,12]),(4064,[5]),(8080,[4,12]),(4048,[4,6]),(3992,[3]),(8064,[7,12]),(4032,[6]),(3984,[4]),(7936,[8,12]),(3968,[7]),(7680,[9,12]),(3840,[8]),(7168,[10,12]),(3584,[9]),(6144,[11,12]),(3072,[10]),(4096,[12]),(2048,[11])]
def ms102c:List (Nat×List Nat):=[(127,[0,1,2,4]),(126,[1,2,4]),(125,[0,2,4]),(123,[0,1,4]),(111,[0,1,2,5]),(124,[2,4]),(122,[1,4]),(110,[1,2,5]),(121,[0,3,4]),(109,[0,2,5]),(107,[0,1,5]),(79,[0,1,2]),(120,[3,4]),(108,[2,5]),(106,[1,5]),(78,[1,2]),(113,[0,4]),(105,[0,3,5]),(77,[0,2]),(75,[0,1]),(112,[4]),(104,[3,5]),(76,[2]),(74,[1]),(97,[0,5]),(73,[0,3]),(96,[5]),(72,[3]),(65,[0]),(64,[6])]
def X97 (regs:List (Nat×RV)) (o7 o8 o9:List (Nat×Ob)) (outs:List (Nat×Nat×RV)) (R:List Nat):HS:=
 {trS ⟨⟨95,none⟩,regs,[]⟩ outs R with objs:=if R.contains 8 then o7 else if R.contains 9 then o8 else o9}
def X2A (regs:List (Nat×RV)) (o:List (Nat×Ob)) (outs:List (Nat×Nat×RV)) (R:List Nat):HS:={trS ⟨⟨95,none⟩,regs,[]⟩ outs R with objs:=o}
@[simp] def X1F (regs:List (Nat×RV)) (o o':List (Nat×Ob)) (outs:List (Nat×Nat×RV)) (R:List Nat):HS:={trS ⟨⟨95,none⟩,regs,[]⟩ outs R with objs:=if R.contains 6 then o else o'}
@[simp] theorem Xcv {l:List Ht} {i:Nat} {x:Ht} (h:l[i]? =some x):(Xn l)[i]? =some x.enc:=by simp[Xn,h]
theorem XcF {l:List (List Nat)} {i:Nat} {x:List Nat} (h:l[i]? =some x):(Q8 l)[i]? =some [CD.sl 1 (QJ x)]:=by simp[Q8,h]
def deF (st:List St) (row:List Nat) (a:Nat) (v:Int):List Dp:=(row.filter fun d=>decide (Qr st d=v)).map fun d:Nat=>(⟨(d:Int),(a:Int),0⟩:Dp)
theorem deF_cons (st:List St) (d:Nat) (row:List Nat) (a:Nat) (v:Int):deF st (d::row) a v=if Qr st d=v then⟨d,a,0⟩::deF st row a v else deF st row a v:=by
 unfold deF;rw[List.filter_cons];by_cases h:Qr st d=v
 .simp[h]
 simp[h]
structure okN1 (hats:List Ht) (st:List St) (x:Nd):Prop where
 a:x.a<0\/∃a:Nat,x.a=a/\a<st.length
 h:∀(a:Nat) q,x.a=a->st[a]? =some q->q.do_=5->0<=q.n/\q.n.toNat<hats.length
set_option maxHeartbeats 64000000 in
theorem XbR (vars:List Vr) (hats:List Ht) (body st:List St) (N:List Nd) (R:List (List Nat)) (dp0:List Dp) (hst:st.length<=100000) (hN:N.length<=100000) (hR:R.length=N.length) (hRl:∀r∈R,r.length<=100000/\∀d∈r,d<=1000000) (hok:∀x∈N,okN1 hats st x)
  (hme:∀q∈st,meV q.term=tmV q.term/\q.term.nodes<=100000/\∀v∈tmV q.term,0<=v/\v<=1000000) (hmh:∀h∈hats,meV h.term=tmV h.term/\h.term.nodes<=100000/\∀v∈tmV h.term,0<=v/\v<=1000000):
  Z7 prog 66 none (pdF vars hats body st dp0) [.one (.at_ 1000001 0),.agg [.c (.sl 4 (Qx N))],.one (.c (.sl 1 (Q8 R)))] (fun _:Unit=>True) (fun _=>.tup []) (fun _=>pdF vars hats body st (XS (X5y st.length hats st N R) dp0)):=by
 obtain⟨RES,hRES⟩:∃x,XS (X5y st.length hats st N R) dp0=x:=⟨_,rfl⟩;rw[hRES];unfold X5y at hRES;refine XV Tryz.func66 rfl (by kernel_rfl) (NH rfl) XaF (fun v h=>by cases h) ?_;simp only[Tryz.f66];simp only[pdF];refine X1 ?_;refine X1 ?_;refine X3<|(Xd [0,2,16,17] (fun(y:Nat×List Dp)=>[(18,.v (li y.1))]) (fun y=>[(900002,.mp (dpM y.2)),(1000001,.box [.c (.sl 5 (Xm vars)),.c (.sl 6 (Xn hats)),.c (.sl 10 (X7 body)),.c (.sl 10 (X7 st)),.own 900002])]) (fun y=>y.1<=N.length/\XS (((N.zip R).drop y.1).flatMap fun p=>X3P st.length hats st p.1 p.2) y.2=RES) (fun y=>N.length - y.1) (0,dp0) ⟨Nq _,by simpa using hRES⟩ ?_ ?_)
 .exact X4 (fun n=>n) []
 rintro⟨i,dp⟩ ⟨hi,hD⟩;simp only[upS,X5,Xy]
 try simp only[X5,KN,Nat.reduceBEq,Nf,Nc,ins,Nat.reduceLT]
 simp only at hi hD;clear hRES;refine X1 ?_;refine X0<|(X8 rfl (fun h4=>Xb ?_) (fun h4=>?_))
 ·(try simp only[BN]at h4);have hlt:i<N.length:=by first|omega|simpa using h4
  have hw1:=XE hlt (by omega);have hi1:i+1<=N.length:=hlt;obtain⟨x,hx,_⟩:=Xu hlt;obtain⟨row,hrow,_⟩:=Xu (show i<R.length by omega);have hz:(N.zip R)[i]? =some (x,row):=by rw[List.getElem?_zip_eq_some];exact⟨hx,hrow⟩
  obtain⟨pz,hz1,hz2⟩:=Xu (show i<(N.zip R).length by rw[List.length_zip];omega);rw[hz]at hz1;cases hz1;rw[hz2,List.flatMap_cons,X00]at hD;simp only at hD;have hxe:=X3D hx;have hre:=XcF hrow;have hxa:=(hok x (N3 hx)).a;have hxh:=(hok x (N3 hx)).h;obtain⟨hrl,hrd⟩:=hRl row (N3 hrow);obtain⟨xk,xa,xn,xo⟩:=x;simp only[Nd.enc]at hxe;simp only at hxa hxh;clear hlt h4 hx hrow hz hz2 hok hRl;refine X0<|X3<|X0<|X2 ?_;rcases hxa with hneg|⟨a,rfl,hal⟩
  .refine X0<|X0<|X2 ?_;refine(Xc rfl (fun h7=>?_) fun h7=>?_)
   .try simp only[BN]at h7
    have hD2:XS (((N.zip R).drop (i+1)).flatMap fun p=>X3P st.length hats st p.1 p.2) dp=RES:=by
     rw[X3P,Na (.inl hneg)]at hD;exact hD
    refine(Xg ?_);refine X2 ?_;exact⟨(i+1,dp),⟨hi1,hD2⟩,by simp only;omega,X4 (fun n=>n) []⟩
   exfalso;simp at h7<;>omega
  obtain⟨s,hs,_⟩:=Xu hal;have hse:=Q2 hs;have hal1:a+1<=st.length:=hal;have ha0:¬((a:Int)<0):=by omega
  have hxh:=hxh a s rfl hs;obtain⟨hm1,hm2,hm3⟩:=hme s (N3 hs);have cm:=X8x s.term (by omega);rw[hm1]at cm;have hlv:=X3V s.term;obtain⟨so,sc,sv,sn,⟨tq,tn,tk⟩,sa,sb,sbs⟩:=s
  have hno:∀r,X3P st.length hats st ⟨xk,(a:Int),xn,xo⟩ r=if xk=4 then [] else(if so=5 then(match hats[sn.toNat]? with|some h=>rlE st.length a h.term|none=>[])else(tmV (Tm.mk tq tn tk)).flatMap fun v=>deF st r a v):=by
   intro r;unfold X3P;by_cases h4:xk=4
   .rw[Na (.inr h4),Na h4]
   rw[N7 (by simp only;omega),N7 h4,Int.toNat_natCast,hs];rfl
  rw[hno]at hD;simp only[St.do_,St.n,St.term]at hxh hm3 cm hlv hm2;simp only[St.enc,Tm.enc,List.cons_append,List.nil_append]at hse;simp only[aT,Tm.enc,Ni,Nr]at cm;have cdf:=fun(d:List Dp) (e v:Int) (he:0<=e) (hv:0<=v/\v<=1000000)=>X7U vars hats body st d e v he hv.1 hv.2 (by omega);have cst:=fun(d:List Dp) (v:Int) (hv:0<=v/\v<=1000000)=>X2D vars hats body st d v hv.1 hv.2 (by omega);clear hal hs hno hm1 hme;refine X0<|X0<|X2 ?_;refine(Xc rfl (fun h7=>?_) fun h7=>?_)
  .try simp only[BN]at h7
   have hk4:xk=4:=by
    first
     |simpa using h7
     | (rcases(by simpa using h7:(a:Int)<0\/xk=4)with h|h
        .exact absurd h ha0
        exact h)
   have hD2:XS (((N.zip R).drop (i+1)).flatMap fun p=>X3P st.length hats st p.1 p.2) dp=RES:=by
    rw[Na hk4]at hD;exact hD
   refine(Xg ?_);refine X2 ?_;exact⟨(i+1,dp),⟨hi1,hD2⟩,by simp only;omega,X4 (fun n=>n) []⟩
  (try simp only[BN]at h7);have hk4:¬xk=4:=fun h=>by simp[h]at h7
  rw[N7 hk4]at hD;clear h7;refine XB (s':=⟨⟨95,none⟩,[(0,.v (.one (.at_ 1000001 0))),(2,.v (.one (.c (.sl 1 (Q8 R))))),(6,.v (li i)),(7,.v (.one (.at_ 7 0))),(16,.v (.one (.c (.sl 4 (Qx N))))),(17,.v (li N.length)),(18,.v (li i))],[(7,.box [.c (iC xk),.c (iC (a:Int)),.c (iC xn),.c (iC xo)]),(900002,.mp (dpM dp)),(1000001,.box [.c (.sl 5 (Xm vars)),.c (.sl 6 (Xn hats)),.c (.sl 10 (X7 body)),.c (.sl 10 (X7 st)),.own 900002])]⟩) (Xl (fun n=>n) [] rfl (by simp[*]) (by simp[*]) (by simp)) ?_;refine X0<|(WQ (X97 [(0,.v (.one (.at_ 1000001 0))),(2,.v (.one (.c (.sl 1 (Q8 R))))),(6,.v (li i)),(7,.v (.one (.at_ 7 0))),(16,.v (.one (.c (.sl 4 (Qx N))))),(17,.v (li N.length)),(18,.v (li i))] [(7,.box [.c (iC xk),.c (iC (a:Int)),.c (iC xn),.c (iC xo)]),(900002,.mp (dpM dp)),(1000001,.box [.c (.sl 5 (Xm vars)),.c (.sl 6 (Xn hats)),.c (.sl 10 (X7 body)),.c (.sl 10 (X7 st)),.own 900002])] [(7,.box [.c (iC xk),.c (iC (a:Int)),.c (iC xn),.c (iC xo)]),(8,.box [.c (iC 0),.c (iC 0),.c (iC 0),.c (iC 0),.c (iC 0),.c (iC 0),.c (.lit XY),.c (.lit XY),.c (.lit XY),.c (.lit XY)]),(900002,.mp (dpM dp)),(1000001,.box [.c (.sl 5 (Xm vars)),.c (.sl 6 (Xn hats)),.c (.sl 10 (X7 body)),.c (.sl 10 (X7 st)),.own 900002])] [(7,.box [.c (iC xk),.c (iC (a:Int)),.c (iC xn),.c (iC xo)]),(8,.box [.c (iC so),.c (iC sc),.c (iC sv),.c (iC sn),.c (iC tq),.c (iC tn),.c (.sl 3 (XA tk)),.c (.sl 10 (X7 sa)),.c (.sl 10 (X7 sb)),.c (.sl 1 (Xi sbs))]),(900002,.mp (dpM dp)),(1000001,.box [.c (.sl 5 (Xm vars)),.c (.sl 6 (Xn hats)),.c (.sl 10 (X7 body)),.c (.sl 10 (X7 st)),.own 900002])] [(0,31,.v (.one (.at_ 1000001 0))),(1,32,.v (.one (.at_ 1000001 0))),(2,33,.v (.one (.at_ 1000001 3))),(3,34,.v (.one (.c (.sl 10 (X7 st))))),(4,35,.v (.one (.at_ 7 1))),(5,36,.v (li (a:Int))),(6,37,.v (.one (.c (.ptr [iC so,iC sc,iC sv,iC sn,iC tq,iC tn,.sl 3 (XA tk),.sl 10 (X7 sa),.sl 10 (X7 sb),.sl 1 (Xi sbs)])))),(7,38,.v (.agg [.c (iC so),.c (iC sc),.c (iC sv),.c (iC sn),.c (iC tq),.c (iC tn),.c (.sl 3 (XA tk)),.c (.sl 10 (X7 sa)),.c (.sl 10 (X7 sb)),.c (.sl 1 (Xi sbs))])),(8,8,.v (.one (.at_ 8 0)))]) 10 1023 ms102a rfl (by kernel_rfl) (by kernel_rfl) (by kernel_rfl) (by kernel_rfl) (by simp[X97,trS]) ?_ ?_)
  .simp only[ms102a,X1C]
   repeat' apply And.intro
   all_goals first
    |(refine Q4.evE rfl ?_;simp[X97,trS,ins,lkp,del,XO,QE,Q3,cellsOf,W2,WV,X0e,WU,Wq,hse,hal1];done)
    |trivial
  refine XB (s':=⟨⟨95,none⟩,[(0,.v (.one (.at_ 1000001 0))),(2,.v (.one (.c (.sl 1 (Q8 R))))),(6,.v (li i)),(7,.v (.one (.at_ 7 0))),(8,.v (.one (.at_ 8 0))),(16,.v (.one (.c (.sl 4 (Qx N))))),(17,.v (li N.length)),(18,.v (li i))],[(7,.box [.c (iC xk),.c (iC (a:Int)),.c (iC xn),.c (iC xo)]),(8,.box [.c (iC so),.c (iC sc),.c (iC sv),.c (iC sn),.c (iC tq),.c (iC tn),.c (.sl 3 (XA tk)),.c (.sl 10 (X7 sa)),.c (.sl 10 (X7 sb)),.c (.sl 1 (Xi sbs))]),(900002,.mp (dpM dp)),(1000001,.box [.c (.sl 5 (Xm vars)),.c (.sl 6 (Xn hats)),.c (.sl 10 (X7 body)),.c (.sl 10 (X7 st)),.own 900002])]⟩) (Xl (fun n=>n) [] rfl (by simp[X97,trS]) (by simp[X97,trS]) (by simp)) ?_;refine X0<|X0<|X2 ?_;refine(Xc rfl (fun h12=>?_) fun h12=>?_)
  ·(try simp only[BN]at h12);have h5:so=5:=by simpa using h12
   obtain⟨hq1,hq2⟩:=hxh h5;obtain⟨h,hh,_⟩:=Xu hq2;have hhe:=Xcv hh;obtain⟨hp1,hp2,hp3⟩:=hmh h (N3 hh);have ch:=X8x h.term (by omega);rw[hp1]at ch;have hlh:=X3V h.term;obtain⟨hm,hl,hhi,⟨ho,hn,hk⟩⟩:=h;simp only[Ht.enc,Tm.enc,List.cons_append,List.nil_append]at hhe;simp only at hp3 hlh hp2 ch hD;rw[Na h5,hh]at hD;simp only[rlE]at hD;simp only[aT,Tm.enc,Ni,Nr]at ch;obtain⟨V,hV⟩:∃x,tmV (Tm.mk ho hn hk)=x:=⟨_,rfl⟩;rw[hV]at hp3 hlh ch hD;have hsn0:((sn.toNat:Nat):Int)=sn:=by omega
   have hq3:sn.toNat+1<=hats.length:=hq2;have hq0:¬sn<0:=by omega
   clear cm hm3 hlv hV hh h12 hq2 hm2 cdf hrd hre;refine XB (s':=⟨⟨95,none⟩,[(0,.v (.one (.at_ 1000001 0))),(2,.v (.one (.c (.sl 1 (Q8 R))))),(6,.v (li i)),(7,.v (.one (.at_ 7 0))),(8,.v (.one (.at_ 8 0))),(16,.v (.one (.c (.sl 4 (Qx N))))),(17,.v (li N.length)),(18,.v (li i))],[(7,.box [.c (iC xk),.c (iC (a:Int)),.c (iC xn),.c (iC xo)]),(8,.box [.c (iC so),.c (iC sc),.c (iC sv),.c (iC sn),.c (iC tq),.c (iC tn),.c (.sl 3 (XA tk)),.c (.sl 10 (X7 sa)),.c (.sl 10 (X7 sb)),.c (.sl 1 (Xi sbs))]),(900002,.mp (dpM dp)),(1000001,.box [.c (.sl 5 (Xm vars)),.c (.sl 6 (Xn hats)),.c (.sl 10 (X7 body)),.c (.sl 10 (X7 st)),.own 900002])]⟩) (Xl (fun n=>n) [] rfl (by simp) (by simp) (by simp)) ?_;refine X0<|X0<|(WQ (X2A [(0,.v (.one (.at_ 1000001 0))),(2,.v (.one (.c (.sl 1 (Q8 R))))),(6,.v (li i)),(7,.v (.one (.at_ 7 0))),(8,.v (.one (.at_ 8 0))),(16,.v (.one (.c (.sl 4 (Qx N))))),(17,.v (li N.length)),(18,.v (li i))] [(7,.box [.c (iC xk),.c (iC (a:Int)),.c (iC xn),.c (iC xo)]),(8,.box [.c (iC so),.c (iC sc),.c (iC sv),.c (iC sn),.c (iC tq),.c (iC tn),.c (.sl 3 (XA tk)),.c (.sl 10 (X7 sa)),.c (.sl 10 (X7 sb)),.c (.sl 1 (Xi sbs))]),(900002,.mp (dpM dp)),(1000001,.box [.c (.sl 5 (Xm vars)),.c (.sl 6 (Xn hats)),.c (.sl 10 (X7 body)),.c (.sl 10 (X7 st)),.own 900002])] [(0,42,.v (.one (.at_ 1000001 0))),(1,43,.v (.one (.at_ 1000001 0))),(2,44,.v (.one (.at_ 1000001 0))),(3,45,.v (.one (.at_ 1000001 1))),(4,46,.v (.one (.c (.sl 6 (Xn hats))))),(5,47,.v (.one (.at_ 8 3))),(6,48,.v (li sn)),(7,49,.v (.one (.c (.ptr [sC hm,iC hl,iC hhi,iC ho,iC hn,.sl 3 (XA hk)])))),(8,50,.v (.one (.c (.ptr [iC ho,iC hn,.sl 3 (XA hk)])))),(9,51,.v (.agg [.c (iC ho),.c (iC hn),.c (.sl 3 (XA hk))])),(10,52,.v (lI V)),(11,53,.v (li V.length)),(12,54,.v (li 0))]) 13 8191 ms102b rfl (by kernel_rfl) (by kernel_rfl) (by kernel_rfl) (by kernel_rfl) (by simp[X2A,trS]) ?_ ?_)
   .simp only[ms102b,X1C]
    repeat' apply And.intro
    all_goals first
     |(refine Q4.evE rfl ?_;simp[X2A,trS,ins,lkp,del,XO,QE,Q3,cellsOf,W2,WV,X0e,WU,Wq,hhe,hq1,hq3,hq0];done)
     |(refine Q4.ev [⟨false,.v (lI V),none⟩] rfl (by simp[X2A,trS,ins,lkp,del];first|exact⟨rfl,Iff.rfl⟩|exact⟨rfl,trivial⟩|rfl) ?_ (by simp[X2A,trS,ins]);first|exact ch _|simpa using ch _)
     |trivial
   refine XB (s':=⟨⟨95,none⟩,[(0,.v (.one (.at_ 1000001 0))),(2,.v (.one (.c (.sl 1 (Q8 R))))),(6,.v (li i)),(7,.v (.one (.at_ 7 0))),(16,.v (.one (.c (.sl 4 (Qx N))))),(17,.v (li N.length)),(18,.v (li i)),(52,.v (lI V)),(53,.v (li V.length)),(54,.v (li 0))],[(7,.box [.c (iC xk),.c (iC (a:Int)),.c (iC xn),.c (iC xo)]),(900002,.mp (dpM dp)),(1000001,.box [.c (.sl 5 (Xm vars)),.c (.sl 6 (Xn hats)),.c (.sl 10 (X7 body)),.c (.sl 10 (X7 st)),.own 900002])]⟩) (Xl (fun n=>n) [] rfl (by simp[X2A,trS]) (by simp[X2A,trS]) (by simp)) ?_;refine X3<|(Xd [0,2,7,16,17,18,52,53] (fun(y:Nat×List Dp)=>[(54,.v (li y.1))]) (fun y=>[(7,.box [.c (iC xk),.c (iC (a:Int)),.c (iC xn),.c (iC xo)]),(900002,.mp (dpM y.2)),(1000001,.box [.c (.sl 5 (Xm vars)),.c (.sl 6 (Xn hats)),.c (.sl 10 (X7 body)),.c (.sl 10 (X7 st)),.own 900002])]) (fun y=>y.1<=V.length/\XS (((N.zip R).drop (i+1)).flatMap fun p=>X3P st.length hats st p.1 p.2) (XS ((V.drop y.1).map fun v:Int=>(⟨(st.length:Int)+v,(a:Int),2⟩:Dp)) y.2)=RES) (fun y=>V.length - y.1) (0,dp) ⟨Nq _,by simpa using hD⟩ ?_ ?_)
   .exact X4 (fun n=>n) []
   rintro⟨j,d1⟩ ⟨hj,hD1⟩;simp only[upS,X5,Xy]
   try simp only[X5,KN,Nat.reduceBEq,Nf,Nc,ins,Nat.reduceLT]
   simp only at hj hD1;clear hD;refine X1 ?_;refine X0<|(X8 rfl (fun h16=>Xb ?_) (fun h16=>?_))
   ·(try simp only[BN]at h16);have hlt:j<V.length:=by first|omega|simpa using h16
    have hw2:=XE hlt (by omega);have hj1:j+1<=V.length:=hlt;obtain⟨v,hv,hd⟩:=Xu hlt;have hve:(Xi V)[j]? =some [iC v]:=by simp[Xi,hv]
    rw[hd,Ni,XS]at hD1;have hvb:=hp3 v (N3 hv);have cst:=cst d1 v hvb;have cad:=X5F vars hats body st d1 ((st.length:Int)+v) a 2;simp only[pdF]at cad;clear hlt h16 hv hd;refine X0<|X3<|X0<|X2 ?_;refine XB (s':=⟨⟨95,none⟩,[(0,.v (.one (.at_ 1000001 0))),(2,.v (.one (.c (.sl 1 (Q8 R))))),(7,.v (.one (.at_ 7 0))),(10,.v (li v)),(16,.v (.one (.c (.sl 4 (Qx N))))),(17,.v (li N.length)),(18,.v (li i)),(52,.v (lI V)),(53,.v (li V.length)),(54,.v (li j))],[(7,.box [.c (iC xk),.c (iC (a:Int)),.c (iC xn),.c (iC xo)]),(900002,.mp (dpM d1)),(1000001,.box [.c (.sl 5 (Xm vars)),.c (.sl 6 (Xn hats)),.c (.sl 10 (X7 body)),.c (.sl 10 (X7 st)),.own 900002])]⟩) (Xl (fun n=>n) [] rfl (by simp[*]) (by simp[*]) (by simp)) ?_;refine(WQ (X1F [(0,.v (.one (.at_ 1000001 0))),(2,.v (.one (.c (.sl 1 (Q8 R))))),(7,.v (.one (.at_ 7 0))),(10,.v (li v)),(16,.v (.one (.c (.sl 4 (Qx N))))),(17,.v (li N.length)),(18,.v (li i)),(52,.v (lI V)),(53,.v (li V.length)),(54,.v (li j))] [(7,.box [.c (iC xk),.c (iC (a:Int)),.c (iC xn),.c (iC xo)]),(900002,.mp (dpM d1)),(1000001,.box [.c (.sl 5 (Xm vars)),.c (.sl 6 (Xn hats)),.c (.sl 10 (X7 body)),.c (.sl 10 (X7 st)),.own 900002])] [(7,.box [.c (iC xk),.c (iC (a:Int)),.c (iC xn),.c (iC xo)]),(900012,.mp (dpM (Wm d1 ⟨(st.length:Int)+v,a,2⟩))),(1000001,.box [.c (.sl 5 (Xm vars)),.c (.sl 6 (Xn hats)),.c (.sl 10 (X7 body)),.c (.sl 10 (X7 st)),.own 900012])] [(0,58,.v (.one (.at_ 1000001 0))),(1,59,.v (.one (.at_ 1000001 0))),(2,60,.v (li v)),(3,61,.v (li ((st.length:Int)+v))),(4,62,.v (.one (.at_ 7 1))),(5,63,.v (li (a:Int))),(6,64,.tup [])]) 7 127 ms102c rfl (by kernel_rfl) (by kernel_rfl) (by kernel_rfl) (by kernel_rfl) (by simp[X1F,trS]) ?_ ?_)
    .simp only[ms102c,X1C]
     repeat' apply And.intro
     all_goals first
      |(refine Q4.evE rfl ?_;simp[X1F,trS,ins,lkp,del];done)
      |(refine Q4.ev [⟨true,.v (li ((st.length:Int)+v)),none⟩] rfl (by simp[X1F,trS,ins,lkp,del];first|exact⟨rfl,Iff.rfl⟩|exact⟨rfl,trivial⟩|rfl) ?_ (by simp[X1F,trS,ins]);first|exact cst _|simpa using cst _)
      | (refine Q4.callA (fun n=>n) (fun n=>if n=900002 then 900012 else n) cad rfl fun _ _=>?_
         simp[X1F,trS,ins,XJ,XU,del,CV.ren,Ob.ren])
      |trivial
    refine XB (s':=⟨⟨95,none⟩,[(0,.v (.one (.at_ 1000001 0))),(2,.v (.one (.c (.sl 1 (Q8 R))))),(7,.v (.one (.at_ 7 0))),(16,.v (.one (.c (.sl 4 (Qx N))))),(17,.v (li N.length)),(18,.v (li i)),(52,.v (lI V)),(53,.v (li V.length)),(54,.v (li j))],[(7,.box [.c (iC xk),.c (iC (a:Int)),.c (iC xn),.c (iC xo)]),(900002,.mp (dpM (Wm d1 ⟨(st.length:Int)+v,a,2⟩))),(1000001,.box [.c (.sl 5 (Xm vars)),.c (.sl 6 (Xn hats)),.c (.sl 10 (X7 body)),.c (.sl 10 (X7 st)),.own 900002])]⟩) (Xl (fun n=>if n=900002 then 900012 else n) [] rfl (by simp[X1F,trS]) (by simp[X1F,trS]) (by simp)) ?_;refine X2 ?_;exact⟨(j+1,Wm d1 ⟨(st.length:Int)+v,a,2⟩),⟨hj1,hD1⟩,by simp only;omega,X4 (fun n=>n) []⟩
   try simp only[BN]at h16
   have hjl:j=V.length:=by
    have:¬j<V.length:=by first|omega|simpa using h16
    omega
   subst hjl;rw[Nt]at hD1;simp only[Nr,XS]at hD1;refine(Xg ?_);refine(Xg ?_);refine X2 ?_;exact⟨(i+1,d1),⟨hi1,hD1⟩,by simp only;omega,X4 (fun n=>n) []⟩
  (try simp only[BN]at h12);have h5:¬so=5:=by simpa using h12
  rw[N7 h5]at hD;obtain⟨V,hV⟩:∃x,tmV (Tm.mk tq tn tk)=x:=⟨_,rfl⟩;rw[hV]at hm3 hlv cm hD;clear hxh hmh hV h12 hse cst;refine Xk [⟨false,.v (lI V),none⟩] ?_ ?_
  .first|exact cm _|exact trivial|simpa[*]using cm _
  refine X3<|(Xd [0,2,6,7,16,17,18,68,69] (fun(y:Nat×List Dp)=>[(70,.v (li y.1))]) (fun y=>[(7,.box [.c (iC xk),.c (iC (a:Int)),.c (iC xn),.c (iC xo)]),(900002,.mp (dpM y.2)),(1000001,.box [.c (.sl 5 (Xm vars)),.c (.sl 6 (Xn hats)),.c (.sl 10 (X7 body)),.c (.sl 10 (X7 st)),.own 900002])]) (fun y=>y.1<=V.length/\XS (((N.zip R).drop (i+1)).flatMap fun p=>X3P st.length hats st p.1 p.2) (XS ((V.drop y.1).flatMap fun v=>deF st row a v) y.2)=RES) (fun y=>V.length - y.1) (0,dp) ⟨Nq _,by simpa using hD⟩ ?_ ?_)
  .exact X4 (fun n=>n) []
  rintro⟨j,d1⟩ ⟨hj,hD1⟩;simp only[upS,X5,Xy]
  try simp only[X5,KN,Nat.reduceBEq,Nf,Nc,ins,Nat.reduceLT]
  simp only at hj hD1;clear hD;refine X1 ?_;refine X0<|(X8 rfl (fun h26=>Xb ?_) (fun h26=>?_))
  ·(try simp only[BN]at h26);have hlt:j<V.length:=by first|omega|simpa using h26
   have hw2:=XE hlt (by omega);have hj1:j+1<=V.length:=hlt;obtain⟨v,hv,hd⟩:=Xu hlt;have hve:(Xi V)[j]? =some [iC v]:=by simp[Xi,hv]
   rw[hd,List.flatMap_cons,X00]at hD1;have hvb:=hm3 v (N3 hv);have hi2:i+1<=R.length:=by omega
   clear hlt h26 hv hd;refine X0<|X3<|X0<|X2 ?_;refine X1 ?_;refine X3<|(Xd [0,2,6,7,12,16,17,18,68,69,70,77,78] (fun(y:Nat×List Dp)=>[(79,.v (li y.1))]) (fun y=>[(7,.box [.c (iC xk),.c (iC (a:Int)),.c (iC xn),.c (iC xo)]),(900002,.mp (dpM y.2)),(1000001,.box [.c (.sl 5 (Xm vars)),.c (.sl 6 (Xn hats)),.c (.sl 10 (X7 body)),.c (.sl 10 (X7 st)),.own 900002])]) (fun y=>y.1<=row.length/\XS (((N.zip R).drop (i+1)).flatMap fun p=>X3P st.length hats st p.1 p.2) (XS ((V.drop (j+1)).flatMap fun v=>deF st row a v) (XS (deF st (row.drop y.1) a v) y.2))=RES) (fun y=>row.length - y.1) (0,d1) ⟨Nq _,by simpa using hD1⟩ ?_ ?_)
   .exact X4 (fun n=>n) []
   rintro⟨m,d2⟩ ⟨hm,hD2⟩;simp only[upS,X5,Xy]
   try simp only[X5,KN,Nat.reduceBEq,Nf,Nc,ins,Nat.reduceLT]
   simp only at hm hD2;clear hD1;refine X1 ?_;refine X0<|(X8 rfl (fun h31=>Xb ?_) (fun h31=>?_))
   ·(try simp only[BN]at h31);have hlt:m<row.length:=by first|omega|simpa using h31
    have hw3:=XE hlt (by omega);have hm1:m+1<=row.length:=hlt;obtain⟨e,he,hd⟩:=Xu hlt;have hee:(QJ row)[m]? =some [iC e]:=by simp[QJ,he]
    rw[hd,deF_cons]at hD2;have cdf:=cdf d2 e v (by omega) hvb;rw[Int.toNat_natCast]at cdf;have cad:=X5F vars hats body st d2 e a 0;simp only[pdF]at cad;clear hlt h31 he hd;refine X0<|X3<|X0<|X2 ?_;refine Xk [⟨true,.v (lb (decide (Qr st e=v))),none⟩] ?_ ?_
    .first|exact cdf _|exact trivial|simpa[*]using cdf _
    refine(Xc rfl (fun h34=>?_) fun h34=>?_)
    ·(try simp only[BN]at h34);have hvo:Qr st e=v:=by simpa using h34
     rw[Na hvo,XS]at hD2;clear h34;refine(Xw ?_);refine RunsN.cutE 4 [] (by simp[*];rfl) trivial (le_refl _) ?_;refine RunsN.callA (fun n=>n) (fun n=>if n=900002 then 900012 else n) cad fun _ _=>?_;refine RunsN.doneE [] rfl trivial ?_;refine XB (s':=⟨⟨95,none⟩,[(0,.v (.one (.at_ 1000001 0))),(2,.v (.one (.c (.sl 1 (Q8 R))))),(6,.v (li i)),(7,.v (.one (.at_ 7 0))),(12,.v (li v)),(16,.v (.one (.c (.sl 4 (Qx N))))),(17,.v (li N.length)),(18,.v (li i)),(68,.v (lI V)),(69,.v (li V.length)),(70,.v (li j)),(77,.v (.one (.c (.sl 1 (QJ row))))),(78,.v (li row.length)),(79,.v (li m))],[(7,.box [.c (iC xk),.c (iC (a:Int)),.c (iC xn),.c (iC xo)]),(900002,.mp (dpM (Wm d2 ⟨(e:Int),a,0⟩))),(1000001,.box [.c (.sl 5 (Xm vars)),.c (.sl 6 (Xn hats)),.c (.sl 10 (X7 body)),.c (.sl 10 (X7 st)),.own 900002])]⟩) (Xl (fun n=>if n=900002 then 900012 else n) [] rfl (by simp[XJ,XU,del,ins,CV.ren,Ob.ren, *]) (by simp[XJ,XU,del,ins,CV.ren,Ob.ren, *]) (by simp)) ?_;refine X2 ?_;exact⟨(m+1,Wm d2 ⟨(e:Int),a,0⟩),⟨hm1,hD2⟩,by simp only;omega,X4 (fun n=>n) []⟩
    (try simp only[BN]at h34);have hvo:¬Qr st e=v:=by simpa using h34
    rw[N7 hvo]at hD2;clear h34;refine X2 ?_;exact⟨(m+1,d2),⟨hm1,hD2⟩,by simp only;omega,X4 (fun n=>n) []⟩
   try simp only[BN]at h31
   have hml:m=row.length:=by
    have:¬m<row.length:=by first|omega|simpa using h31
    omega
   subst hml;rw[Nt]at hD2;simp only[deF,List.filter_nil,Nr,XS]at hD2;refine(Xg ?_);refine X2 ?_;exact⟨(j+1,d2),⟨hj1,hD2⟩,by simp only;omega,X4 (fun n=>n) []⟩
  try simp only[BN]at h26
  have hjl:j=V.length:=by
   have:¬j<V.length:=by first|omega|simpa using h26
   omega
  subst hjl;rw[Nt]at hD1;simp only[List.flatMap_nil,XS]at hD1;refine(Xg ?_);refine X2 ?_;exact⟨(i+1,d1),⟨hi1,hD1⟩,by simp only;omega,X4 (fun n=>n) []⟩
 try simp only[BN]at h4
 have hil:i=N.length:=by
  have:¬i<N.length:=by first|omega|simpa using h4
  omega
 subst hil;rw[List.drop_eq_nil_of_le (by rw[List.length_zip];omega)]at hD;simp only[List.flatMap_nil,XS]at hD;subst hD;refine(Xg ?_);exact⟨.inl rfl,(),trivial,_,le_refl _,⟨[],rfl,rfl⟩,fun n o h=>h⟩
end Go.Proofs.YtdajceakaakdoaaGreat
