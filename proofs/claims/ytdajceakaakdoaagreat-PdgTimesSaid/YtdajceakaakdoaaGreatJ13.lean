/- Contracts of functions and plain facts about what they compute. Conditions: as each theorem states. -/
import Derived.Test.YtdajceakaakdoaaGreatJ11
import Derived.Test.YtdajceakaakdoaaGreatH7
set_option linter.unusedSimpArgs false
set_option linter.unusedVariables false
set_option linter.unnecessarySimpa false
set_option maxRecDepth 100000
set_option maxHeartbeats 2000000
namespace Go.Proofs.YtdajceakaakdoaaGreat
open Go Go.Hl
open Tryz(prog)
def Dp.d3 (x:Dp):D3:=(x.f,x.t,x.k)
theorem Dp.d3_inj {x y:Dp} (h:x.d3=y.d3):x=y:=by
 obtain⟨a,b,c⟩:=x;obtain⟨a',b',c'⟩:=y;simp only[Dp.d3,Prod.mk.injEq]at h;rw[h.1,h.2.1,h.2.2]
def dpM (l:List Dp):List (Value×CD):=d3M (l.map Dp.d3)
theorem XcQ (l:List Dp) (x:Dp):d3M (ins3 (l.map Dp.d3) x.d3)=dpM (Z5 l x):=by
 unfold ins3 Z5 dpM
 have:x.d3∈l.map Dp.d3↔x∈l:=by
  rw[NG];exact⟨fun⟨y,hy,he⟩=>Dp.d3_inj he▸hy,fun h=>⟨x,h,rfl⟩⟩
 by_cases h:x∈l
 .rw[N8 h,N8 (this.2 h)]
 rw[N7 h,N7 (fun h2=>h (this.1 h2))];simp
@[simp] theorem len_dpM (l:List Dp):(dpM l).length=l.length:=by simp[dpM,d3M]
def pdO (vars:List Vr) (hats:List Ht) (body st:List St) (dp:List Dp):List (Nat×Ob):=[(900001,.row 70 10 (X7 st)),(900002,.mp (dpM dp)),(1000001,.box [.c (.sl 5 (Xk vars)),.c (.sl 6 (Xn hats)),.c (.sl 10 (X7 body)),.own 900001,.own 900002])]
theorem pd_pin {vars:List Vr} {hats:List Ht} {body st:List St} {dp:List Dp}:∀n cs,lkp (pdO vars hats body st dp) n=some (.box cs)->1000000<=n:=by
 intro n cs h;simp only[pdO,lkp]at h
 repeat' split at h
 all_goals first|omega|cases h
def pdF (vars:List Vr) (hats:List Ht) (body st:List St) (dp:List Dp):List (Nat×Ob):=[(900002,.mp (dpM dp)),(1000001,.box [.c (.sl 5 (Xk vars)),.c (.sl 6 (Xn hats)),.c (.sl 10 (X7 body)),.c (.sl 10 (X7 st)),.own 900002])]
theorem XbI {vars:List Vr} {hats:List Ht} {body st:List St} {dp:List Dp}:∀n cs,lkp (pdF vars hats body st dp) n=some (.box cs)->1000000<=n:=by
 intro n cs h;simp only[pdF,lkp]at h
 repeat' split at h
 all_goals first|omega|cases h
abbrev pdC (vars:List Vr) (hats:List Ht) (body st:List St) (dp:List Dp):TV:=.one (.c (.ptr [.sl 5 (Xk vars),.sl 6 (Xn hats),.sl 10 (X7 body),.sl 10 (X7 st),.mp (dpM dp)]))
section
variable (vars:List Vr) (hats:List Ht) (body st:List St) (dp:List Dp)
theorem Xaf (a b k:Int):X0V prog 124 none (pdO vars hats body st dp) [.one (.at_ 1000001 0),li a,li b,li k] (fun _:Unit=>True) (fun _=>.tup []) (fun _=>pdO vars hats body st (Z5 dp ⟨a,b,k⟩)):=by
 refine Qn Tryz.func124 rfl (by kernel_rfl) (NL rfl) pd_pin (fun v h=>by cases h) ?_;simp only[Tryz.f124];have hins:=XcQ dp ⟨a,b,k⟩;simp only[Dp.d3]at hins;simp only[pdO];refine(XJ ?_);refine RunsN.cutE 8 [] (by simp;rfl) trivial (le_refl _) ?_;refine RunsN.upd3 (l:=dp.map Dp.d3) (x:=(a,b,k)) rfl rfl rfl (by kernel_rfl) rfl rfl rfl rfl ?_;refine RunsN.doneE [] rfl trivial ?_;exact⟨.inl rfl,(),trivial,⟨⟨16,none⟩,[],[(900001,.row 70 10 (X7 st)),(900002,.mp (dpM (Z5 dp ⟨a,b,k⟩))),(1000001,.box [.c (.sl 5 (Xk vars)),.c (.sl 6 (Xn hats)),.c (.sl 10 (X7 body)),.own 900001,.own 900002])]⟩,Xw (fun n=>n) [] rfl (by simp) (by simp[<-hins,ins,HS.put]) (by simp),⟨[],rfl,rfl⟩,fun n o h=>h⟩
theorem X6G (a b k:Int):X0V prog 124 none (pdF vars hats body st dp) [.one (.at_ 1000001 0),li a,li b,li k] (fun _:Unit=>True) (fun _=>.tup []) (fun _=>pdF vars hats body st (Z5 dp ⟨a,b,k⟩)):=by
 refine Qn Tryz.func124 rfl (by kernel_rfl) (NL rfl) XbI (fun v h=>by cases h) ?_;simp only[Tryz.f124];have hins:=XcQ dp ⟨a,b,k⟩;simp only[Dp.d3]at hins;simp only[pdF];refine(XJ ?_);refine RunsN.cutE 8 [] (by simp;rfl) trivial (le_refl _) ?_;refine RunsN.upd3 (l:=dp.map Dp.d3) (x:=(a,b,k)) rfl rfl rfl (by kernel_rfl) rfl rfl rfl rfl ?_;refine RunsN.doneE [] rfl trivial ?_;exact⟨.inl rfl,(),trivial,⟨⟨16,none⟩,[],[(900002,.mp (dpM (Z5 dp ⟨a,b,k⟩))),(1000001,.box [.c (.sl 5 (Xk vars)),.c (.sl 6 (Xn hats)),.c (.sl 10 (X7 body)),.c (.sl 10 (X7 st)),.own 900002])]⟩,Xw (fun n=>n) [] rfl (by simp) (by simp[<-hins,ins,HS.put]) (by simp),⟨[],rfl,rfl⟩,fun n o h=>h⟩
theorem X3e (v:Int) (hv:0<=v) (hv2:v<=1000000) (hs:st.length<=1000000) (d:Nat):Con prog 126 true [pdC vars hats body st dp,li v] (.v (li ((st.length:Int)+v))) none d:=by
 have hw:IntKind.i64.wrap ((st.length:Int)+v)=(st.length:Int)+v:=Xa;refine X5 Tryz.func126 ?_;simp only[Tryz.f126];refine X2 ?_;refine X2 ?_;exact Xc
theorem X8d (e v:Int) (he:0<=e) (hv:0<=v) (hv2:v<=1000000) (hs:st.length<=1000000) (d:Nat):Con prog 127 true [pdC vars hats body st dp,li e,li v] (.v (lb (decide (Qk st e.toNat=v)))) none d:=by
 have cs:=X3e vars hats body st dp v hv hv2 hs;obtain⟨e,rfl⟩:∃n:Nat,e=n:=⟨e.toNat,by omega⟩;rw[Int.toNat_natCast];by_cases hl:st.length<=e
 .have hvo:decide (Qk st e=v)=decide ((e:Int)=(st.length:Int)+v):=by
   unfold Qk;rw[Ny hl,Dl,N5,N5];simp only;omega
  rw[hvo];refine X5 Tryz.func127 ?_;simp only[Tryz.f127];refine X2 ?_;refine X0<|X0<|X1 ?_;refine(Xb rfl (fun h2=>?_) fun h2=>?_)
  ·simp only[BN]at h2;refine Xh [⟨true,.v (li ((st.length:Int)+v)),none⟩] ?_ ?_
   .first|exact cs _|exact trivial|simpa[*]using cs _
   exact Xc
  exfalso;simp at h2<;>omega
 obtain⟨s,he,_⟩:=Xt (show e<st.length by omega);have he':=Q4 he;have hvo:Qk st e=s.var:=by unfold Qk;rw[he]
 rw[hvo];obtain⟨so,sc,sv,sn,⟨tq,tn,tk⟩,sa,sb,sbs⟩:=s;simp only[St.enc,Tm.enc,List.cons_append,List.nil_append]at he';simp only[St.var];have hl2:e+1<=st.length:=by omega
 clear he hvo hl;refine X5 Tryz.func127 ?_;simp only[Tryz.f127];refine X2 ?_;refine X0<|X0<|X1 ?_;refine(Xb rfl (fun h2=>?_) fun h2=>?_)
 .exfalso;simp at h2<;>omega
 (try simp only[BN]at h2);refine X2 ?_;exact Xc
end
mutual
def meV:Tm->List Int
 | .mk o n ks=>if o=24 then [n] else X3F ks
def X3F:List Tm->List Int
 |[]=>[]
 |t::l=>meV t++X3F l
end
mutual
theorem meV_len:∀t:Tm,(meV t).length<=t.nodes
 | .mk o n ks=>by
   have:=X6C ks;simp only[meV,Tm.nodes];split<;>simp<;>omega
theorem X6C:∀l:List Tm,(X3F l).length<=Qm l
 |[]=>by simp[X3F]
 |t::l=>by have:=meV_len t;have:=X6C l;simp only[X3F,Na,Qm];omega
end
mutual
theorem X8P {vars:List Vr} {inp:Bool}:∀t:Tm,Qu vars inp t=true->meV t=tmV t
 | .mk o n ks,h=>by
   simp only[Qu,N3]at h;have ih:=X9a ks h.2;simp only[meV,tmV];by_cases h24:o=24
   .subst h24;have h1:=h.1;unfold Q3 at h1;simp only[N3,Nu,Nh]at h1
    have hk:ks=[]:=by
     have:=h1.1.2.2;have e:(Q5 24).2=0:=by decide
     rw[e]at this;exact Ns (by omega)
    subst hk;simp[X1S]
   simp only[N7 h24,List.nil_append];exact ih
theorem X9a {vars:List Vr} {inp:Bool}:∀l:List Tm,WD vars inp l=true->X3F l=X1S l
 |[],_=>by simp[X3F,X1S]
 | t::l,h=>by
   simp only[WD,N3]at h;simp only[X3F,X1S,X8P t h.1,X9a l h.2]
end
set_option maxHeartbeats 8000000 in
theorem X98 (t:Tm):t.nodes<=1000000->∀d,Con prog 125 false [aT t] (.v (lI (meV t))) none d:=by
 induction t using Tm.ind with
 |h o n ks ih=>
 intro hn d;simp only[Tm.nodes]at hn;have hlen:=WN ks;have hvl:=X6C ks;obtain⟨res,hres⟩:∃r,meV (.mk o n ks)=r:=⟨_,rfl⟩;rw[hres];by_cases h24:o=24
 .simp only[meV,N8 h24]at hres;subst hres;subst h24;refine X5 Tryz.func125 ?_;simp only[Tryz.f125];simp only[aT,Tm.enc,Nk,Nr];refine X2 ?_;refine X0<|X0<|X1 ?_;refine(Xb rfl (fun h2=>?_) fun h2=>?_)
  ·simp only[BN]at h2;refine X2 ?_;refine XC (Qy 11 rfl) ?_;exact Xc
  exact absurd h2 (by simp)
 simp only[meV,N7 h24]at hres;refine X5 Tryz.func125 ?_;simp only[Tryz.f125];simp only[aT,Tm.enc,Nk,Nr];refine X2 ?_;refine X0<|X0<|X1 ?_;refine(Xb rfl (fun h2=>?_) fun h2=>?_)
 .exfalso;simp at h2<;>exact h24 h2
 simp only[BN]at h2;refine X2 ?_;refine X0<|X0<|X1 ?_;refine X3<|(Xg [13,14] (fun(y:Nat×List Int)=>[(3,.v (.one (.own 1003))),(15,.v (li y.1))]) (fun y=>[(1003,.row 3 1 (X9 y.2))]) (fun y=>y.1<=ks.length/\y.2++X3F (ks.drop y.1)=res/\y.2.length+(X3F (ks.drop y.1)).length<=(X3F ks).length) (fun y=>ks.length - y.1) (0,[]) ⟨Nq _,by simpa using hres,by simp⟩ ?_ ?_)
 .exact X4 (fun n=>n) [1003]
 rintro⟨k,acc⟩ ⟨hk,hJ,hal⟩;simp only[upS,X8,Xz]
 simp only[X8,KN,Nat.reduceBEq,Nj,Nc,ins,Nat.reduceLT]
 simp only at hk hJ hal;clear hres;refine X2 ?_;refine X0<|(X6 rfl (fun h9=>Xe ?_) (fun h9=>?_))
 ·simp only[BN]at h9;have hlt:k<ks.length:=by first|omega|simpa using h9
  obtain⟨t,he,hd⟩:=Xt hlt;have hw1:=XD hlt (by omega);have hk1:k+1<=ks.length:=hlt;have hmem:t∈ks:=N4 he;have hnm:=X1i hmem;rw[hd]at hJ hal;simp only[X3F,Na]at hJ hal;have he':=Wu he;have ct:=ih t hmem (by omega);obtain⟨tq,tn,tk⟩:=t;obtain⟨A,hA⟩:∃x,meV (Tm.mk tq tn tk)=x:=⟨_,rfl⟩;rw[hA]at ct hJ hal;simp only[Tm.enc]at he';simp only[aT,Tm.enc,Nk,Nr]at ct;have room1:W5 (acc.length+A.length) 8:=Qc (by omega) (by decide);have hJ2:(acc++A)++X3F (ks.drop (k+1))=res:=by rw[<-hJ];simp
  clear hlt h9 ih hmem hd he hA hnm hJ;refine X0<|X3<|X0<|X1 ?_;refine(Xo [⟨false,.v (lI A),none⟩] ?_ ?_)
  .first|exact ct _|exact trivial|simpa[*]using ct _
  refine X1 ?_;exact⟨(k+1,acc++A),⟨hk1,hJ2,by simp only[Na];omega⟩,by simp only;omega,X4 (fun n=>if n=1003 then 22 else n) []⟩
 try simp only[BN]at h9
 have hkl:k=ks.length:=by
  have:¬k<ks.length:=by simpa using h9
  omega
 subst hkl;simp only[Nw,X3F,Dq]at hJ;subst hJ;clear h9;refine(Xi ?_);refine XC (Qy 1003 rfl) ?_;refine X2 ?_;exact Xc
def ms101:List (Nat×List Nat):=[(8191,[0,4,6]),(8190,[1,4,6]),(8175,[0,6]),(8127,[0,4]),(8188,[2,4,6]),(8174,[1,6]),(8126,[1,4]),(8111,[0]),(8184,[3,4,6]),(8172,[2,6]),(8124,[2,4]),(8110,[1]),(8176,[4,5,6]),(8168,[3,6]),(8120,[3,4]),(8108,[2]),(8160,[5,6]),(8144,[4,6]),(8112,[4,5]),(8104,[3]),(8128,[6]),(8096,[5]),(8080,[4]),(8064,[7]),(7936,[8,10]),(7680,[9,10]),(6912,[8,11]),(7168,[10]),(6656,[9,11]),(4864,[8,12]),(6144,[11]),(4608,[9,12]),(768,[8]),(4096,[12]),(512,[9])]
def X9X (regs:List (Nat×RV)) (o0 o6 o7 o9 oA oB:List (Nat×Ob)) (outs:List (Nat×Nat×RV)) (R:List Nat):HS:=
 {trS ⟨⟨55,none⟩,regs,[]⟩ outs R with objs:=if R.contains 6 then o0 else if R.contains 7 then o6 else if R.contains 9 then(if R.contains 12 then o7 else oA)else if R.contains 12 then o9 else oB}
theorem Xde (c:Int) (p:Nat) (l dp:List Dp):XV (ctE c p++l) dp=XV l (if 0<=c then Z5 dp ⟨c,p,1⟩ else dp):=by
 unfold ctE;split
 .rfl
 rfl
set_option maxHeartbeats 32000000 in
theorem Xdt (vars:List Vr) (hats:List Ht) (body:List St) (l:List St):∀(outer:Int) (st:List St) (dp:List Dp),st.length+szL l<=1000000->
  X0V prog 65 none (pdO vars hats body st dp) [.one (.at_ 1000001 0),lS l,li outer] (fun _:Unit=>True) (fun _=>.tup []) (fun _=>pdO vars hats body (st++flL l) (XV (ctL l outer st.length) dp)):=by
 revert l
 apply St.lists;intro l ih outer st0 dp0 hn0;have hlen:=X5I l;have hll:l.length<=1000000:=by omega
 obtain⟨R1,hR1⟩:∃x,st0++flL l=x:=⟨_,rfl⟩;obtain⟨R2,hR2⟩:∃x,XV (ctL l outer st0.length) dp0=x:=⟨_,rfl⟩;rw[hR1,hR2];refine Qn Tryz.func65 rfl (by kernel_rfl) (NL rfl) pd_pin (fun v h=>by cases h) ?_;simp only[Tryz.f65];refine X2 ?_;refine X3<|(Xg [0,2,9,10] (fun(y:Nat×List St×List Dp)=>[(11,.v (li y.1))]) (fun y=>pdO vars hats body y.2.1 y.2.2) (fun y=>y.1<=l.length/\y.2.1++flL (l.drop y.1)=R1/\XV (ctL (l.drop y.1) outer y.2.1.length) y.2.2=R2/\y.2.1.length+szL (l.drop y.1)<=1000000) (fun y=>l.length - y.1) (0,st0,dp0) ⟨Nq _,by simpa using hR1,by simpa using hR2,by simpa using hn0⟩ ?_ ?_)
 .exact Xw (fun n=>n) [] rfl (by simp[pdO, *,upS,X8,QS]) (by simp[pdO, *,upS]) (by simp[pdO,upS])
 rintro⟨k,st,dp⟩ ⟨hk,h1,h2,hsz⟩;simp only[upS,X8,Xz]
 simp only[X8,KN,Nat.reduceBEq,Nj,Nc,ins,Nat.reduceLT]
 simp only at hk h1 h2 hsz;clear hR1 hR2 hn0;simp only[pdO];refine X2 ?_;refine X0<|(X6 rfl (fun h3=>Xe ?_) (fun h3=>?_))
 ·simp only[BN]at h3;have hlt:k<l.length:=by first|omega|simpa using h3
  obtain⟨s,he,hd⟩:=Xt hlt;have hw1:=XD hlt (by omega);have hk1:k+1<=l.length:=hlt;have hmem:s∈l:=N4 he;rw[hd]at h1 h2 hsz;simp only[flL,XbV]at h1;simp only[szL]at hsz;have he':=Q4 he;have iha:=(ih s hmem).1;have ihb:=(ih s hmem).2;obtain⟨so,sc,sv,sn,⟨tq,tn,tk⟩,sa,sb,sbs⟩:=s;simp only[ctL]at h2;simp only[St.then_,St.else_]at iha ihb h1;simp only[szS]at hsz;have fa:=Q2 sa;have fb:=Q2 sb;obtain⟨d1,hd1⟩:∃x,(if 0<=outer then Z5 dp ⟨outer,st.length,1⟩ else dp)=x:=⟨_,rfl⟩;obtain⟨d2,hd2⟩:∃x,(if so=4 then Z5 d1 ⟨st.length,st.length,1⟩ else d1)=x:=⟨_,rfl⟩;rw[Xde,hd1,X13]at h2
  have h2':XV (ctL sa (st.length:Int) (st.length+1)++(ctL sb (st.length:Int) (st.length+1+szL sa)++ctL (l.drop (k+1)) outer (st.length+(1+szL sa+szL sb)))) d2=R2:=by
   rw[<-h2,<-hd2];split<;>rfl
  rw[X13,X13]at h2';have iha:=iha (st.length:Int) (st++[St.mk so sc sv sn (Tm.mk tq tn tk) sa sb sbs]) d2 (by simp;omega);have ihb:=ihb (st.length:Int) ((st++[St.mk so sc sv sn (Tm.mk tq tn tk) sa sb sbs])++flL sa) (XV (ctL sa (st.length:Int) (st.length+1)) d2) (by simp[fa];omega);simp only[Na,List.length_singleton,fa]at iha ihb;have hE1:(st++[St.mk so sc sv sn (Tm.mk tq tn tk) sa sb sbs])++flL sa++flL sb++flL (l.drop (k+1))=R1:=by rw[<-h1];simp
  have r1:W5 (st.length+1) 144:=Qc (by omega) (by decide)
  have hset:∀z:List CD,(X7 st++[z]).set st.length [iC so,iC sc,iC sv,iC sn,iC tq,iC tn,.sl 3 (Xx tk),.sl 10 (X7 sa),.sl 10 (X7 sb),.sl 1 (X9 sbs)]=X7 st++[[iC so,iC sc,iC sv,iC sn,iC tq,iC tn,.sl 3 (Xx tk),.sl 10 (X7 sa),.sl 10 (X7 sb),.sl 1 (X9 sbs)]]:=by
   intro z;rw[List.set_append,N7 (by simp)];simp
  have hsn:X7 (st++[St.mk so sc sv sn (Tm.mk tq tn tk) sa sb sbs])=X7 st++[[iC so,iC sc,iC sv,iC sn,iC tq,iC tn,.sl 3 (Xx tk),.sl 10 (X7 sa),.sl 10 (X7 sb),.sl 1 (X9 sbs)]]:=by
   rw[QB];rfl
  simp only[St.enc,Tm.enc,List.cons_append,List.nil_append]at he';have ca:=Xaf vars hats body (st++[St.mk so sc sv sn (Tm.mk tq tn tk) sa sb sbs]) dp outer st.length 1;have cl:=Xaf vars hats body (st++[St.mk so sc sv sn (Tm.mk tq tn tk) sa sb sbs]) d1 st.length st.length 1;simp only[pdO]at ca cl iha ihb;obtain⟨S2,hS2⟩:∃x,(st++[St.mk so sc sv sn (Tm.mk tq tn tk) sa sb sbs])=x:=⟨_,rfl⟩;rw[hS2]at iha ihb hE1 hsn ca cl;clear hlt h3 ih hmem he hd h1 h2;refine X0<|X3<|X0<|X1 ?_;refine X2 ?_;refine XC (s':=⟨⟨55,none⟩,[(0,.v (.one (.at_ 1000001 0))),(2,.v (li outer)),(7,.v (.one (.at_ 7 0))),(8,.v (li st.length)),(9,.v (lS l)),(10,.v (li l.length)),(11,.v (li k))],[(7,.box [.c (iC so),.c (iC sc),.c (iC sv),.c (iC sn),.c (iC tq),.c (iC tn),.c (.sl 3 (Xx tk)),.c (.sl 10 (X7 sa)),.c (.sl 10 (X7 sb)),.c (.sl 1 (X9 sbs))]),(900001,.row 70 10 (X7 st)),(900002,.mp (dpM dp)),(1000001,.box [.c (.sl 5 (Xk vars)),.c (.sl 6 (Xn hats)),.c (.sl 10 (X7 body)),.own 900001,.own 900002])]⟩) (Xw (fun n=>n) [] rfl (by simp[*]) (by simp[*]) (by simp)) ?_;refine X0<|(Wj (X9X [(0,.v (.one (.at_ 1000001 0))),(2,.v (li outer)),(7,.v (.one (.at_ 7 0))),(8,.v (li st.length)),(9,.v (lS l)),(10,.v (li l.length)),(11,.v (li k))] [(7,.box [.c (iC so),.c (iC sc),.c (iC sv),.c (iC sn),.c (iC tq),.c (iC tn),.c (.sl 3 (Xx tk)),.c (.sl 10 (X7 sa)),.c (.sl 10 (X7 sb)),.c (.sl 1 (X9 sbs))]),(900001,.row 70 10 (X7 st)),(900002,.mp (dpM dp)),(1000001,.box [.c (.sl 5 (Xk vars)),.c (.sl 6 (Xn hats)),.c (.sl 10 (X7 body)),.own 900001,.own 900002])] [(7,.box [.c (iC so),.c (iC sc),.c (iC sv),.c (iC sn),.c (iC tq),.c (iC tn),.c (.sl 3 (Xx tk)),.c (.sl 10 (X7 sa)),.c (.sl 10 (X7 sb)),.c (.sl 1 (X9 sbs))]),(26,.row 70 10 ([[iC 0,iC 0,iC 0,iC 0,iC 0,iC 0,.lit XX,.lit XX,.lit XX,.lit XX]])),(900001,.row 70 10 (X7 st)),(900002,.mp (dpM dp)),(1000001,.box [.c (.sl 5 (Xk vars)),.c (.sl 6 (Xn hats)),.c (.sl 10 (X7 body)),.own 900001,.own 900002])] [(7,.box [.c (iC so),.c (iC sc),.c (iC sv),.c (iC sn),.c (iC tq),.c (iC tn),.c (.sl 3 (Xx tk)),.c (.sl 10 (X7 sa)),.c (.sl 10 (X7 sb)),.c (.sl 1 (X9 sbs))]),(26,.row 70 10 ([[iC 0,iC 0,iC 0,iC 0,iC 0,iC 0,.lit XX,.lit XX,.lit XX,.lit XX]])),(27,.row 70 10 (X7 st++[[iC 0,iC 0,iC 0,iC 0,iC 0,iC 0,.lit XX,.lit XX,.lit XX,.lit XX]])),(900002,.mp (dpM dp)),(1000001,.box [.c (.sl 5 (Xk vars)),.c (.sl 6 (Xn hats)),.c (.sl 10 (X7 body)),.own 900001,.own 900002])] [(7,.box [.c (iC so),.c (iC sc),.c (iC sv),.c (iC sn),.c (iC tq),.c (iC tn),.c (.sl 3 (Xx tk)),.c (.sl 10 (X7 sa)),.c (.sl 10 (X7 sb)),.c (.sl 1 (X9 sbs))]),(26,.row 70 10 ([[iC 0,iC 0,iC 0,iC 0,iC 0,iC 0,.lit XX,.lit XX,.lit XX,.lit XX]])),(27,.row 70 10 (X7 st++[[iC so,iC sc,iC sv,iC sn,iC tq,iC tn,.sl 3 (Xx tk),.sl 10 (X7 sa),.sl 10 (X7 sb),.sl 1 (X9 sbs)]])),(900002,.mp (dpM dp)),(1000001,.box [.c (.sl 5 (Xk vars)),.c (.sl 6 (Xn hats)),.c (.sl 10 (X7 body)),.own 900001,.own 900002])] [(7,.box [.c (iC so),.c (iC sc),.c (iC sv),.c (iC sn),.c (iC tq),.c (iC tn),.c (.sl 3 (Xx tk)),.c (.sl 10 (X7 sa)),.c (.sl 10 (X7 sb)),.c (.sl 1 (X9 sbs))]),(26,.row 70 10 ([[iC 0,iC 0,iC 0,iC 0,iC 0,iC 0,.lit XX,.lit XX,.lit XX,.lit XX]])),(27,.row 70 10 (X7 st++[[iC 0,iC 0,iC 0,iC 0,iC 0,iC 0,.lit XX,.lit XX,.lit XX,.lit XX]])),(900002,.mp (dpM dp)),(1000001,.box [.c (.sl 5 (Xk vars)),.c (.sl 6 (Xn hats)),.c (.sl 10 (X7 body)),.own 27,.own 900002])] [(7,.box [.c (iC so),.c (iC sc),.c (iC sv),.c (iC sn),.c (iC tq),.c (iC tn),.c (.sl 3 (Xx tk)),.c (.sl 10 (X7 sa)),.c (.sl 10 (X7 sb)),.c (.sl 1 (X9 sbs))]),(26,.row 70 10 ([[iC 0,iC 0,iC 0,iC 0,iC 0,iC 0,.lit XX,.lit XX,.lit XX,.lit XX]])),(27,.row 70 10 (X7 st++[[iC so,iC sc,iC sv,iC sn,iC tq,iC tn,.sl 3 (Xx tk),.sl 10 (X7 sa),.sl 10 (X7 sb),.sl 1 (X9 sbs)]])),(900002,.mp (dpM dp)),(1000001,.box [.c (.sl 5 (Xk vars)),.c (.sl 6 (Xn hats)),.c (.sl 10 (X7 body)),.own 27,.own 900002])] [(0,20,.v (.one (.at_ 1000001 0))),(1,21,.v (.one (.at_ 1000001 0))),(2,22,.v (.one (.at_ 1000001 3))),(3,23,.v (.one (.own 900001))),(4,24,.v (.agg [.c (iC so),.c (iC sc),.c (iC sv),.c (iC sn),.c (iC tq),.c (iC tn),.c (.sl 3 (Xx tk)),.c (.sl 10 (X7 sa)),.c (.sl 10 (X7 sb)),.c (.sl 1 (X9 sbs))])),(5,25,.v (li st.length)),(6,26,.v (.one (.own 26))),(7,27,.v (.one (.own 27))),(8,28,.v (.one (.el 27 10 st.length 0))),(10,29,.v (.one (.at_ 1000001 0))),(11,30,.v (.one (.at_ 1000001 3)))]) 13 8191 ms101 rfl (by kernel_rfl) (by kernel_rfl) (by kernel_rfl) (by kernel_rfl) (by simp[X9X,trS]) ?_ ?_)
  .simp only[ms101,X1E]
   repeat' apply And.intro
   all_goals(refine XP.evE rfl ?_;simp[X9X,trS,ins,WT,XL,QH,Q1,cellsOf,W4,Z2,X0n,Z3,Wr,Zw,lkp,del,r1,hset];done)
  refine XC (s':=⟨⟨55,none⟩,[(0,.v (.one (.at_ 1000001 0))),(2,.v (li outer)),(7,.v (.one (.at_ 7 0))),(8,.v (li st.length)),(9,.v (lS l)),(10,.v (li l.length)),(11,.v (li k))],[(7,.box [.c (iC so),.c (iC sc),.c (iC sv),.c (iC sn),.c (iC tq),.c (iC tn),.c (.sl 3 (Xx tk)),.c (.sl 10 (X7 sa)),.c (.sl 10 (X7 sb)),.c (.sl 1 (X9 sbs))]),(900001,.row 70 10 (X7 S2)),(900002,.mp (dpM (dp))),(1000001,.box [.c (.sl 5 (Xk vars)),.c (.sl 6 (Xn hats)),.c (.sl 10 (X7 body)),.own 900001,.own 900002])]⟩) (Xw (fun n=>if n=900001 then 27 else n) [] rfl (by simp[X9X,trS,ins]) (by simp[X9X,trS,ins,hsn]) (by simp)) ?_;clear hsn hset;refine(XT [0,2,7,8,9,10,11] (fun(z:Unit)=>[]) (fun(z:Unit)=>[(7,.box [.c (iC so),.c (iC sc),.c (iC sv),.c (iC sn),.c (iC tq),.c (iC tn),.c (.sl 3 (Xx tk)),.c (.sl 10 (X7 sa)),.c (.sl 10 (X7 sb)),.c (.sl 1 (X9 sbs))]),(900001,.row 70 10 (X7 S2)),(900002,.mp (dpM (d1))),(1000001,.box [.c (.sl 5 (Xk vars)),.c (.sl 6 (Xn hats)),.c (.sl 10 (X7 body)),.own 900001,.own 900002])]) (fun(z:Unit)=>True) ?_ ?_)
  ·
   refine X2 ?_;refine(Xb rfl (fun h9=>?_) fun h9=>?_)
   ·(try simp only[BN]at h9);have ho:0<=outer:=by simpa using h9
    rw[N8 ho]at hd1;refine(XJ ?_);refine RunsN.cutE 3 [] (by simp;rfl) trivial (le_refl _) ?_;refine RunsN.callA (fun n=>n) (fun n=>if n=900001 then 900011 else if n=900002 then 900012 else n) ca fun _ _=>?_;refine RunsN.doneE [] rfl trivial ?_;rw[hd1];exact⟨(),trivial,Xw (fun n=>if n=900001 then 900011 else if n=900002 then 900012 else n) [] rfl (by simp[upS,X8,Qa,QE,del,ins,CV.ren,Ob.ren]) (by simp[upS,Qa,QE,del,ins,CV.ren,Ob.ren]) (by simp[upS])⟩
   (try simp only[BN]at h9);have ho:¬0<=outer:=by simpa using h9
   rw[N7 ho]at hd1;subst hd1;exact⟨(),trivial,X4 (fun n=>n) []⟩
  rintro⟨⟩ hz;simp only[upS,X8,Xz]
  try simp only[X8,KN,Nat.reduceBEq,Nj,Nc,ins,Nat.reduceLT]
  refine(XT [0,2,7,8,9,10,11] (fun(z:Unit)=>[]) (fun(z:Unit)=>[(7,.box [.c (iC so),.c (iC sc),.c (iC sv),.c (iC sn),.c (iC tq),.c (iC tn),.c (.sl 3 (Xx tk)),.c (.sl 10 (X7 sa)),.c (.sl 10 (X7 sb)),.c (.sl 1 (X9 sbs))]),(900001,.row 70 10 (X7 S2)),(900002,.mp (dpM (d2))),(1000001,.box [.c (.sl 5 (Xk vars)),.c (.sl 6 (Xn hats)),.c (.sl 10 (X7 body)),.own 900001,.own 900002])]) (fun(z:Unit)=>True) ?_ ?_)
  ·
   refine X2 ?_;refine(Xb rfl (fun h15=>?_) fun h15=>?_)
   ·(try simp only[BN]at h15);have ho4:so=4:=by simpa using h15
    rw[N8 ho4]at hd2;refine(XJ ?_);refine RunsN.cutE 3 [] (by simp;rfl) trivial (le_refl _) ?_;refine RunsN.callA (fun n=>n) (fun n=>if n=900001 then 900011 else if n=900002 then 900012 else n) cl fun _ _=>?_;refine RunsN.doneE [] rfl trivial ?_;rw[hd2];exact⟨(),trivial,Xw (fun n=>if n=900001 then 900011 else if n=900002 then 900012 else n) [] rfl (by simp[upS,X8,Qa,QE,del,ins,CV.ren,Ob.ren]) (by simp[upS,Qa,QE,del,ins,CV.ren,Ob.ren]) (by simp[upS])⟩
   (try simp only[BN]at h15);have ho4:¬so=4:=by simpa using h15
   rw[N7 ho4]at hd2;subst hd2;exact⟨(),trivial,X4 (fun n=>n) []⟩
  rintro⟨⟩ hz;simp only[upS,X8,Xz]
  try simp only[X8,KN,Nat.reduceBEq,Nj,Nc,ins,Nat.reduceLT]
  obtain⟨S3,hS3⟩:∃x,S2++flL sa=x:=⟨_,rfl⟩;obtain⟨D3,hD3⟩:∃x,XV (ctL sa (st.length:Int) (st.length+1)) d2=x:=⟨_,rfl⟩;rw[hS3,hD3]at iha ihb;obtain⟨S4,hS4⟩:∃x,S3++flL sb=x:=⟨_,rfl⟩;obtain⟨D4,hD4⟩:∃x,XV (ctL sb (st.length:Int) (st.length+1+szL sa)) D3=x:=⟨_,rfl⟩;rw[hS4,hD4]at ihb;have hl4:S4.length=st.length+(1+szL sa+szL sb):=by rw[<-hS4,<-hS3,<-hS2];simp[fa,fb];omega
  rw[hS3,hS4]at hE1;rw[hD3,hD4,<-hl4]at h2';clear ca cl hd1 hd2 hS2 hS3 hS4 hD3 hD4;refine X0<|(XJ ?_);refine RunsN.cutE 4 [] (by simp;rfl) trivial (le_refl _) ?_;refine RunsN.callA (fun n=>n) (fun n=>if n=900001 then 900011 else if n=900002 then 900012 else n) iha fun _ _=>?_;refine RunsN.doneE [] rfl trivial ?_;refine XC (s':=⟨⟨55,none⟩,[(0,.v (.one (.at_ 1000001 0))),(2,.v (li outer)),(7,.v (.one (.at_ 7 0))),(8,.v (li st.length)),(9,.v (lS l)),(10,.v (li l.length)),(11,.v (li k))],[(7,.box [.c (iC so),.c (iC sc),.c (iC sv),.c (iC sn),.c (iC tq),.c (iC tn),.c (.sl 3 (Xx tk)),.c (.sl 10 (X7 sa)),.c (.sl 10 (X7 sb)),.c (.sl 1 (X9 sbs))]),(900001,.row 70 10 (X7 S3)),(900002,.mp (dpM (D3))),(1000001,.box [.c (.sl 5 (Xk vars)),.c (.sl 6 (Xn hats)),.c (.sl 10 (X7 body)),.own 900001,.own 900002])]⟩) (Xw (fun n=>if n=900001 then 900011 else if n=900002 then 900012 else n) [] rfl (by simp[Qa,QE,del,ins,CV.ren,Ob.ren]) (by simp[Qa,QE,del,ins,CV.ren,Ob.ren]) (by simp)) ?_;refine(XJ ?_);refine RunsN.cutE 4 [] (by simp;rfl) trivial (le_refl _) ?_;refine RunsN.callA (fun n=>n) (fun n=>if n=900001 then 900011 else if n=900002 then 900012 else n) ihb fun _ _=>?_;refine RunsN.doneE [] rfl trivial ?_;refine XC (s':=⟨⟨55,none⟩,[(0,.v (.one (.at_ 1000001 0))),(2,.v (li outer)),(7,.v (.one (.at_ 7 0))),(8,.v (li st.length)),(9,.v (lS l)),(10,.v (li l.length)),(11,.v (li k))],[(7,.box [.c (iC so),.c (iC sc),.c (iC sv),.c (iC sn),.c (iC tq),.c (iC tn),.c (.sl 3 (Xx tk)),.c (.sl 10 (X7 sa)),.c (.sl 10 (X7 sb)),.c (.sl 1 (X9 sbs))]),(900001,.row 70 10 (X7 S4)),(900002,.mp (dpM (D4))),(1000001,.box [.c (.sl 5 (Xk vars)),.c (.sl 6 (Xn hats)),.c (.sl 10 (X7 body)),.own 900001,.own 900002])]⟩) (Xw (fun n=>if n=900001 then 900011 else if n=900002 then 900012 else n) [] rfl (by simp[Qa,QE,del,ins,CV.ren,Ob.ren]) (by simp[Qa,QE,del,ins,CV.ren,Ob.ren]) (by simp)) ?_;refine X1 ?_;exact⟨(k+1,S4,D4),⟨hk1,hE1,h2',by simp only[hl4];omega⟩,by simp only;omega,X4 (fun n=>n) []⟩
 try simp only[BN]at h3
 have hkl:k=l.length:=by
  have:¬k<l.length:=by first|omega|simpa using h3
  omega
 subst hkl;simp only[Nw,flL,ctL,XV,Dq]at h1 h2;subst h1;subst h2;refine(Xi ?_);exact⟨.inl rfl,(),trivial,_,le_refl _,⟨[],rfl,rfl⟩,fun n o h=>h⟩
end Go.Proofs.YtdajceakaakdoaaGreat
