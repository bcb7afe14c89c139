/- Contracts of functions and plain facts about what they compute. Conditions: as each theorem states. -/
import Derived.Test.YtdajceakaakdoaaGreatB13
import Derived.Test.YtdajceakaakdoaaGreatB11
import Derived.Test.YtdajceakaakdoaaGreatB14
import Derived.Test.YtdajceakaakdoaaGreatB17
import Derived.Test.YtdajceakaakdoaaGreatB12
import Derived.Test.YtdajceakaakdoaaGreatB10
import Derived.Test.YtdajceakaakdoaaGreatB15
import Derived.Test.YtdajceakaakdoaaGreatB16
set_option linter.unusedSimpArgs false
set_option linter.unusedVariables false
set_option linter.unnecessarySimpa false
set_option maxRecDepth 100000
set_option maxHeartbeats 2000000
namespace Go.Proofs.YtdajceakaakdoaaGreat
open Go Go.Hl
open Tryz(prog)
theorem X6G (rd:List (List Nat)) (m l:Nat):(Q8 rd).set m [.sl 1 [[iC (l:Int)]]]=Q8 (rd.set m [l]):=by simp[Q8,List.map_set,QJ]
theorem gL_mem:∀{l:List St} {s:St},gL l=true->s∈l->gS s=true
 |[],_,_,h=>by cases h
 | x::l,s,hg,h=>by
   simp only[gL,N4]at hg;rcases Nh.1 h with rfl|h
   .exact hg.1
   exact gL_mem hg.2 h
set_option maxHeartbeats 64000000 in
theorem Xa2 (vars:List Vr) (hats:List Ht) (body:List St) (n N:Nat) (hN:N<=500000) (hn6:n<=500000) (hvl:vars.length<=500000) (hhl:hats.length<=1000000) (hht:∀h∈hats,h.term.nodes<=1000000/\∀v∈tmV h.term,0<=v/\v<=1000000) (l:List St):Xh l<=1000000->wfL vars hats.length l=true->gL l=true->StepsC vars hats body n N l:=by
 revert l
 apply St.lists;intro l ih hn hwf hg p q T0 c D0 hp hc hD0 hT0;have hlen:=Qm l;obtain⟨res,hres⟩:∃x,ouL l p D0=x:=⟨_,rfl⟩;obtain⟨R1,hR1⟩:∃x,QP q T0 (edL n hats l c p D0)=x:=⟨_,rfl⟩;obtain⟨fin,hfin⟩:∃x,p+szL l=x:=⟨_,rfl⟩;rw[hres,hR1,hfin];have hfN:fin<=N:=by omega
 refine XV Tryz.func55 rfl (by kernel_rfl) (NH rfl) X4a (fun v h=>by cases h) ?_;simp only[Tryz.f55];refine X1 ?_;refine X0<|X0<|X2 ?_;refine X3<|(Xd [0,2,13,14] (fun(y:Nat×Nat×List Dp×Dfs)=>[(3,.v (lDD y.2.2.2)),(15,.v (li y.1))]) (fun y=>mkO vars hats body n y.2.1 y.2.2.1 q) (fun y=>y.1<=l.length/\y.2.1+szL (l.drop y.1)=fin/\okM vars.length N y.2.2.2/\ouL (l.drop y.1) y.2.1 y.2.2.2=res/\QP q y.2.2.1 (edL n hats (l.drop y.1) c y.2.1 y.2.2.2)=R1/\y.2.2.1.length+bq q (edL n hats (l.drop y.1) c y.2.1 y.2.2.2)<=2000000) (fun y=>l.length - y.1) (0,p,T0,D0) ⟨Nq _,by simpa using hfin,hD0,by simpa using hres,by simpa using hR1,by simpa using hT0⟩ ?_ ?_)
 .exact Xl (fun n=>n) [] rfl (by simp[mkO, *,upS,X5,QQ]) (by simp[mkO, *,upS]) (by simp[mkO,upS])
 rintro⟨k,o,T,D⟩ ⟨hk,hfo,hD,hou,hJ,hTl⟩;simp only[upS,X5,Xy]
 try simp only[X5,KN,Nat.reduceBEq,Nf,Nc,ins,Nat.reduceLT]
 simp only at hk hfo hD hou hJ hTl;clear hres hR1 hT0 hD0;simp only[mkO];refine X1 ?_;refine X0<|(X8 rfl (fun h4=>Xb ?_) (fun h4=>?_))
 ·(try simp only[BN]at h4);have hlt:k<l.length:=by first|omega|simpa using h4
  obtain⟨s,he,hd⟩:=Xu hlt;have hw1:=XE hlt (by omega);have hk1:k+1<=l.length:=hlt;have hmem:s∈l:=N3 he;have hnm:=Qz hmem;have hwm:=wfL_mem hwf hmem;have iha:=(ih s hmem).1 (by omega);have ihb:=(ih s hmem).2 (by omega);have he':=Q2 he;rw[hd]at hfo hou hJ hTl;obtain⟨sd,sc,sv,sn,t,sa,sb,sbs⟩:=s;simp only[St.then_,St.else_]at iha ihb;simp only[wfS,N4,Nl,N6]at hwm;obtain⟨wt,wl,wn,w4,wb,wa,wbb⟩:=hwm;have hgs:=gL_mem hg hmem;simp only[gS,N4,Nl,N6,Dj]at hgs;have iha:=iha wa hgs.2.1;have ihb:=ihb wbb hgs.2.2
  have hzz:sd≠3->sd≠4->szL sa=0/\szL sb=0:=by
   intro h3 h4;rcases hgs.1 with(h|h)|h
   .exact absurd h h3
   .exact absurd h.1 h4
   rw[h.1,h.2];exact⟨rfl,rfl⟩
  have hz4:sd=4->szL sb=0:=by
   intro h4;rcases hgs.1 with(h|h)|h
   .omega
   .rw[h.2];rfl
   rw[h.2];rfl
  have hva:=wf_va sa wa;simp only[szL,szS]at hfo;rw[ouL,X66]at hou;simp only[edL,edS,szS,X66]at hJ hTl;simp only[szS]at hou;simp only[St.then_,St.else_,St.term]at hnm;have htv:=X83 t wt;have hntm:t.nodes<=1000000:=by omega
  rw[Df]at hJ hTl;obtain⟨e1,hJ1⟩:=X1V hTl;rw[QW]at hJ;obtain⟨T1,hT1⟩:∃x,QP q T (ctE c o)=x:=⟨_,rfl⟩;rw[hT1]at hJ hJ1;obtain⟨o1,ho1⟩:∃z,o+1=z:=⟨_,rfl⟩;have hq1:IntKind.i64.wrap ((o:Int)+1)=(o1:Int):=by rw[X9 (by omega) (by omega)];omega
  obtain⟨o2,ho2⟩:∃z,o+(1+szL sa+szL sb)=z:=⟨_,rfl⟩;rw[ho2]at hJ hJ1 hou;have hfo2:o2+szL (l.drop (k+1))=fin:=by omega
  have cads:=fun(x:Dp) (hx:T.length<=2000000)=>X1z vars hats body n o1 T q x.f x.t x.k hx;have hDl:=hD.ok.len;have crd:=fun(D':Dfs) (hD':okM vars.length N D')=>X5u vars hats body n o1 q o D' (fun r hr=>by have:=hD'.len r hr;omega) (by rw[hD'.ok.len];omega) t hntm (fun v hv=>by rw[hD'.ok.len];exact htv v hv) T1;have clp:=XcC vars hats body n N hN hvl sd sc sv sn t sa sb sbs iha hva hntm htv o q T1 D;have cpy:=X9N D (fun r hr=>by have:=hD.len r hr;omega) (by rw[hDl];omega);rw[ho1]at clp;obtain⟨po,tn,tk⟩:=t;simp only[St.enc,Tm.enc,List.cons_append,List.nil_append]at he';simp only[aT,Tm.enc,St.enc,Ni,Nr,List.cons_append,List.nil_append,mkO]at crd clp cads;clear hlt h4 ih hmem hnm hd he hfo hTl hwf hp hgs hg;refine X0<|X3<|X0<|X2 ?_;refine X1 ?_;refine X1 ?_;refine(XM [0,2,3,10,11,13,14,15] (fun(z:Unit)=>[]) (fun(z:Unit)=>[(10,.box [.c (iC sd),.c (iC sc),.c (iC sv),.c (iC sn),.c (iC po),.c (iC tn),.c (.sl 3 (XA tk)),.c (.sl 10 (X7 sa)),.c (.sl 10 (X7 sb)),.c (.sl 1 (Xi sbs))]),(900002,.row 51 3 (XG T1)),(1000001,.box [.c (.sl 5 (Xm vars)),.c (.sl 6 (Xn hats)),.c (.sl 10 (X7 body)),.c (iC n),.c (iC o1),.own 900002,.c (bC q)])]) (fun(z:Unit)=>True) ?_ ?_)
  ·
   refine X1 ?_;refine(Xc rfl (fun h10=>?_) fun h10=>?_)
   ·(try simp only[BN]at h10);have hc0:0<=c:=by simpa using h10
    have hce:ctE c o=[⟨c,o,1⟩]:=by unfold ctE;rw[Na hc0]
    have ca:=cads ⟨c,o,1⟩ (by omega);have hT1':adM q T ⟨c,o,1⟩=T1:=by rw[<-hT1,hce,X0K,Wy]
    rw[hT1']at ca;simp only at ca;refine(Xw ?_);refine RunsN.cutE 3 [] (by simp;rfl) trivial (le_refl _) ?_;refine RunsN.callA (fun n=>n) (fun n=>if n=900002 then 900012 else n) ca fun _ _=>?_;refine RunsN.doneE [] rfl trivial ?_;exact⟨(),trivial,Xl (fun n=>if n=900002 then 900012 else n) [] rfl (by simp[upS,X5,XJ,XU,del,ins,CV.ren,Ob.ren]) (by simp[upS,XJ,XU,del,ins,CV.ren,Ob.ren]) (by simp[upS])⟩
   (try simp only[BN]at h10);have hc0:¬0<=c:=by simpa using h10
   have hce:ctE c o=[]:=by unfold ctE;rw[N7 hc0]
   rw[hce,Wy]at hT1;subst hT1;exact⟨(),trivial,X4 (fun n=>n) []⟩
  rintro⟨⟩ hz;simp only[upS,X5,Xy]
  try simp only[X5,KN,Nat.reduceBEq,Nf,Nc,ins,Nat.reduceLT]
  clear cads hT1 e1;refine X1 ?_;refine X3<|X0<|X2 ?_;refine(X8 rfl (fun h16=>?_) (fun h16=>?_))
  ·(try simp only[BN]at h16);have hd0:sd=0:=by simpa using h16
   have ho12:o2=o1:=by have:=hzz (by omega) (by omega);omega
   subst hd0;rw[N7 (by decide),N7 (by decide),Na (by decide)]at hou;rw[Na (by decide)]at hJ hJ1;simp only[N7 (show ¬(0:Int)=3 by decide),N7 (show ¬(0:Int)=4 by decide),Na (show(0:Int)=0\/(0:Int)=5 by decide)]at hJ hJ1;obtain⟨hv0,w,hw⟩:=X2a (wl.resolve_left (by decide));obtain⟨v,rfl⟩:∃v:Nat,sv=v:=⟨sv.toNat,by omega⟩;rw[Int.toNat_natCast]at hw hou hJ hJ1;have hvlt:v+1<=D.length:=by rw[hDl];exact(N5.1 hw).1
   have hvlt2:v<vars.length:=(N5.1 hw).1;obtain⟨e2,hJ2⟩:=X1V hJ1;rw[QW]at hJ;have cr:=crd D hD e2;obtain⟨T2,hT2⟩:∃x,QP q T1 (rdE o D (.mk po tn tk))=x:=⟨_,rfl⟩;rw[hT2]at cr hJ hJ2;have hD2:=hD.set v (show o<N by omega);have hput:=X6G D v o;have htl:∀h:v<(Q8 D).length,((Q8 D)[v]'h).tail=[]:=by intro h;simp[Q8]
   obtain⟨D2,hDe⟩:∃x,D.set v [o]=x:=⟨_,rfl⟩;rw[hDe]at hou hJ hJ2 hD2 hput;have hroom:W4 1 8:=XX (by decide) (by decide);clear crd clp iha ihb hT2 hDe;refine X0<|(Xw ?_);refine RunsN.cutE 5 [] (by simp;rfl) trivial (le_refl _) ?_;refine RunsN.callA (fun n=>n) (fun n=>if n=900002 then 900012 else n) cr fun _ _=>?_;refine RunsN.doneE [] rfl trivial ?_;refine XB (s':=⟨⟨116,none⟩,[(0,.v (.one (.at_ 1000001 0))),(2,.v (li c)),(3,.v (lDD D)),(10,.v (.one (.at_ 10 0))),(11,.v (li o)),(13,.v (lS l)),(14,.v (li l.length)),(15,.v (li k))],[(10,.box [.c (iC 0),.c (iC sc),.c (iC (v:Int)),.c (iC sn),.c (iC po),.c (iC tn),.c (.sl 3 (XA tk)),.c (.sl 10 (X7 sa)),.c (.sl 10 (X7 sb)),.c (.sl 1 (Xi sbs))]),(900002,.row 51 3 (XG T2)),(1000001,.box [.c (.sl 5 (Xm vars)),.c (.sl 6 (Xn hats)),.c (.sl 10 (X7 body)),.c (iC n),.c (iC o1),.own 900002,.c (bC q)])]⟩) (Xl (fun n=>if n=900002 then 900012 else n) [] rfl (by simp[XJ,XU,del,ins,CV.ren,Ob.ren]) (by simp[XJ,XU,del,ins,CV.ren,Ob.ren]) (by simp)) ?_;refine Xk [⟨false,.v (.one (.own 47)),some (.row 29 1 (Q8 D))⟩] ?_ ?_
   .first|exact cpy 47 (by decide)|exact trivial|simpa[*]using cpy 47 (by decide)
   refine(X2g 5 [] [] (by simp[*];rfl) trivial (Qs 52 rfl) (by simp[*];rfl) trivial ?_);refine X2 ?_;exact⟨(k+1,o2,T2,D2),⟨hk1,hfo2,hD2,hou,hJ,hJ2⟩,by simp only;omega,le_trans (Qs 47 rfl) (Xl (fun n=>n) [] rfl (by simp[HS.frz,W9,RV.frz,TV.frz,CV.frz,Ob.frz,upS,X5, *]) (by simp[HS.frz,W9,RV.frz,TV.frz,CV.frz,Ob.frz,upS,X5, *]) (by simp[upS]))⟩
  (try simp only[BN]at h16);have hd0:¬sd=0:=by simpa using h16
  refine X1 ?_;refine(X8 rfl (fun h23=>?_) (fun h23=>?_))
  ·(try simp only[BN]at h23);have hd5:sd=5:=by simpa using h23
   have ho12:o2=o1:=by have:=hzz (by omega) (by omega);omega
   subst hd5;rw[N7 (by decide),N7 (by decide),Na (by decide)]at hou;rw[N7 (by decide),Na (by decide)]at hJ hJ1;simp only[N7 (show ¬(5:Int)=3 by decide),N7 (show ¬(5:Int)=4 by decide),Na (show(5:Int)=0\/(5:Int)=5 by decide)]at hJ hJ1;obtain⟨hv0,w,hw⟩:=X2a (wl.resolve_left (by decide));obtain⟨v,rfl⟩:∃v:Nat,sv=v:=⟨sv.toNat,by omega⟩;rw[Int.toNat_natCast]at hw hou hJ hJ1;have hvlt:v+1<=D.length:=by rw[hDl];exact(N5.1 hw).1
   have hvlt2:v<vars.length:=(N5.1 hw).1;obtain⟨n0,n1⟩:=wn.resolve_left (by decide);obtain⟨g,rfl⟩:∃g:Nat,sn=g:=⟨sn.toNat,by omega⟩;obtain⟨h,hh,_⟩:=Xu (show g<hats.length by omega);have hg1:g+1<=hats.length:=by omega
   rw[Int.toNat_natCast,hh]at hJ hJ1;simp only at hJ hJ1;obtain⟨hh1,hh2⟩:=hht h (N3 hh);have hh':=gtHt hh;obtain⟨e2,hJ2⟩:=X1V hJ1;rw[QW]at hJ;have cr:=Z7.toS (X6u vars hats body n (by omega) o1 q o h.term hh1 hh2 T1 e2);obtain⟨T2,hT2⟩:∃x,QP q T1 (rlE n o h.term)=x:=⟨_,rfl⟩;rw[hT2]at cr hJ hJ2;have hD2:=hD.set v (show o<N by omega);have hput:=X6G D v o;have htl:∀h:v<(Q8 D).length,((Q8 D)[v]'h).tail=[]:=by intro h;simp[Q8]
   obtain⟨D2,hDe⟩:∃x,D.set v [o]=x:=⟨_,rfl⟩;rw[hDe]at hou hJ hJ2 hD2 hput;have hroom:W4 1 8:=XX (by decide) (by decide);obtain⟨hnm2,hlo,hhi,⟨ho,htn,hks⟩⟩:=h;simp only[aT,Tm.enc,Ht.enc,Ni,Nr,List.cons_append,List.nil_append,mkO]at cr hh';clear crd clp iha ihb hT2 hDe;refine X0<|(X1X [(61,1000001),(63,10)] 12 [] (fun n=>n) (fun n=>if n=900002 then 900012 else n) (by kernel_rfl) (by kernel_rfl) (by rfl) (by kernel_rfl) (by rfl) (by simp[*,X4L,X4E,Qy];first|exact⟨rfl,Iff.rfl⟩|exact⟨rfl,trivial⟩|rfl) ?_ (by rfl) (by simp;rfl) (QG (by simp[rbB,QR,Qc,CV.ren,Ob.ren,lkp]) (by simp) (by simp) (by simp[rbB,QR,Qc,CV.ren,Ob.ren,lkp]) (by simp[rbB,QR,Qc,CV.ren,Ob.ren,lkp])) cr (by rfl) ?_)
   .exact trivial
   refine XB (s':=⟨⟨116,none⟩,[(0,.v (.one (.at_ 1000001 0))),(2,.v (li c)),(3,.v (lDD D)),(10,.v (.one (.at_ 10 0))),(11,.v (li o)),(13,.v (lS l)),(14,.v (li l.length)),(15,.v (li k))],[(10,.box [.c (iC 5),.c (iC sc),.c (iC (v:Int)),.c (iC (g:Int)),.c (iC po),.c (iC tn),.c (.sl 3 (XA tk)),.c (.sl 10 (X7 sa)),.c (.sl 10 (X7 sb)),.c (.sl 1 (Xi sbs))]),(900002,.row 51 3 (XG T2)),(1000001,.box [.c (.sl 5 (Xm vars)),.c (.sl 6 (Xn hats)),.c (.sl 10 (X7 body)),.c (iC n),.c (iC o1),.own 900002,.c (bC q)])]⟩) (Xl (fun n=>if n=900002 then 900012 else n) [] rfl (by simp[XJ,XU,del,ins,CV.ren,Ob.ren]) (by simp[XJ,XU,del,ins,CV.ren,Ob.ren]) (by simp)) ?_;refine Xk [⟨false,.v (.one (.own 70)),some (.row 29 1 (Q8 D))⟩] ?_ ?_
   .first|exact cpy 70 (by decide)|exact trivial|simpa[*]using cpy 70 (by decide)
   refine(X2g 5 [] [] (by simp[*];rfl) trivial (Qs 75 rfl) (by simp[*];rfl) trivial ?_);refine X2 ?_;exact⟨(k+1,o2,T2,D2),⟨hk1,hfo2,hD2,hou,hJ,hJ2⟩,by simp only;omega,le_trans (Qs 70 rfl) (Xl (fun n=>n) [] rfl (by simp[HS.frz,W9,RV.frz,TV.frz,CV.frz,Ob.frz,upS,X5, *]) (by simp[HS.frz,W9,RV.frz,TV.frz,CV.frz,Ob.frz,upS,X5, *]) (by simp[upS]))⟩
  (try simp only[BN]at h23);have hd5:¬sd=5:=by simpa using h23
  have hd05:¬(sd=0\/sd=5):=by omega
  rw[N7 hd05]at hou;rw[N7 hd05]at hJ hJ1;refine X1 ?_;refine(X8 rfl (fun h30=>?_) (fun h30=>?_))
  ·(try simp only[BN]at h30);have hd1:sd=1:=by simpa using h30
   have ho12:o2=o1:=by have:=hzz (by omega) (by omega);omega
   subst hd1;rw[N7 (by decide),N7 (by decide)]at hou;rw[Na (by decide)]at hJ hJ1;simp only[N7 (show ¬(1:Int)=3 by decide),N7 (show ¬(1:Int)=4 by decide)]at hJ hJ1;obtain⟨e2,hJ2⟩:=X1V hJ1;rw[QW]at hJ;have cr:=crd D hD e2;obtain⟨T2,hT2⟩:∃x,QP q T1 (rdE o D (.mk po tn tk))=x:=⟨_,rfl⟩;rw[hT2]at cr hJ hJ2;clear crd clp iha ihb hT2 cpy;refine(Xw ?_);refine RunsN.cutE 5 [] (by simp;rfl) trivial (le_refl _) ?_;refine RunsN.callA (fun n=>n) (fun n=>if n=900002 then 900012 else n) cr fun _ _=>?_;refine RunsN.doneE [] rfl trivial ?_;refine X2 ?_;exact⟨(k+1,o2,T2,D),⟨hk1,hfo2,hD,hou,hJ,hJ2⟩,by simp only;omega,Xl (fun n=>if n=900002 then 900012 else n) [] rfl (by simp[upS,X5,XJ,XU,del,ins,CV.ren,Ob.ren, *]) (by simp[*,upS,XJ,XU,del,ins,CV.ren,Ob.ren]) (by simp[upS])⟩
  (try simp only[BN]at h30);have hd1:¬sd=1:=by simpa using h30
  rw[N7 (show ¬(sd=0\/sd=1) by omega),N7 hd5]at hJ hJ1;refine X1 ?_;refine(X8 rfl (fun h35=>?_) (fun h35=>?_))
  ·(try simp only[BN]at h35);have hd3:sd=3:=by simpa using h35
   subst hd3;rw[Na rfl]at hou;simp only[Nf]at hJ hJ1;rw[Df,Df]at hJ hJ1;obtain⟨e2,hJ2⟩:=X1V hJ1;rw[QW]at hJ;have cr:=crd D hD e2;obtain⟨T2,hT2⟩:∃x,QP q T1 (rdE o D (.mk po tn tk))=x:=⟨_,rfl⟩;rw[hT2]at cr hJ hJ2;obtain⟨e3,hJ3⟩:=X1V hJ2;rw[QW]at hJ;have ca:=iha (o+1) q T2 o D (by omega) (by omega) hD e3;have hDa:=okM.ouL sa (o+1) D (by omega) hD;obtain⟨T3,hT3⟩:∃x,QP q T2 (edL n hats sa o (o+1) D)=x:=⟨_,rfl⟩;rw[hT3]at ca hJ hJ3;obtain⟨e4,hJ4⟩:=X1V hJ3;rw[QW]at hJ;have cb:=ihb (o+1+szL sa) q T3 o D (by omega) (by omega) hD e4;have hDb:=okM.ouL sb (o+1+szL sa) D (by omega) hD;obtain⟨T4,hT4⟩:∃x,QP q T3 (edL n hats sb o (o+1+szL sa) D)=x:=⟨_,rfl⟩;rw[hT4]at cb hJ hJ4;have cj:=X68 (ouL sa (o+1) D) (ouL sb (o+1+szL sa) D) (by rw[hDa.ok.len,hDb.ok.len]) (fun r hr=>⟨by have:=hDa.len r hr;omega,hDa.ne r hr⟩) (fun r hr=>by have:=hDb.len r hr;omega) (by rw[hDa.ok.len];omega);have hDj:=hDa.join hDb;obtain⟨A,hA⟩:∃x,ouL sa (o+1) D=x:=⟨_,rfl⟩;obtain⟨B,hB⟩:∃x,ouL sb (o+1+szL sa) D=x:=⟨_,rfl⟩;rw[hA]at ca cj hDj hou hJ hJ4;rw[hB]at cb cj hDj hou hJ hJ4;obtain⟨Jn,hJn⟩:∃x,XZ A B=x:=⟨_,rfl⟩;rw[hJn]at cj hDj hou hJ hJ4;have ho3:o+1+szL sa+szL sb=o2:=by omega
   rw[ho3]at cb;rw[ho1]at ca cb;obtain⟨o3,ho4⟩:∃x,o1+szL sa=x:=⟨_,rfl⟩;rw[ho4]at ca cb;simp only[mkO]at ca cb;clear crd clp iha ihb hT2 hT3 hT4 cpy hDa hDb hA hB hJn;refine X0<|(Xw ?_);refine RunsN.cutE 5 [] (by simp;rfl) trivial (le_refl _) ?_;refine RunsN.callA (fun n=>n) (fun n=>if n=900002 then 900012 else n) cr fun _ _=>?_;refine RunsN.doneE [] rfl trivial ?_;refine XB (s':=⟨⟨116,none⟩,[(0,.v (.one (.at_ 1000001 0))),(2,.v (li c)),(3,.v (lDD D)),(10,.v (.one (.at_ 10 0))),(11,.v (li o)),(13,.v (lS l)),(14,.v (li l.length)),(15,.v (li k))],[(10,.box [.c (iC 3),.c (iC sc),.c (iC sv),.c (iC sn),.c (iC po),.c (iC tn),.c (.sl 3 (XA tk)),.c (.sl 10 (X7 sa)),.c (.sl 10 (X7 sb)),.c (.sl 1 (Xi sbs))]),(900002,.row 51 3 (XG T2)),(1000001,.box [.c (.sl 5 (Xm vars)),.c (.sl 6 (Xn hats)),.c (.sl 10 (X7 body)),.c (iC n),.c (iC o1),.own 900002,.c (bC q)])]⟩) (Xl (fun n=>if n=900002 then 900012 else n) [] rfl (by simp[XJ,XU,del,ins,CV.ren,Ob.ren]) (by simp[XJ,XU,del,ins,CV.ren,Ob.ren]) (by simp)) ?_;refine X0<|(Xw ?_);refine RunsN.cutE 5 [] (by simp;rfl) trivial (le_refl _) ?_;refine RunsN.callA (fun n=>n) (fun n=>if n=900002 then 900012 else n) ca fun _ _=>?_;refine RunsN.doneE [] rfl trivial ?_;refine XB (s':=⟨⟨116,none⟩,[(0,.v (.one (.at_ 1000001 0))),(2,.v (li c)),(3,.v (lDD D)),(10,.v (.one (.at_ 10 0))),(11,.v (li o)),(12,.v (lDD A)),(13,.v (lS l)),(14,.v (li l.length)),(15,.v (li k))],[(10,.box [.c (iC 3),.c (iC sc),.c (iC sv),.c (iC sn),.c (iC po),.c (iC tn),.c (.sl 3 (XA tk)),.c (.sl 10 (X7 sa)),.c (.sl 10 (X7 sb)),.c (.sl 1 (Xi sbs))]),(900002,.row 51 3 (XG T3)),(1000001,.box [.c (.sl 5 (Xm vars)),.c (.sl 6 (Xn hats)),.c (.sl 10 (X7 body)),.c (iC n),.c (iC o3),.own 900002,.c (bC q)])]⟩) (Xl (fun n=>if n=900002 then 900012 else n) [] rfl (by simp[XJ,XU,del,ins,CV.ren,Ob.ren]) (by simp[XJ,XU,del,ins,CV.ren,Ob.ren]) (by simp)) ?_;refine(Xw ?_);refine RunsN.cutE 6 [] (by simp;rfl) trivial (le_refl _) ?_;refine RunsN.callA (fun n=>n) (fun n=>if n=900002 then 900012 else n) cb fun _ _=>?_;refine RunsN.doneE [⟨false,.v (lDD Jn),none⟩] (by simp[*];first|exact⟨rfl,Iff.rfl⟩|exact⟨rfl,trivial⟩|rfl) (by first|exact cj _|simpa using cj _) ?_;refine X2 ?_;exact⟨(k+1,o2,T4,Jn),⟨hk1,hfo2,hDj,hou,hJ,hJ4⟩,by simp only;omega,Xl (fun n=>if n=900002 then 900012 else n) [] rfl (by simp[upS,X5,XJ,XU,del,ins,CV.ren,Ob.ren, *]) (by simp[*,upS,XJ,XU,del,ins,CV.ren,Ob.ren]) (by simp[upS])⟩
  (try simp only[BN]at h35);have hd3:¬sd=3:=by simpa using h35
  rw[N7 hd3]at hou;simp only[N7 hd3]at hJ hJ1;refine X1 ?_;refine(Xc rfl (fun h42=>?_) fun h42=>?_)
  ·(try simp only[BN]at h42);have hd4:sd=4:=by simpa using h42
   subst hd4;rw[Na rfl]at hou;simp only[Nf]at hJ hJ1;rw[ho1]at hJ hJ1 hou;obtain⟨e2,hJ2⟩:=X1V hJ1;rw[QW]at hJ;have cl:=clp (by omega) hD e2;have ho24:o1+szL sa=o2:=by have:=hz4 rfl;omega
   rw[ho24]at cl;have hDj:=hD.join (okM.ouL sa (o+1) D (by omega) hD);rw[ho1]at hDj;obtain⟨Jn,hJn⟩:∃x,XZ D (ouL sa o1 D)=x:=⟨_,rfl⟩;rw[hJn]at cl hDj hou hJ hJ2;obtain⟨T2,hT2⟩:∃x,QP q T1 (rdE o Jn (.mk po tn tk)++(⟨o,o,1⟩::edL n hats sa o o1 Jn))=x:=⟨_,rfl⟩;rw[hT2]at cl hJ hJ2;clear crd clp iha ihb hT2 cpy hJn;refine(Xw ?_);refine RunsN.cutE 4 [] (by simp;rfl) trivial (le_refl _) ?_;refine RunsN.callA (fun n=>n) (fun n=>if n=900002 then 900012 else n) cl fun _ _=>?_;refine RunsN.doneE [] rfl trivial ?_;refine X2 ?_;exact⟨(k+1,o2,T2,Jn),⟨hk1,hfo2,hDj,hou,hJ,hJ2⟩,by simp only;omega,Xl (fun n=>if n=900002 then 900012 else n) [] rfl (by simp[upS,X5,XJ,XU,del,ins,CV.ren,Ob.ren, *]) (by simp[*,upS,XJ,XU,del,ins,CV.ren,Ob.ren]) (by simp[upS])⟩
  (try simp only[BN]at h42);have hd4:¬sd=4:=by simpa using h42
  have ho12:o2=o1:=by have:=hzz hd3 hd4;omega
  rw[N7 hd4]at hou;simp only[N7 hd4,List.nil_append]at hJ hJ1;refine X2 ?_;exact⟨(k+1,o2,T1,D),⟨hk1,hfo2,hD,hou,hJ,hJ1⟩,by simp only;omega,X4 (fun n=>n) []⟩
 try simp only[BN]at h4
 have hkl:k=l.length:=by
  have:¬k<l.length:=by first|omega|simpa using h4
  omega
 subst hkl;simp only[Nt,szL,ouL,edL,Wy,Nat.add_zero]at hfo hou hJ;subst hfo;subst hou;subst hJ;refine(Xg ?_);refine X1 ?_;exact Qe ⟨.inr rfl,(),trivial,_,le_refl _,⟨_,by simp;rfl,by simp[XL]⟩,fun n o h=>h⟩
theorem mem_flL {l:List St} {s:St} (h:s∈l):s∈flL l:=by
 induction l with
 |nil=>cases h
 | cons a l ih=>
   simp only[flL,Ng];rcases Nh.1 h with rfl|h
   .left;obtain⟨o,c,v,n,t,a,b,bs⟩:=s;simp[flS]
   exact .inr (ih h)
structure PdOK (f:Fl):Prop where
 nd:∀x∈grN f.body,okN1 f.hats (flL f.body) x
 st:∀q∈flL f.body,meV q.term=tmV q.term/\q.term.nodes<=100000/\∀v∈tmV q.term,0<=v/\v<=1000000
 ht:∀h∈f.hats,meV h.term=tmV h.term/\h.term.nodes<=100000/\∀v∈tmV h.term,0<=v/\v<=1000000
 rl:∀r∈rcL (grN f.body) (flL f.body) f.vars.length,r.length<=100000/\∀d∈r,d<=1000000
 sz:∀s∈flL f.body,Xh s.then_<=1000000000/\Xh s.else_<=1000000000
theorem stl_b6 {f:Fl} (h0:Qa f=0):∀s∈f.body,s.do_=6->s.bounds≠[]:=by
 intro s hs h6;obtain⟨last,hsh⟩:=X2U f.body true (W6 h0).2.2.2.1 s (mem_flL hs);unfold shB at hsh;rw[h6]at hsh;simp only[Int.reduceEq,Nc,Nf,N4]at hsh;intro e;rw[e]at hsh;exact absurd hsh.2 (by decide)
theorem stld_con {f:Fl} (h:Sm f) (h0:Qa f=0) (d:Nat):Con prog 128 true [aF f] (.v (lb (X3G f))) none d:=
 XbY f (by have:=h.vars;omega) (by have:=h.hats;omega) (by have:=h.nodes;omega) h.bnd h0 (by have:=X2Y f.body;have:=h.sz;omega) (stl_b6 h0) d
noncomputable def X2J (f:Fl):List Dp:=XS (if X3G f=true then [] else tmP Zs (((flL f.body).length:Int)+f.vars.length) (flL f.body)) (XS (X5y (flL f.body).length f.hats (flL f.body) (grN f.body) (rcL (grN f.body) (flL f.body) f.vars.length)) (XS (ctL f.body (-1) 0) []))
theorem X2V (f:Fl):(X2J f).Nodup:=Zf _ _ (Zf _ _ (Zf _ _ List.nodup_nil))
noncomputable def bdR (f:Fl):RV:=.tup [.agg (if Qa f=0 then [.c (iC (flL f.body).length),.c (iC f.vars.length),.c (.sl 3 (XG (QU (X2J f))))] else [.c (iC 0),.c (iC 0),.c (.lit XY)]),li (Qa f)]
theorem get_dpM {l:List Dp} {j:Nat} {k:Value} {v:CD} (h:(dpM l)[j]? =some (k,v)):∃x,l[j]? =some x/\k=d3V x.d3/\v=.lit (.bool true):=by
 unfold dpM d3M at h;simp only[Np]at h;cases hx:l[j]? with
 |none=>rw[hx]at h;cases h
 |some x=>rw[hx]at h;cases h;exact⟨x,rfl,rfl,rfl⟩
theorem Xc2 {t:List Dp} (hnd:t.Nodup) {i j:Nat} {x:Dp} (hi:t[i]? =some x) (hj:t[j]? =some x):j=i:=by
 obtain⟨h1,h2⟩:=N5.1 hi;obtain⟨h3,h4⟩:=N5.1 hj;rcases Nat.lt_trichotomy i j with h|h|h
 .exact absurd (h2.trans h4.symm) (List.pairwise_iff_getElem.1 hnd i j h1 h3 h)
 .exact h.symm
 exact absurd (h4.trans h2.symm) (List.pairwise_iff_getElem.1 hnd j i h3 h1 h)
theorem X1h (g:FuncId) (d:Nat):Con prog 58 true [.one (.c (.sl 3 [])),.one (.fn g [])] (.tup []) none d:=by
 refine⟨by kernel_rfl,fun F w vs hF hsz hargs=>?_⟩;obtain⟨l⟩:=vs
 match l,hsz with
 | [v0,v1],_=>
   have a0:CRel F w (.sl 3 []) v0:=hargs 0 _ v0 rfl rfl
   have key:∃p cap,v0=.slice p 0 cap:=by
    cases a0 with
    |nil=>exact⟨_,_,rfl⟩
    |emp a cap=>exact⟨_,_,rfl⟩
    |sl rows b o cap cells=>exact⟨_,_,rfl⟩
   obtain⟨p,cap,rfl⟩:=key;have a1:Xs F noγ w (.fn g []) v1:=hargs 1 _ v1 rfl rfl;obtain⟨us,rfl,hl,_⟩:=a1;have hus':us=[]:=Nv hl;subst hus';refine(X7w p cap g w).mono ?_;rintro e w' ⟨rfl,rfl⟩;exact⟨_,fun _=>False,noγ,rfl,⟨rfl,rfl,rfl,NK _,fun _ _=>rfl⟩,fun b hb=>hb.elim,⟨#[],rfl,rfl,fun j t u h1 h2=>by simp at h1⟩,fun o ho=>by cases ho⟩
set_option maxHeartbeats 32000000 in
theorem Xas (f:Fl) (h:Sm f) (hok:Qa f=0->PdOK f/\(X2J f).length<=20000000) (d:Nat):Con prog 23 false [aF f] (bdR f) none d:=by
 have cc:=X1m f (by have:=h.vars;omega) (by have:=h.hats;omega) (by have:=h.nodes;omega) h.bnd;have cb:=X7o f h;unfold bdR;by_cases h0:Qa f=0
 .have cr:=X7Y f h h0;obtain⟨⟨hnd,hst,hht,hrl,hsz⟩,hDl⟩:=hok h0;have cst:=stld_con h h0;have hlen:=h.sz;have hfl:=Q6 f.body;have cl:=Xcd f.vars f.hats f.body f.body (-1) [] [] (by simp only[List.length_nil];omega);have cd:=XbR f.vars f.hats f.body (flL f.body) (grN f.body) (rcL (grN f.body) (flL f.body) f.vars.length) (XS (ctL f.body (-1) 0) []) (by omega) (by have:=X1a (X0z h0);have:=X4I f.body;omega) (X84 _ _ _) hrl hnd hst hht;have ct:=Xc8 f.vars f.hats f.body (flL f.body) (XS (X5y (flL f.body).length f.hats (flL f.body) (grN f.body) (rcL (grN f.body) (flL f.body) f.vars.length)) (XS (ctL f.body (-1) 0) [])) (by have:=h.vars;omega) (by omega) hsz cst;have hD:X2J f=XS (if X3G f=true then [] else tmP Zs (((flL f.body).length:Int)+f.vars.length) (flL f.body)) (XS (X5y (flL f.body).length f.hats (flL f.body) (grN f.body) (rcL (grN f.body) (flL f.body) f.vars.length)) (XS (ctL f.body (-1) 0) [])):=rfl;have hDn:=X2V f;rw[<-hD]at ct;rw[h0]at cc cb⊢;simp only[Nf,List.nil_append,List.length_nil]at cb cl⊢;have hv1:=h.vars;clear h hok h0 cst hnd hst hht hrl hsz hD;obtain⟨D,hD⟩:∃x,X2J f=x:=⟨_,rfl⟩;rw[hD]at ct hDn hDl⊢;clear hD;obtain⟨D1,hD1⟩:∃x,XS (ctL f.body (-1) 0) []=x:=⟨_,rfl⟩;rw[hD1]at cl cd ct;clear hD1;obtain⟨D2,hD2⟩:∃x,XS (X5y (flL f.body).length f.hats (flL f.body) (grN f.body) (rcL (grN f.body) (flL f.body) f.vars.length)) D1=x:=⟨_,rfl⟩;rw[hD2]at cd ct;clear hD2;obtain⟨RR,hRR⟩:∃x,rcL (grN f.body) (flL f.body) f.vars.length=x:=⟨_,rfl⟩;rw[hRR]at cd cr;clear hRR;obtain⟨vars,hats,body⟩:=f;simp only[aF,Fl.enc,Ni,Nr,grC]at cc cb cr cl cd ct hv1 hlen hfl⊢;obtain⟨G,hG⟩:∃x,grN body=x:=⟨_,rfl⟩;rw[hG]at cb cr cd;clear hG;obtain⟨Q,hQ⟩:∃x,flL body=x:=⟨_,rfl⟩;rw[hQ]at cl cd ct hfl⊢;clear hQ;have hQl:Q.length<=1000:=by omega
  clear hlen hfl;have dp0:dpM []=[]:=rfl;have es0:X7 []=[]:=rfl;simp only[pdO,pdF,dp0,es0]at cl cd ct;refine X6 Tryz.func23 ?_;simp only[Tryz.f23];refine X1 ?_;refine X0<|X0<|(Xo [⟨true,.v (li 0),none⟩] ?_ ?_)
  .first|exact cc _|exact trivial|simpa[*]using cc _
  refine X1 ?_;refine(Xc rfl (fun h3=>?_) fun h3=>?_)
  .exact absurd h3 (by simp)
  (try simp only[BN]at h3);refine Xk [⟨false,.tup [.agg [.c (.sl 4 (Qx G))],li 0],none⟩] ?_ ?_
  .first|exact cb _|exact trivial|simpa[*]using cb _
  refine X0<|X0<|X2 ?_;refine(Xc rfl (fun h8=>?_) fun h8=>?_)
  .exact absurd h8 (by simp)
  (try simp only[BN]at h8);refine Xk [⟨false,.tup [.one (.c (.sl 1 (Q8 RR))),li 0],none⟩] ?_ ?_
  .first|exact cr _|exact trivial|simpa[*]using cr _
  refine X0<|X0<|X2 ?_;refine(Xc rfl (fun h13=>?_) fun h13=>?_)
  .exact absurd h13 (by simp)
  (try simp only[BN]at h13);refine X1 ?_;refine XB (s':=⟨⟨78,none⟩,[(1,.v (.one (.at_ 1 0))),(2,.v (.one (.at_ 2 0))),(5,.v (.one (.at_ 5 0))),(7,.v (.one (.c (.sl 1 (Q8 RR))))),(8,.v (.one (.at_ 39 0)))],[(1,.box [.c (.sl 5 (Xm vars)),.c (.sl 6 (Xn hats)),.c (.sl 10 (X7 body))]),(2,.box [.c (iC 0),.c (iC 0),.c (.lit XY)]),(5,.box [.c (.sl 4 (Qx G))]),(39,.box [.c (.sl 5 (Xm vars)),.c (.sl 6 (Xn hats)),.c (.sl 10 (X7 body)),.own 900001,.own 900002]),(900001,.row 70 10 []),(900002,.mp [])]⟩) (Xl (fun n=>if n=900002 then 37 else n) [900001] rfl (by simp[upS,X5]) (by simp[upS,XY]) (by simp[upS])) ?_;refine X0<|(Xw ?_);refine RunsN.cutE 3 [] (by simp;rfl) trivial (le_refl _) ?_;refine RunsN.callA (fun n=>if n=1000001 then 39 else n) (fun n=>if n=1000001 then 39 else if n=900001 then 900011 else if n=900002 then 900012 else n) cl fun _ _=>?_;refine RunsN.doneE [] rfl trivial ?_;refine XB (s':=⟨⟨78,none⟩,[(1,.v (.one (.at_ 1 0))),(2,.v (.one (.at_ 2 0))),(5,.v (.one (.at_ 5 0))),(7,.v (.one (.c (.sl 1 (Q8 RR))))),(8,.v (.one (.at_ 39 0)))],[(1,.box [.c (.sl 5 (Xm vars)),.c (.sl 6 (Xn hats)),.c (.sl 10 (X7 body))]),(2,.box [.c (iC 0),.c (iC 0),.c (.lit XY)]),(5,.box [.c (.sl 4 (Qx G))]),(39,.box [.c (.sl 5 (Xm vars)),.c (.sl 6 (Xn hats)),.c (.sl 10 (X7 body)),.own 900001,.own 900002]),(900001,.row 70 10 (X7 Q)),(900002,.mp (dpM D1))]⟩) (Xl (fun n=>if n=900001 then 900011 else if n=900002 then 900012 else n) [] rfl (by simp[upS,X5,XJ,XU,del,ins,CV.ren,Ob.ren]) (by simp[upS,X5,XJ,XU,del,ins,CV.ren,Ob.ren]) (by simp[upS])) ?_;refine XB (Qs 900001 rfl) ?_;refine X0<|(Xw ?_);refine RunsN.cutE 3 [] (by simp;rfl) trivial (le_refl _) ?_;refine RunsN.callA (fun n=>if n=1000001 then 39 else n) (fun n=>if n=1000001 then 39 else if n=900002 then 900012 else n) cd fun _ _=>?_;refine RunsN.doneE [] rfl trivial ?_;refine XB (s':=⟨⟨78,none⟩,[(1,.v (.one (.at_ 1 0))),(2,.v (.one (.at_ 2 0))),(8,.v (.one (.at_ 39 0)))],[(1,.box [.c (.sl 5 (Xm vars)),.c (.sl 6 (Xn hats)),.c (.sl 10 (X7 body))]),(2,.box [.c (iC 0),.c (iC 0),.c (.lit XY)]),(39,.box [.c (.sl 5 (Xm vars)),.c (.sl 6 (Xn hats)),.c (.sl 10 (X7 body)),.c (.sl 10 (X7 Q)),.own 900002]),(900002,.mp (dpM D2))]⟩) (Xl (fun n=>if n=900002 then 900012 else n) [] rfl (by simp[upS,X5,XJ,XU,del,ins,CV.ren,Ob.ren]) (by simp[upS,X5,XJ,XU,del,ins,CV.ren,Ob.ren]) (by simp[upS])) ?_;refine X0<|(Xw ?_);refine RunsN.cutE 1 [] (by simp;rfl) trivial (le_refl _) ?_;refine RunsN.callA (fun n=>if n=1000001 then 39 else n) (fun n=>if n=1000001 then 39 else if n=900002 then 900012 else n) ct fun _ _=>?_;refine RunsN.doneE [] rfl trivial ?_;refine XB (s':=⟨⟨78,none⟩,[(1,.v (.one (.at_ 1 0))),(2,.v (.one (.at_ 2 0))),(8,.v (.one (.at_ 39 0)))],[(1,.box [.c (.sl 5 (Xm vars)),.c (.sl 6 (Xn hats)),.c (.sl 10 (X7 body))]),(2,.box [.c (iC 0),.c (iC 0),.c (.lit XY)]),(39,.box [.c (.sl 5 (Xm vars)),.c (.sl 6 (Xn hats)),.c (.sl 10 (X7 body)),.c (.sl 10 (X7 Q)),.own 900002]),(900002,.mp (dpM D))]⟩) (Xl (fun n=>if n=900002 then 900012 else n) [] rfl (by simp[upS,X5,XJ,XU,del,ins,CV.ren,Ob.ren]) (by simp[upS,X5,XJ,XU,del,ins,CV.ren,Ob.ren]) (by simp[upS])) ?_;refine XB (le_frzP 900002 rfl) ?_;refine X0<|(N0 ?_);refine X0<|X0<|X2 ?_;refine X3<|(Xd [2,9,63] (fun(y:List Nat×List Dp)=>[(2,.v (.one (.at_ 2 0))),(9,.v (.one (.at_ 9 0)))]) (fun y=>[(2,.box [.c (iC 0),.c (iC 0),.c (.lit XY)]),(9,.box [.c (iC Q.length),.c (iC vars.length),.own 1003]),(63,.it (dpM D) y.1),(1003,.row 51 3 (XG y.2))]) (fun y=>y.1.Nodup/\X3z y.1 D.length/\(∀d,d∈y.2↔∃j∈y.1,D[j]? =some d)/\y.2.Nodup/\y.2.length<=y.1.length) (fun y=>D.length - y.1.length) ([],[]) ⟨List.nodup_nil,by simp[X3z],by simp,List.nodup_nil,NK _⟩ ?_ ?_)
  .exact X4 (fun n=>n) [1003]
  rintro⟨seen,out⟩ ⟨j1,j2,j3,j4,j5⟩;simp only[upS,X5,Xy]
  try simp only[X5,KN,Nat.reduceBEq,Nf,Nc,ins,Nat.reduceLT]
  simp only at j1 j2 j3 j4 j5;refine X6o (fun j k v hj hn=>?_) (fun hall=>?_)
  skip
  ·(try simp only[BN]at h24);obtain⟨x,hd,rfl,rfl⟩:=get_dpM hj;have hjl:j<D.length:=(N5.1 hd).1
   have hnd2:(seen++[j]).Nodup:=by
    rw[List.nodup_append];exact⟨j1,by simp,fun a ha b hb=>by rw[Nk.1 hb];exact fun e=>hn (e▸ha)⟩
   have hin:X3z (seen++[j]) D.length:=fun i hi=>by
    rcases Ng.1 hi with h|h
    .exact j2 i h
    rw[Nk.1 h];exact hjl
   have hnew:(out++[x]).Nodup:=by
    rw[List.nodup_append];refine⟨j4,by simp,fun a ha b hb=>?_⟩;rw[Nk.1 hb];rintro rfl;obtain⟨i,hi,he⟩:=(j3 a).1 ha;exact hn (Xc2 hDn hd he▸hi)
   have hmem:∀y,y∈out++[x]↔∃i∈seen++[j],D[i]? =some y:=by
    intro y;rw[Ng,j3,Nk];constructor
    .rintro(⟨i,h1,h2⟩|rfl)
     .exact⟨i,List.mem_append_left _ h1,h2⟩
     exact⟨j,by simp,hd⟩
    rintro⟨i,h1,h2⟩;rcases Ng.1 h1 with h1|h1
    .exact .inl ⟨i,h1,h2⟩
    rw[Nk.1 h1,hd]at h2;exact .inr (Option.some.inj h2).symm
   have hap:XG (out++[x])=XG out++[[CD.lit (.int .i64 x.d3.1),CD.lit (.int .i64 x.d3.2.1),CD.lit (.int .i64 x.d3.2.2)]]:=by rw[X6z];rfl
   have hsn:XG [x]=[[iC x.f,iC x.t,iC x.k]]:=rfl;have hle:=Wz hnd2 hin;simp only[N9,List.length_singleton]at hle;have hroom:W4 (out.length+1) 24:=⟨by unfold maxLen;omega,by omega⟩;clear hjl;refine X3<|X0<|(Xw ?_);refine RunsN.cutE 2 [] (by simp[*];rfl) trivial (le_d3 67 x.d3 rfl) ?_;refine RunsN.doneE [] (by simp[d3C];rfl) trivial ?_;refine X2 ?_;exact⟨(seen++[j],out++[x]),⟨hnd2,hin,hmem,hnew,by simp only[N9,List.length_singleton];omega⟩,by simp only[N9,List.length_singleton];omega,X4 (fun n=>if n=1003 then 72 else n) []⟩
  try simp only[BN]at h24
  have hout:∀d,d∈out↔d∈D:=by
   intro d;rw[j3];constructor
   .rintro⟨i,_,h⟩;exact N3 h
   intro h;obtain⟨i,hi⟩:=NL.1 h;exact⟨i,hall i (by rw[len_dpM];exact(N5.1 hi).1),hi⟩
  have hfin:QU out=QU D:=X25 hout;have hsl:=Wz j1 j2;obtain⟨res,hres⟩:∃y,QU D=y:=⟨_,rfl⟩;rw[hres]at hfin⊢;clear hall j1 j2 j3 hout hres;refine(Xg ?_);rcases out with _|⟨a0,o⟩
  .refine XB (Qs 1003 rfl) ?_;have hr0:res=[]:=by rw[<-hfin];simp[QU,XS]
   subst hr0;refine Xk [⟨true,.tup [],none⟩] ?_ ?_
   .first|exact X1h _ _|exact trivial|simpa[*]using X1h _ _
   refine X1 ?_;exact Xf
  have cs:=Xcy (a0::o) j4 (by simp) (by omega);rw[hfin]at cs;refine X0<|(Xw ?_);refine RunsN.cutE 2 [] (by simp;rfl) trivial (le_refl _) ?_;refine RunsN.rowG (by simp[X8P,X23];exact⟨rfl,rfl⟩) cs ?_;refine RunsN.doneE [] rfl trivial ?_;refine XB (Qs 1003 rfl) ?_;refine X1 ?_;exact Xf
 rw[N7 h0];obtain⟨C,hC⟩:∃x,Qa f=x:=⟨_,rfl⟩;rw[hC]at cc h0⊢;clear cb h hok hC;obtain⟨vars,hats,body⟩:=f;simp only[aF,Fl.enc,Ni,Nr]at cc⊢;refine X6 Tryz.func23 ?_;simp only[Tryz.f23];refine X1 ?_;refine X0<|X0<|(Xo [⟨true,.v (li C),none⟩] ?_ ?_)
 .first|exact cc _|exact trivial|simpa[*]using cc _
 refine X1 ?_;refine(Xc rfl (fun h3=>?_) fun h3=>?_)
 ·(try simp only[BN]at h3);refine X1 ?_;exact Xf
 exact absurd (by simpa using h3) h0
theorem rc_rl {f:Fl} (h:Sm f):∀r∈rcL (grN f.body) (flL f.body) f.vars.length,r.length<=100000/\∀d∈r,d<=1000000:=by
 have hs:=h.sz;have hv:=h.vars;have hl:=Q6 f.body;intro r hr;unfold rcL at hr;obtain⟨i,_,rfl⟩:=NF.1 hr;refine⟨Dx (DC _ _) (by simp;omega),fun d hd=>?_⟩;have:=(NR.1 hd).1;have:=List.mem_range.1 this;omega
mutual
theorem X7k {vars:List Vr} {inp:Bool}:∀t:Tm,QT vars inp t=true->∀v∈tmV t,0<=v/\v<vars.length
 | .mk o n ks,h,v,hv=>by
   simp only[QT,N4]at h;simp only[tmV,Ng]at hv;rcases hv with hv|hv
   .split at hv
    .rename_i h24;rw[Nk.1 hv];subst h24;have h1:=h.1;unfold Qi at h1;simp only[N4,show ¬(24:Int)=0 by decide,Nc,Nf]at h1;have h2:=h1.2;unfold ZX at h2;simp only[N4,N6]at h2;refine⟨h2.1,?_⟩;cases hx:vars[n.toNat]? with
     |none=>rw[hx]at h2;exact absurd h2.2 (by simp)
     |some x=>have:=(N5.1 hx).1;omega
    cases hv
   exact Xbu ks h.2 v hv
theorem Xbu {vars:List Vr} {inp:Bool}:∀l:List Tm,WC vars inp l=true->∀v∈ZV l,0<=v/\v<vars.length
 |[],_,v,hv=>by simp[ZV]at hv
 | t::l,h,v,hv=>by
   simp only[WC,N4]at h;simp only[ZV,Ng]at hv;rcases hv with hv|hv
   .exact X7k t h.1 v hv
   exact Xbu l h.2 v hv
end
theorem X21 {vars:List Vr} {nh:Nat}:∀(l:List St) (top:Bool),ssC vars nh l top=0->∀q∈flL l,QT vars false q.term=true
 |[],_,_,q,hq=>by simp[flL]at hq
 | .mk d c v n t a b bs::l,top,h,q,hq=>by
   have hs:QT vars false t=true:=by
    simp only[ssC]at h;split at h
    .rename_i h0;unfold stC at h0;split at h0
     .cases h0
     split at h0
     .cases h0
     exact X2X h0
    rename_i h0;exact absurd h h0
   have hr:ssC vars nh a false=0/\ssC vars nh b false=0/\ssC vars nh l top=0:=by
    simp only[ssC]at h;split at h
    .split at h
     .split at h
      .rename_i ha hb;exact⟨ha,hb,h⟩
      rename_i hb;exact absurd h hb
     rename_i ha;exact absurd h ha
    rename_i h0;exact absurd h h0
   simp only[flL,flS,List.cons_append,Nh,Ng]at hq;rcases hq with rfl|(hq|hq)|hq
   .exact hs
   .exact X21 a false hr.1 q hq
   .exact X21 b false hr.2.1 q hq
   exact X21 l top hr.2.2 q hq
theorem X1S:∀(l:List St),∀q∈flL l,q.term.nodes+Xh q.then_+Xh q.else_<=Xh l
 |[],q,hq=>by simp[flL]at hq
 | .mk d c v n t a b bs::l,q,hq=>by
   simp only[flL,flS,List.cons_append,Nh,Ng]at hq;simp only[Xh,St.nodes];rcases hq with rfl|(hq|hq)|hq
   .simp only[St.term,St.then_,St.else_];omega
   .have:=X1S a q hq;omega
   .have:=X1S b q hq;omega
   have:=X1S l q hq;omega
theorem sh_hat' {vars:List Vr} {nh:Nat} {q:St} {last:Bool} (h:shB vars nh q.do_ q.var q.n q.term q.then_.length q.else_.length q.bounds last=true) (h5:q.do_=5):0<=q.n/\q.n<nh:=by
 unfold shB at h;rw[h5]at h;simp only[show ¬(5:Int)=0 by decide,show ¬(5:Int)=1 by decide,show ¬(5:Int)=2 by decide,show ¬(5:Int)=3 by decide,show ¬(5:Int)=4 by decide,Nc,Nf,N4,N6]at h;exact⟨h.1.1.1.2,h.1.1.2⟩
theorem pd_ok {f:Fl} (h:Sm f) (h0:Qa f=0):PdOK f:=by
 have hc:=W6 h0;have hs:=h.sz;have hv:=h.vars;have hn:=h.nodes;have hsh:=X2U f.body true hc.2.2.2.1;have hfm:=X21 f.body true hc.2.2.2.1;refine⟨fun x hx=>⟨?_,fun a q ha hq h5=>?_⟩,fun q hq=>?_,fun q hq=>?_,rc_rl h,fun q hq=>?_⟩
 .rcases(X88 (X0z h0) x hx).ha with h1|⟨t,h1,h2⟩
  .exact .inl (by omega)
  exact .inr ⟨t,h1,by rw[Q6];exact h2⟩
 .obtain⟨last,h1⟩:=hsh q (N3 hq);have:=sh_hat' h1 h5;omega
 .have h1:=X1S f.body q hq;exact⟨X7t q.term (hfm q hq),by omega,fun v hv=>by have:=X7k q.term (hfm q hq) v hv;omega⟩
 .have h1:=X3c f.hats [] hc.2.2.1 q hq;have h2:=X1l hq;exact⟨X7t q.term h1,by omega,fun v hv=>by have:=X7k q.term h1 v hv;omega⟩
 have h1:=X1S f.body q hq;omega
def okDp (N:Int) (e:Dp):Prop:=(0<=e.f/\e.f<=N)/\(0<=e.t/\e.t<=N)/\(e.k=0\/e.k=1\/e.k=2)
theorem ctL_rng {N:Int}:∀l:List St,∀(c:Int) (p:Nat),c<N->(p:Int)+szL l<=N->∀e∈ctL l c p,okDp N e:=by
 apply St.lind
 .intro c p _ _ e he;simp[ctL]at he
 intro o c' w q t a b bs l ia ib il c p hc hp e he;simp only[szL,szS]at hp;simp only[ctL,Ng]at he;rcases he with he|he|he|he|he
 .unfold ctE at he;split at he
  .rw[Nk.1 he];exact⟨⟨by assumption,by simp only;omega⟩,⟨by simp only;omega,by simp only;omega⟩,.inr (.inl rfl)⟩
  cases he
 .split at he
  .rw[Nk.1 he];exact⟨⟨by simp only;omega,by simp only;omega⟩,⟨by simp only;omega,by simp only;omega⟩,.inr (.inl rfl)⟩
  cases he
 .exact ia p (p+1) (by omega) (by omega) e he
 .exact ib p (p+1+szL a) (by omega) (by omega) e he
 exact il c _ hc (by omega) e he
theorem Xbt {f:Fl} (h:Sm f) (h0:Qa f=0):∀e∈X2J f,okDp (((flL f.body).length:Int)+f.vars.length) e:=by
 have hc:=W6 h0;have hfm:=X21 f.body true hc.2.2.2.1;have hhm:=X3c f.hats [] hc.2.2.1;have hl:=Q6 f.body;intro e he;unfold X2J at he;rw[WL,WL,WL]at he;rcases he with(((he|he)|he)|he)
 .cases he
 .exact ctL_rng f.body (-1) 0 (by omega) (by omega) e he
 .unfold X5y at he;obtain⟨⟨x,r⟩,hp,he⟩:=List.mem_flatMap.1 he;obtain⟨n,hx,hr⟩:=X5e.1 hp;simp only at hx hr he;unfold X3P at he;split at he
  .cases he
  rename_i hxa;split at he
  .rename_i s hs;have ha:=(N5.1 hs).1;split at he
   .split at he
    .rename_i hh hhe;obtain⟨v,hv,rfl⟩:=X8e.1 he;have:=X7k _ (hhm hh (N3 hhe)) v hv;exact⟨⟨by simp only;omega,by simp only;omega⟩,⟨by simp only;omega,by simp only;omega⟩,.inr (.inr rfl)⟩
    cases he
   obtain⟨v,hv,he⟩:=List.mem_flatMap.1 he;obtain⟨d,hd,rfl⟩:=NF.1 he;have hd:=(NR.1 hd).1;unfold rcL at hr;obtain⟨k,hk1,hk2⟩:=NF.1 (N3 hr);rw[<-hk2]at hd;have:=List.mem_range.1 (NR.1 hd).1;exact⟨⟨by simp only;omega,by simp only;omega⟩,⟨by simp only;omega,by simp only;omega⟩,.inl rfl⟩
  cases he
 split at he
 .cases he
 obtain⟨i,s,hs,_,rfl⟩:=(Xbs _ _ _ _).1 he;have ha:=(N5.1 hs).1;exact⟨⟨by simp only;omega,by simp only;omega⟩,⟨by simp only;omega,by simp only;omega⟩,.inr (.inl rfl)⟩
theorem dp_few {N:Nat} {l:List Dp} (hn:l.Nodup) (h:∀e∈l,okDp N e):l.length<=(N+1)*(N+1)*3:=by
 have h1:Nb ((N+1)*(N+1)*3) (l.map fun e=>(e.f.toNat*(N+1)+e.t.toNat)*3+e.k.toNat):=by
  refine⟨?_,?_⟩
  .rw[List.nodup_iff_pairwise_ne,List.pairwise_map];refine List.Pairwise.imp_of_mem ?_ (List.nodup_iff_pairwise_ne.1 hn);intro a b ha hb hab e;obtain⟨⟨a1,a2⟩,⟨a3,a4⟩,a5⟩:=h a ha;obtain⟨⟨b1,b2⟩,⟨b3,b4⟩,b5⟩:=h b hb;apply hab;have e1:a.k.toNat=b.k.toNat:=by omega
   have e2:a.f.toNat*(N+1)+a.t.toNat=b.f.toNat*(N+1)+b.t.toNat:=by omega
   have e3:a.t.toNat=b.t.toNat:=by
    have:=congrArg (· %(N+1)) e2;simp only[Nat.mul_add_mod_self_right]at this
    rwa [Nat.mod_eq_of_lt (by omega),Nat.mod_eq_of_lt (by omega)]at this
   have e4:a.f.toNat=b.f.toNat:=Nat.eq_of_mul_eq_mul_right (show 0<N+1 by omega) (by omega);obtain⟨af,at_,ak⟩:=a;obtain⟨bf,bt,bk⟩:=b;simp only at*;have:af=bf:=by omega
   have:at_=bt:=by omega
   have:ak=bk:=by omega
   subst_vars
   rfl
  intro d hd;obtain⟨e,he,rfl⟩:=NF.1 hd;obtain⟨⟨a1,a2⟩,⟨a3,a4⟩,a5⟩:=h e he;have h3:e.f.toNat*(N+1)<=N*(N+1):=NZ _ (by omega);have h4:(N+1)*(N+1)=N*(N+1)+(N+1):=Nat.succ_mul ..;omega
 have:=h1.len
 rwa [NO]at this
theorem Xb8 {f:Fl} (h:Sm f) (h0:Qa f=0):(X2J f).length<=20000000:=by
 have h1:=dp_few (N:=(flL f.body).length+f.vars.length) (X2V f) (by have:=Xbt h h0;simpa using this);have hs:=h.sz;have hv:=h.vars;have hl:=Q6 f.body;have h2:((flL f.body).length+f.vars.length+1)*((flL f.body).length+f.vars.length+1)<=2001*2001:=Nat.mul_le_mul (by omega) (by omega);omega
theorem X1I (f:Fl) (h:Sm f) (d:Nat):Con prog 23 false [aF f] (bdR f) none d:=Xas f h (fun h0=>⟨pd_ok h h0,Xb8 h h0⟩) d
def depQ (f:Fl):List Dp:=edL (flL f.body).length f.hats f.body (-1) 0 (D0 (flL f.body).length f.vars.length)++(if X3G f=true then [] else tmP Zs (((flL f.body).length:Int)+f.vars.length) (flL f.body))
theorem depP_ref {f:Fl} (h:Sm f) (h0:Qa f=0) (x:Dp):x∈X2J f↔x∈depQ f:=by
 have hvf:∀q∈flL f.body,∀v∈tmV q.term,0<=v:=fun q hq v hv=>((pd_ok h h0).st q hq).2.2 v hv |>.1;have h1:=prog_ref h h0 hvf x;unfold X2J depQ;rw[WL,WL,WL,Ng,<-h1,Ng];simp only[De,false_or]
theorem X8E {f:Fl} (h:Sm f) (h0:Qa f=0):QU (X2J f)=QU (depQ f):=X25 (depP_ref h h0)
def dsB (m l:List Dp):Bool:=(m.all fun x=>decide (x∈l))&&(l.all fun x=>decide (x∈m))
def ascB:List Dp->Bool
 |a::b::l=>dpB a b&&ascB (b::l)
 |_=>true
theorem dpB_tr {a b c:Dp} (h1:dpB a b=true) (h2:dpB b c=true):dpB a c=true:=by
 rw[Zb]at*;omega
theorem XbM:∀{l:List Dp},ascB l=true->l.Pairwise (fun a b=>dpB a b=true)
 |[],_=>.nil
 |[a],_=>by simp
 | a::b::l,h=>by
   simp only[ascB,N4]at h;have ih:=XbM h.2;refine .cons (fun c hc=>?_) ih;rcases Nh.1 hc with rfl|hc
   .exact h.1
   exact dpB_tr h.1 ((NQ.1 ih).1 c hc)
theorem XcM {l m:List Dp} (h1:ascB m=true) (h2:dsB m l=true):QU l=m:=by
 unfold dsB at h2;simp only[N4,Nm,N6]at h2;exact(X9u (XbM h1) fun x=>⟨h2.1 x,h2.2 x⟩).symm
def ordB (P:List (Int×Int)) (R:List Int):List Int->List Int->Bool
 |_,[]=>true
 |s,x::l=>(decide (x∈R)||P.any fun p=>decide (p.2=x)&&decide (p.1∈s))&&ordB P R (x::s) l
theorem ord_cz {P:List (Int×Int)} {R:List Int}:∀(o s:List Int),ordB P R s o=true->(∀x∈s,Cz P (fun x=>x∈R) x)->∀x∈o,Cz P (fun x=>x∈R) x
 |[],_,_,_,x,hx=>by cases hx
 | y::o,s,h,hs,x,hx=>by
   simp only[ordB,N4,Nl,N6,List.any_eq_true]at h
   have hy:Cz P (fun x=>x∈R) y:=by
    rcases h.1 with h1|⟨⟨a,b⟩,h1,h2,h3⟩
    .exact .base h1
    simp only at h2 h3;exact .step (h2▸h1) (hs a h3)
   rcases Nh.1 hx with rfl|hx
   .exact hy
   exact ord_cz o (y::s) h.2 (fun z hz=>by
    rcases Nh.1 hz with rfl|hz
    .exact hy
    exact hs z hz) x hx
theorem czL_run {P:List (Int×Int)} {R:List Int} {N:Nat} (o:List Int) (h1:ordB P R [] o=true) (h2:(R.all fun x=>decide (x∈o))=true) (h3:(P.all fun p=> !decide (p.1∈o)||decide (p.2∈o))=true):czL P R N=(List.range N).map fun n:Nat=>decide ((n:Int)∈o):=by
 refine(Xap (by simp) fun n hn=>?_).symm;rw[Np,List.getElem?_range hn];simp only[Option.map_some,Option.some.injEq,N6];simp only[Nm,Nl,Nw,Nj,N6]at h2 h3;refine⟨ord_cz o [] h1 (fun x hx=>by cases hx) n,fun hc=>?_⟩
 have key:∀{x:Int},Cz P (fun x=>x∈R) x->x∈o:=by
  intro x hx
  induction hx with
  |base hb=>exact h2 _ hb
  |step hab _ ih=>exact(h3 _ hab).resolve_left fun h=>h ih
 exact key hc
def rfT (n:Int):Tm:=⟨24,n,[]⟩
def exP:Fl:=⟨[⟨⟨#[120]⟩,1,0,1,0⟩,⟨⟨#[121]⟩,0,0,1,0⟩,⟨⟨#[122]⟩,0,0,1,0⟩],[⟨⟨#[104]⟩,0,1,rfT 0⟩],
 [.mk 0 0 1 0 (rfT 0) [] [] [],.mk 3 0 0 0 (rfT 1) [.mk 0 1 2 0 ⟨0,1,[]⟩ [] [] []] [] [],.mk 1 0 0 0 (rfT 2) [] [] [],.mk 5 0 1 0 ⟨0,0,[]⟩ [] [] [],.mk 1 0 0 0 (rfT 1) [] [] []]⟩
def exW:List Dp:=[⟨0,1,0⟩,⟨1,2,1⟩,⟨1,9,1⟩,⟨2,3,0⟩,⟨4,5,0⟩,⟨6,0,0⟩,⟨6,4,2⟩,⟨8,3,0⟩]
theorem X5S:Qa exP=0:=by
 simp only[exP,rfT,Qa,X17,sdL,WJ,ssC];kernel_rfl
theorem X9Y:Sm exP:=⟨by decide,by decide,by decide,by decide⟩
theorem X8d (a b:List Nat) (l:List Nat) (h:l.Pairwise (· < ·)) (ha:a.Pairwise (· < ·)) (hm:∀x,x∈l↔x∈a\/x∈b):X55 a b=l:=
 X5g (X9a b ha) h fun x=>by rw[X3u,hm]
theorem exP_q:depQ exP=[⟨6,0,0⟩,⟨0,1,0⟩,⟨1,2,1⟩,⟨2,3,0⟩,⟨8,3,0⟩,⟨6,4,2⟩,⟨4,5,0⟩,⟨1,9,1⟩]:=by
 have j1:XZ [[6],[0],[2]] [[6],[0],[8]]=[[6],[0],[2,8]]:=by
  simp only[XZ];rw[X8d [6] [6] [6] (by simp) (by simp) (by simp),X8d [0] [0] [0] (by simp) (by simp) (by simp),X8d [2] [8] [2,8] (by simp) (by simp) (by simp)]
 have e:edL 6 exP.hats exP.body (-1) 0 (D0 6 3)=[⟨6,0,0⟩,⟨0,1,0⟩,⟨1,2,1⟩]++edL 6 exP.hats (exP.body.drop 2) (-1) 3 (XZ [[6],[0],[2]] [[6],[0],[8]]):=by kernel_rfl
 have e2:edL 6 exP.hats (exP.body.drop 2) (-1) 3 [[6],[0],[2,8]]=[⟨2,3,0⟩,⟨8,3,0⟩,⟨6,4,2⟩,⟨4,5,0⟩]:=by kernel_rfl
 have e3:(if X3G exP=true then [] else tmP Zs (((flL exP.body).length:Int)+exP.vars.length) (flL exP.body))=[⟨1,9,1⟩]:=by kernel_rfl
 unfold depQ;rw[show(flL exP.body).length=6 from rfl,show exP.vars.length=3 from rfl]at*;rw[e,j1,e2,e3];rfl
theorem Xbj:QU (X2J exP)=exW:=by
 rw[X8E X9Y X5S];rw[exP_q];exact XcM (by kernel_rfl) (by kernel_rfl)
theorem exP_src:czL (prs true false exW) [5] 10=[false,false,false,false,true,true,false,false,false,false]:=by
 rw[czL_run [5,4] (by kernel_rfl) (by kernel_rfl) (by kernel_rfl)];kernel_rfl
end Go.Proofs.YtdajceakaakdoaaGreat
namespace Go.Proofs.YtdajceakaakdoaaGreat
open Go Go.Hl Go.Sort Go.Lib Go.Joins Go.Shelf
open Tryz(prog)
theorem X8h {F:Nat->Prop} {w:World} {x:Dp} {v:Value} (h:XI F noγ w (.agg [.c (iC x.f),.c (iC x.t),.c (iC x.k)]) v):v=.agg (dpE x).toArray:=by
 obtain⟨vs,rfl,hc⟩:=h;obtain⟨l⟩:=vs;obtain⟨hs,hc⟩:=hc
 match l,hs with
 | [a,b,c],_=>
   have e1:=hc 0 _ a rfl rfl;have e2:=hc 1 _ b rfl rfl;have e3:=hc 2 _ c rfl rfl;cases e1;cases e2;cases e3;rfl
theorem cmp_con (x y:Dp) (d:Nat):Con prog 61 true [.agg [.c (iC x.f),.c (iC x.t),.c (iC x.k)],.agg [.c (iC y.f),.c (iC y.t),.c (iC y.k)]] (.v (li (X4e x y))) none d:=by
 refine⟨by kernel_rfl,fun F w vs hF hsz hargs=>?_⟩;obtain⟨l⟩:=vs
 match l,hsz with
 | [v0,v1],_=>
   have a0:=X8h (hargs 0 _ v0 rfl rfl);have a1:=X8h (hargs 1 _ v1 rfl rfl);subst a0;subst a1;refine(X9S x y w).mono ?_;rintro e w' ⟨rfl,q,os',rfl⟩;exact⟨_,fun _=>False,noγ,rfl,⟨rfl,rfl,rfl,by show w.heap.size<=(w.heap++os').size;rw[Array.size_append];omega,fun j hj=>heap_grow_old (w.drewN q) os' (k:=j) hj⟩,fun b hb=>hb.elim,.lit _,fun o ho=>by cases ho⟩
def aPd (ns nv:Int) (E:List Dp):TV:=.agg [.c (iC ns),.c (iC nv),.c (.sl 3 (XG E))]
theorem lt_cmpD' (x y:Dp):decide (X4e x y<0)=dpB x y:=X2l x y
end Go.Proofs.YtdajceakaakdoaaGreat
namespace Go.Proofs.YtdajceakaakdoaaGreat
open Go Go.Hl
open Tryz(prog)
def rngB (N:Int) (x:Dp):Bool:=(decide (0<=x.f)&&decide (x.f<=N))&&(decide (0<=x.t)&&decide (x.t<=N))
def kdB (x:Dp):Bool:=decide (x.k=0)||(decide (x.k=1)||decide (x.k=2))
def pvD (E:List Dp) (k:Nat):Option Dp:=if k=0 then none else E[k - 1]?
def ordF (p:Option Dp) (x:Dp):Bool:=match p with
 |some q=>dpB q x
 |none=>true
def chL (N:Int) (p:Option Dp):List Dp->Int
 |[]=>0
 |x::l=>if rngB N x=false then 3 else if kdB x=false then 1 else if ordF p x=false then 10 else chL N (some x) l
def hdB (ns nv:Int):Bool:=(decide (0<=ns)&&decide (ns<=1024))&&(decide (0<=nv)&&decide (nv<=64))
def chF (ns nv:Int) (E:List Dp):Int:=if hdB ns nv=false then 3 else chL (ns+nv) none E
theorem chL_at {N:Int} {E:List Dp} {k:Nat} {x:Dp} (hx:E[k]? =some x) (hd:E.drop k=x::E.drop (k+1)):chL N (pvD E k) (E.drop k)=if rngB N x=false then 3 else if kdB x=false then 1 else if ordF (pvD E k) x=false then 10 else chL N (pvD E (k+1)) (E.drop (k+1)):=by
 rw[hd,chL];have:pvD E (k+1)=some x:=by unfold pvD;rw[N7 (by omega)];simpa using hx
 rw[this]
theorem hd_in {ns nv:Int} (h:hdB ns nv=true):(0<=ns/\ns<=1024)/\(0<=nv/\nv<=64):=by
 unfold hdB at h;simpa using h
set_option maxHeartbeats 16000000 in
theorem chkP_con (ns nv:Int) (E:List Dp) (hl:E.length<=20000000) (d:Nat):Con prog 21 true [aPd ns nv E] (.v (li (chF ns nv E))) none d:=by
 unfold aPd chF;by_cases hh:hdB ns nv=true
 .rw [N7 (by rw[hh];decide)];obtain⟨⟨n0,n1⟩,v0,v1⟩:=hd_in hh;have hwN:IntKind.i64.wrap (ns+nv)=ns+nv:=X9;obtain⟨res,hres⟩:∃r,chL (ns+nv) none E=r:=⟨_,rfl⟩;rw[hres];clear hh;refine X6 Tryz.func21 ?_;simp only[Tryz.f21];refine X1 ?_;refine X0<|X0<|X2 ?_;refine(Xc rfl (fun h2=>?_) fun h2=>?_)
  .exfalso;simp at h2<;>omega
  (try simp only[BN]at h2);refine X1 ?_;refine X0<|X0<|X2 ?_;refine X3<|(Xd [1,3,30,31] (fun(y:Nat)=>[(32,.v (li y))]) (fun y=>[(1,.box [.c (iC ns),.c (iC nv),.c (.sl 3 (XG E))])]) (fun y=>y<=E.length/\chL (ns+nv) (pvD E y) (E.drop y)=res) (fun y=>E.length - y) (0:Nat) ⟨Nq _,hres⟩ ?_ ?_)
  .exact X4 (fun n=>n) []
  rintro y ⟨hy,hj⟩;simp only[upS,X5,Xy]
  try simp only[X5,KN,Nat.reduceBEq,Nf,Nc,ins,Nat.reduceLT]
  refine X1 ?_;refine X0<|(X8 rfl (fun h9=>Xb ?_) (fun h9=>?_))
  ·(try simp only[BN]at h9);have hlt:y<E.length:=by omega
   have hw1:=XE hlt (by omega);obtain⟨x,hx,hdr⟩:=Xu hlt;have hxe:=X02 hx;rw[chL_at hx hdr]at hj;clear hdr;obtain⟨xf,xt,xk⟩:=x;simp only[Dp.enc]at hxe;have hlt2:y+1<=E.length:=hlt;clear h9 hlt;refine X0<|X3<|X0<|X2 ?_;refine X3<|X0<|X2 ?_;refine(X8 rfl (fun h12=>?_) (fun h12=>?_))
   .try simp only[BN]at h12
    have hr:rngB (ns+nv) ⟨xf,xt,xk⟩=false:=by
     rw[<-Bool.not_eq_true];intro h;simp[rngB]at h h12;omega
    rw[Na hr]at hj;subst hj;refine X1 ?_;exact Xf
   try simp only[BN]at h12
   have hr:rngB (ns+nv) ⟨xf,xt,xk⟩=true:=by
    simp[rngB]at h12⊢;omega
   rw[N7 (by rw[hr];decide)]at hj;clear h12;refine X1 ?_;refine(X8 rfl (fun h16=>?_) (fun h16=>?_))
   .try simp only[BN]at h16
    have hr:kdB ⟨xf,xt,xk⟩=false:=by
     rw[<-Bool.not_eq_true];intro h;simp[kdB]at h h16;omega
    rw[Na hr]at hj;subst hj;refine X1 ?_;exact Xf
   try simp only[BN]at h16
   have hr:kdB ⟨xf,xt,xk⟩=true:=by
    simp[kdB]at h16⊢;omega
   rw[N7 (by rw[hr];decide)]at hj;clear h16;rcases y with _|k
   .have hw0:IntKind.i64.wrap 1=1:=by decide
    refine X0<|(X0Z [none] (by kernel_rfl) (by kernel_rfl) (by rfl) (by simp[*];first|exact⟨rfl,Iff.rfl⟩|exact⟨rfl,trivial⟩|rfl) ?_ ?_)
    .trivial
    refine(Xc rfl (fun h20=>?_) fun h20=>?_)
    ·(try simp only[BN]at h20);refine X1 ?_;exact Xf
    (try simp only[BN]at h20);rw[N7 (by simp[pvD,ordF])]at hj;refine X2 ?_;exact⟨1,⟨hlt2,hj⟩,by omega,X4 (fun n=>n) []⟩
   obtain⟨q,hq,hdq⟩:=Xu (show k<E.length by omega);have hqe:=X02 hq;have cq:=cmp_con q ⟨xf,xt,xk⟩;have hpv:pvD E (k+1)=some q:=hq;have hlq:=lt_cmpD' q ⟨xf,xt,xk⟩;rw[hpv]at hj;simp only[ordF,<-hlq]at hj;obtain⟨c,hc⟩:∃c,X4e q ⟨xf,xt,xk⟩=c:=⟨_,rfl⟩;rw[hc]at cq hj;obtain⟨qf,qt,qk⟩:=q;simp only[Dp.enc]at hqe cq;have hw2:IntKind.i64.wrap (((k+1:Nat):Int) - 1)=(k:Int):=by rw[X9 (by omega) (by omega)];omega
   have hk1:(0:Int)<(k:Int)+1:=by omega
   have hw4:IntKind.i64.wrap ((k:Int)+1+1)=(k:Int)+1+1:=X9;have hw3:IntKind.i64.wrap (k:Int)=(k:Int):=X9;clear hc hlq hpv hq hdq;refine X0<|(X0Z [some ⟨true,.v (li c),none⟩] (by kernel_rfl) (by kernel_rfl) (by rfl) (by simp[*];first|exact⟨rfl,Iff.rfl⟩|exact⟨rfl,trivial⟩|rfl) ?_ ?_)
   .first|exact cq _|simpa using cq _
   refine(Xc rfl (fun h20=>?_) fun h20=>?_)
   .try simp only[BN]at h20
    have hr:res=10:=by
     rw[<-hj,Na];simp at h20⊢;omega
    subst hr;refine X1 ?_;exact Xf
   (try simp only[BN]at h20);rw[N7 (by simp at h20⊢;omega)]at hj;refine X2 ?_;exact⟨k+1+1,⟨hlt2,hj⟩,by omega,X4 (fun n=>n) []⟩
  try simp only[BN]at h9
  have hr:res=0:=by
   rw[<-hj,List.drop_eq_nil_of_le (by omega),chL]
  subst hr;refine(Xg ?_);refine X1 ?_;exact Xf
 have hh:hdB ns nv=false:=by simpa using hh
 rw[Na hh]
 have hneg:¬((0<=ns/\ns<=1024)/\(0<=nv/\nv<=64)):=by
  intro h;have:hdB ns nv=true:=by unfold hdB;simpa using h
  rw[hh]at this;cases this
 refine X6 Tryz.func21 ?_;simp only[Tryz.f21];refine X1 ?_;refine X0<|X0<|X2 ?_;refine(Xc rfl (fun h2=>?_) fun h2=>?_)
 ·(try simp only[BN]at h2);refine X1 ?_;exact Xf
 exfalso;simp at h2<;>omega
def edgE (E:List Dp):List (List CD):=E.map fun x=>[iC x.f,iC x.t]
@[simp] theorem edgE_len (E:List Dp):(edgE E).length=E.length:=by simp[edgE]
@[simp] theorem edgE_nil:edgE []=[]:=rfl
def X0n (S:List (List Int)):List (Option (List (List CD))):=S.map fun l=>some (Xi l)
@[simp] theorem rowI_len (S:List (List Int)):(X0n S).length=S.length:=by simp[X0n]
theorem X9v {S:List (List Int)} {i:Nat} {l:List Int} (h:S[i]? =some l):(X0n S)[i]? =some (some (Xi l)):=by simp[X0n,h]
theorem X8Y (S:List (List Int)) (i:Nat) (l:List Int) (d:Int):(X0n S).set i (some (Xi l++[[iC d]]))=X0n (S.set i (l++[d])):=by
 simp only[X0n,List.map_set];congr 2;simp[Xi]
def nxM (N:Nat) (P:List (Int×Int)):List (List Int):=(List.range N).map fun n:Nat=>nxF P n
@[simp] theorem nxM_len (N:Nat) (P:List (Int×Int)):(nxM N P).length=N:=by simp[nxM]
theorem X7y {N n:Nat} (P:List (Int×Int)) (h:n<N):(nxM N P)[n]? =some (nxF P n):=by simp[nxM,h]
theorem Xbc {N a:Nat} (P:List (Int×Int)) (b:Int):(nxM N P).set a (nxF P a++[b])=nxM N (P++[((a:Int),b)]):=by
 apply NN;intro k;rw[NY];unfold nxM;simp only[NO,List.length_range,Np];by_cases e:a=k
 .subst e;by_cases h:a<N
  .simp[h,X9y]
  simp[h]
 rw[N7 e];by_cases h:k<N
 .rw[List.getElem?_range h];simp only[Option.map_some,Option.some.injEq];rw[X9y,N7 (by omega)]
 rw[Nx (by simpa using h)];rfl
theorem nxM_nil (N:Nat):X0n (nxM N [])=List.replicate N (some []):=by
 apply NN;intro k;simp only[X0n,nxM,Np,D7];by_cases h:k<N
 .simp[h,nxF,Xi]
 simp[h]
theorem take_prs {E:List Dp} {y:Nat} {x:Dp} (hx:E[y]? =some x) (back rel:Bool):prs back rel (E.take (y+1))=prs back rel (E.take y)++(if(rel||decide (x.k≠2))=true then [if back=true then(x.t,x.f)else(x.f,x.t)] else []):=by
 rw[List.take_add_one,hx];exact prs_snoc ..
def X4Y (S:List (List Int)):List (List CD):=S.map fun l=>[.sl 1 (Xi l)]
@[simp] theorem encII_len (S:List (List Int)):(X4Y S).length=S.length:=by simp[X4Y]
theorem Xc3 {S:List (List Int)} {i:Nat} {l:List Int} (h:S[i]? =some l):(X4Y S)[i]? =some [.sl 1 (Xi l)]:=by simp[X4Y,h]
theorem rowI_mat (S:List (List Int)):(X0n S).map (fun r=>[X57 1 r])=X4Y S:=by simp[X0n,X4Y,X57]
theorem snoc_of {l:List Int} (h:l≠[]):∃W x,l=W++[x]:=⟨l.dropLast,l.getLast h,(List.dropLast_concat_getLast h).symm⟩
set_option maxHeartbeats 64000000 in
theorem X9U (ns nv:Int) (E:List Dp) (nodes:List Int) (back rel:Bool) (g:FuncId) (N:Nat) (hN:ns+nv+1=N) (n0:0<=ns) (v0:0<=nv) (hN2:N<=100000) (hl:E.length<=20000000) (hE:∀e∈E,(0<=e.f/\e.f<N)/\(0<=e.t/\e.t<N)) (hnl:nodes.length<=1000000) (hR:∀x∈nodes,0<=x/\x<N)
  (hg:∀(k:Int) d,Con prog g true [li k] (.v (lb (rel||decide (k≠2)))) none d) (d:Nat):Con prog 43 false [aPd ns nv E,lI nodes,lb back,.one (.fn g [])] (.v (lBl (czL (prs back rel E) nodes N))) none d:=by
 have hP:=prs_in (back:=back) (rel:=rel) hE;have hPl:=X7D back rel E;have hdone:=fun S=>Wk.done (S:=S) hP hR;have hinit:=Wk.init (P:=prs back rel E) hR;obtain⟨res,hres⟩:∃r,czL (prs back rel E) nodes N=r:=⟨_,rfl⟩;simp only[hres]at hdone⊢;clear hres;have hw1:IntKind.i64.wrap (ns+nv)=ns+nv:=X9;have hw2:IntKind.i64.wrap (ns+nv+1)=N:=by rw[hN];exact X9
 have hwN:IntKind.i64.wrap (N:Int)=N:=X9;have ccl:=X5X nodes (by omega);have hbig:(8:Int)*N<=281474976710656:=by omega
 have hbig2:(N:Int)<=281474976710656:=by omega
 have hbig3:(24:Int)*N<=281474976710656:=by omega
 have hmx:N<=maxLen:=by unfold maxLen;omega
 have hnil:=nxM_nil N;have hrep:=XcK N;unfold aPd;refine X6 Tryz.func43 ?_;simp only[Tryz.f43];refine X1 ?_;refine X1 ?_;refine XB (XaX 21 3 1 (by decide) (by decide) rfl rfl rfl) ?_;refine XB (le_matE 21 900001 rfl rfl) ?_;refine XB (s':=⟨⟨95,none⟩,[(1,.v (.one (.c (.sl 1 (Xi nodes))))),(2,.v (lb back)),(3,.v (.one (.fn g []))),(4,.v (.one (.at_ 4 0))),(9,.v (.one (.own 900001)))],[(4,.box [.c (iC ns),.c (iC nv),.c (.sl 3 (XG E))]),(900001,.mat 29 3 1 (X0n (nxM N (prs back rel (E.take 0)))))]⟩) (Xl (fun n=>n) [] rfl (by simp[W9,RV.mv,TV.mv,CV.mv]) (by simp[W9,Ob.mv,CV.mv,ins,del,prs,hnil]) (by simp)) ?_;refine X0<|X0<|X2 ?_;refine X3<|(Xd [1,2,3,9,23,24] (fun(y:Nat)=>[(25,.v (li y)),(9,.v (.one (.own 900001)))]) (fun y=>[(900001,.mat 29 3 1 (X0n (nxM N (prs back rel (E.take y)))))]) (fun y=>y<=E.length) (fun y=>E.length - y) (0:Nat) (Nq _) ?_ ?_)
 .exact X4 (fun n=>n) []
 rintro y hy;simp only[upS,X5,Xy]
 try simp only[X5,KN,Nat.reduceBEq,Nf,Nc,ins,Nat.reduceLT]
 refine X1 ?_;refine X0<|(X8 rfl (fun h5=>Xb ?_) (fun h5=>?_))
 ·(try simp only[BN]at h5);have hlt:y<E.length:=by omega
  have hw3:=XE hlt (by omega);obtain⟨x,hx,_⟩:=Xu hlt;have hxe:=X02 hx;have htp:=take_prs hx back rel;obtain⟨⟨f0,f1⟩,t0,t1⟩:=hE x (N3 hx);obtain⟨xf,xt,xk⟩:=x;simp only at f0 f1 t0 t1;obtain⟨f,rfl⟩:∃f:Nat,xf=f:=⟨xf.toNat,by omega⟩;obtain⟨t,rfl⟩:∃t:Nat,xt=t:=⟨xt.toNat,by omega⟩;simp only[Dp.enc]at hxe;simp only at htp;have hlt2:y+1<=E.length:=hlt;clear h5 hlt;refine X0<|X3<|X0<|X2 ?_;refine X0<|X0<|(Xo [⟨true,.v (lb (rel||decide (xk≠2))),none⟩] ?_ ?_)
  .first|exact hg xk _|exact trivial|simpa[*]using hg xk _
  refine(Xc rfl (fun h8=>?_) fun h8=>?_)
  ·(try simp only[BN]at h8);have hu:(rel||decide (xk≠2))=false:=by simpa using h8
   rw[hu]at htp;simp only[Nz,Nc,Dq]at htp;clear h8 hu;refine(Xg ?_);refine X2 ?_;exact⟨y+1,hlt2,by omega,X4 (fun n=>n) []⟩
  try simp only[BN]at h8
  have hu:(rel||decide (xk≠2))=true:=by
   rcases Bool.eq_false_or_eq_true (rel||decide (xk≠2))with h|h
   .exact h
   exfalso;simp at h h8;rcases h8 with e|e
   .rw[h.1]at e;cases e
   exact e h.2
  rw[hu]at htp;simp only[Nf]at htp;clear h8 hu;refine X1 ?_;refine(X8 rfl (fun h12=>?_) (fun h12=>?_))
  ·(try simp only[BN]at h12);have hb:back=true:=by simpa using h12
   subst hb;simp only[Nf]at htp;have hrg:=X9v (X7y (prs true rel (E.take y)) (show t<N by omega));have hrs:=X8Y (nxM N (prs true rel (E.take y))) t (nxF (prs true rel (E.take y)) t) f;rw[Xbc,<-htp]at hrs;have ht1:t+1<=(X0n (nxM N (prs true rel (E.take y)))).length:=by simp;omega
   have hroom:W4 ((nxF (prs true rel (E.take y)) t).length+1) 8:=by
    have h1:=X3r (prs true rel (E.take y)) t;have h2:=X7D true rel (E.take y);have h3:(E.take y).length<=E.length:=by simp;omega
    exact⟨by unfold maxLen;omega,by omega⟩
   clear h12;refine XB (s':=⟨⟨95,none⟩,[(1,.v (.one (.c (.sl 1 (Xi nodes))))),(2,.v (lb true)),(3,.v (.one (.fn g []))),(9,.v (.one (.own 900001))),(11,.v (.one (.at_ 11 0))),(23,.v (.one (.c (.sl 3 (XG E))))),(24,.v (li E.length)),(25,.v (li y))],[(11,.box [.c (iC f),.c (iC t),.c (iC xk)]),(900001,.mat 29 3 1 (X0n (nxM N (prs true rel (E.take y)))))]⟩) (Xl (fun n=>n) [] rfl (by simp) (by simp) (by simp)) ?_;refine(rg114_13 (Xi nodes) (XG E) E.length g (X0n (nxM N (prs true rel (E.take y)))) (Xi (nxF (prs true rel (E.take y)) t)) y f t xk hrg ht1 (by simpa using hroom) ?_);refine XB (s':=⟨⟨95,none⟩,[(1,.v (.one (.c (.sl 1 (Xi nodes))))),(2,.v (lb true)),(3,.v (.one (.fn g []))),(9,.v (.one (.own 900001))),(23,.v (.one (.c (.sl 3 (XG E))))),(24,.v (li E.length)),(25,.v (li y))],[(900001,.mat 29 3 1 (X0n (nxM N (prs true rel (E.take (y+1))))))]⟩) (Xl (fun n=>if n=900001 then 46 else n) [] rfl (by simp[QK,trS,W9,RV.mv,TV.mv,CV.mv,ins]) (by simp[W9,Ob.mv,CV.mv,hrs,del,ins]) (by simp)) ?_;refine X2 ?_;exact⟨y+1,hlt2,by omega,X4 (fun n=>n) []⟩
  (try simp only[BN]at h12);have hb:back=false:=by simpa using h12
  subst hb;simp only[Nz,Nc]at htp;have hrg:=X9v (X7y (prs false rel (E.take y)) (show f<N by omega));have hrs:=X8Y (nxM N (prs false rel (E.take y))) f (nxF (prs false rel (E.take y)) f) t;rw[Xbc,<-htp]at hrs;have ht1:f+1<=(X0n (nxM N (prs false rel (E.take y)))).length:=by simp;omega
  have hroom:W4 ((nxF (prs false rel (E.take y)) f).length+1) 8:=by
   have h1:=X3r (prs false rel (E.take y)) f;have h2:=X7D false rel (E.take y);have h3:(E.take y).length<=E.length:=by simp;omega
   exact⟨by unfold maxLen;omega,by omega⟩
  clear h12;refine XB (s':=⟨⟨95,none⟩,[(1,.v (.one (.c (.sl 1 (Xi nodes))))),(2,.v (lb false)),(3,.v (.one (.fn g []))),(9,.v (.one (.own 900001))),(11,.v (.one (.at_ 11 0))),(23,.v (.one (.c (.sl 3 (XG E))))),(24,.v (li E.length)),(25,.v (li y))],[(11,.box [.c (iC f),.c (iC t),.c (iC xk)]),(900001,.mat 29 3 1 (X0n (nxM N (prs false rel (E.take y)))))]⟩) (Xl (fun n=>n) [] rfl (by simp) (by simp) (by simp)) ?_;refine(rg114_16 (Xi nodes) (XG E) E.length g (X0n (nxM N (prs false rel (E.take y)))) (Xi (nxF (prs false rel (E.take y)) f)) y f t xk hrg ht1 (by simpa using hroom) ?_);refine XB (s':=⟨⟨95,none⟩,[(1,.v (.one (.c (.sl 1 (Xi nodes))))),(2,.v (lb false)),(3,.v (.one (.fn g []))),(9,.v (.one (.own 900001))),(23,.v (.one (.c (.sl 3 (XG E))))),(24,.v (li E.length)),(25,.v (li y))],[(900001,.mat 29 3 1 (X0n (nxM N (prs false rel (E.take (y+1))))))]⟩) (Xl (fun n=>if n=900001 then 59 else n) [] rfl (by simp[QK,trS,W9,RV.mv,TV.mv,CV.mv,ins]) (by simp[W9,Ob.mv,CV.mv,hrs,del,ins]) (by simp)) ?_;refine X2 ?_;exact⟨y+1,hlt2,by omega,X4 (fun n=>n) []⟩
 (try simp only[BN]at h5);have hyl:y=E.length:=by omega
 subst hyl;have hte:E.take E.length=E:=List.take_length;rw[hte];clear h5;obtain⟨P,hPP⟩:∃p,prs back rel E=p:=⟨_,rfl⟩;rw[hPP]at hP hPl hdone hinit⊢;have hmat:=rowI_mat (nxM N P);clear hPP hte;refine(Xg ?_);refine XB (le_frzM 900001 rfl) ?_;refine XB (s':=⟨⟨95,none⟩,[(1,.v (.one (.c (.sl 1 (Xi nodes))))),(9,.v (.one (.c (.sl 1 (X4Y (nxM N P))))))],[]⟩) (Xl (fun n=>n) [] rfl (by simp[HS.frz,X0n,X4Y]) (by simp[HS.frz]) (by simp)) ?_;refine X1 ?_;refine Xk [⟨false,.v (.one (.own 66)),some (.row 3 1 (Xi nodes))⟩] ?_ ?_
 .first|exact ccl _ (by decide)|exact trivial|simpa[*]using ccl _ (by decide)
 refine X0<|X3<|(Xd [9,12] (fun(y:List Bool×List Int)=>[(13,.v (.one (.own 1013)))]) (fun y=>[(64,.row 4 1 (X1B y.1)),(1013,.row 3 1 (Xi y.2))]) (fun y=>Wk N P nodes y.1 y.2) (fun y=>cfS y.1*(P.length+1)+y.2.length) (List.replicate N false,nodes) hinit ?_ ?_)
 .exact X4 (fun n=>if n=1013 then 66 else n) []
 rintro⟨S,W0⟩ hj;simp only[upS,X5,Xy]
 try simp only[X5,KN,Nat.reduceBEq,Nf,Nc,ins,Nat.reduceLT]
 simp only at hj;have hbd:=hj.bd
 have hWl:W0.length<=3000000000000:=by
  have h1:N*(P.length+1)<=100000*20000001:=Nat.mul_le_mul hN2 (by omega);omega
 clear hbd;refine X0<|X0<|X2 ?_;refine(X8 rfl (fun h23=>Xb ?_) (fun h23=>?_))
 ·(try simp only[BN]at h23);obtain⟨W,x,rfl⟩:=snoc_of (l:=W0) (by rintro rfl;simp at h23);obtain⟨⟨x0,x1⟩,_⟩:=hj.wk x (by simp);obtain⟨k,rfl⟩:∃k:Nat,x=k:=⟨x.toNat,by omega⟩;have hkN:k<N:=by omega
  have hSl:=hj.len;obtain⟨b,hb,_⟩:=Xu (show k<S.length by omega);have hbe:=X4z hb;have hwx:(Xi (W++[(k:Int)]))[W.length]? =some [iC k]:=by simp[Xi]
  have hwl:(Xi (W++[(k:Int)])).length=W.length+1:=by simp
  have hwt:(Xi (W++[(k:Int)])).take W.length=Xi W:=by simp[Xi]
  have hw4:IntKind.i64.wrap ((W.length:Int)+1 - 1)=W.length:=by rw[N9]at hWl;simp only[List.length_singleton]at hWl;rw[X9 (by omega) (by omega)];omega
  have hw5:IntKind.i64.wrap (W.length:Int)=W.length:=by rw[N9]at hWl;simp only[List.length_singleton]at hWl;exact X9
  have hroomW:W4 (W.length+(nxF P k).length) 8:=by
   have h1:=X3r P k;rw[N9]at hWl;simp only[List.length_singleton]at hWl;exact⟨by unfold maxLen;omega,by omega⟩
  have hne:=Xc3 (X7y P hkN);have hset:=Xc7 S k true;clear h23 hkN hSl x1;refine X3<|X0<|X2 ?_;refine X0<|(Xw ?_);refine RunsN.cutE 4 [] (by simp[*];rfl) trivial (le_refl _) ?_;refine RunsN.cutR (l:=0) (hi:=W.length) rfl rfl rfl rfl rfl rfl rfl rfl rfl rfl rfl (by simp[X0Q, *]) (Nq _) (by simp) ?_;refine RunsN.doneE [] (by simp[*];rfl) trivial ?_;refine X0<|X0<|X2 ?_;refine(Xc rfl (fun h27=>?_) fun h27=>?_)
  ·(try simp only[BN]at h27);have hbt:b=true:=by simpa using h27
   subst hbt;have hj2:=hj.skip (by simpa using hb);have hlt3:cfS S*(P.length+1)+W.length<cfS S*(P.length+1)+(W++[(k:Int)]).length:=by simp
   clear hj;refine(Xg ?_);exact⟨(S,W),hj2,hlt3,X4 (fun n=>if n=1013 then 80 else n) []⟩
  (try simp only[BN]at h27);have hbt:b=false:=by simpa using h27
  subst hbt;have hb2:S[(k:Int).toNat]? =some false:=by simpa using hb
  have hj2:=hj.add hP hb2;have hlt3:=Wk.lt (N:=N) (R:=nodes) (P:=P) (W:=W) hb2;simp only[Int.toNat_natCast]at hj2 hlt3;clear hj;refine X1 ?_;refine X2 ?_;exact⟨(S.set k true,W++nxF P k),hj2,hlt3,X4 (fun n=>if n=1013 then 93 else n) []⟩
 try simp only[BN]at h23
 have hW0:W0=[]:=by
  rcases W0 with _|⟨a,W0⟩
  .rfl
  simp at h23<;>omega
 subst hW0;have hS:=hdone S hj;rw[hS];refine(Xg ?_);refine XB (Qs 64 rfl) ?_;refine X1 ?_;exact Xf
theorem Xao (k:Int) (d:Nat):Con prog 44 true [li k] (.v (lb (false||decide (k≠2)))) none d:=by
 refine X6 Tryz.func44 ?_;simp only[Tryz.f44];refine X1 ?_;refine X1 ?_;exact Xf
def fdC:Option St->CD
 |none=>.lit (.pointer none)
 |some s=>.ptr s.enc
def fdO (o:Option St) (fd:Option St):Option St:=match o with|some s=>some s|none=>fd
theorem fd_step (s:St) (l:List St) (i a:Int) (fd:Option St) (h:0<=a):
  fdO (Zr (s::l) (i - a)) fd=fdO (Zr l (i - (a+1+szL s.then_+szL s.else_))) (fdO (Zr s.else_ (i - (a+1+szL s.then_))) (fdO (Zr s.then_ (i - (a+1))) (if a=i then some s else fd))):=by
 obtain⟨d,c,v,n,t,sa,sb,bs⟩:=s;simp only[St.then_,St.else_];rw[X0G,show i - (a+1)=i - a - 1 by omega,show i - (a+1+(szL sa:Int))=i - a - 1 - szL sa by omega,show i - (a+1+(szL sa:Int)+szL sb)=i - a - 1 - szL sa - szL sb by omega];obtain⟨j,hj⟩:∃j,i - a=j:=⟨_,rfl⟩;rw[hj];by_cases h0:j=0
 .rw[Na h0,Na (by omega),ZJ sa _ (by omega),ZJ sb _ (by omega),ZJ l _ (by omega)];rfl
 rw[N7 h0,N7 (by omega)];cases ha:Zr sa (j - 1)with
 | some x=>
   have:j - 1<szL sa:=by
    rcases Int.lt_or_le (j - 1) (szL sa)with h|h
    .exact h
    rw[X0v sa _ h]at ha;cases ha
   rw[ZJ sb _ (by omega),ZJ l _ (by omega)];rfl
 | none=>
   cases hb:Zr sb (j - 1 - szL sa)with
   | some x=>
     have:j - 1 - szL sa<szL sb:=by
      rcases Int.lt_or_le (j - 1 - szL sa) (szL sb)with h|h
      .exact h
      rw[X0v sb _ h]at hb;cases hb
     rw[ZJ l _ (by omega)];rfl
   |none=>rfl
def atO (i a:Int) (fd:CD):List (Nat×Ob):=[(1000000,.box [.c (iC a)]),(1000001,.box [.c (iC i)]),(1000002,.box [.c fd]),(1000003,.box [.fn 86 [(1000000,0),(1000001,0),(1000002,0),(1000003,0)]])]
theorem at1_con (i:Int) (l:List St):Xh l<=1000000->∀(a:Int) (fd:Option St),0<=a->a+szL l<=5000000->
  X46 prog 86 (atO i a (fdC fd)) [lS l,.one (.at_ 1000000 0),.one (.at_ 1000001 0),.one (.at_ 1000002 0),.one (.at_ 1000003 0)] (.tup []) (atO i (a+szL l) (fdC (fdO (Zr l (i - a)) fd))):=by
 revert l
 apply St.lists;intro l ih hn a fd h0 h1;have hlen:=Qm l;obtain⟨A,hA⟩:∃x,a+(szL l:Int)=x:=⟨_,rfl⟩;obtain⟨R,hR⟩:∃x,fdO (Zr l (i - a)) fd=x:=⟨_,rfl⟩;rw[hA]at h1⊢;rw[hR];simp only[atO]at ih⊢;refine X8L Tryz.func86 rfl (by kernel_rfl) (NH rfl) (pin_mk rfl) ?_;simp only[Tryz.f86];refine X1 ?_;refine X3<|(Xd [0,1,2,3,4,8] (fun(x:Nat×Int×Option St)=>[(9,.v (li x.1))]) (fun x=>[(1000000,.box [.c (iC x.2.1)]),(1000001,.box [.c (iC i)]),(1000002,.box [.c (fdC x.2.2)]),(1000003,.box [.fn 86 [(1000000,0),(1000001,0),(1000002,0),(1000003,0)]])]) (fun x=>x.1<=l.length/\x.2.1+(szL (l.drop x.1):Int)=A/\fdO (Zr (l.drop x.1) (i - x.2.1)) x.2.2=R/\0<=x.2.1) (fun x=>l.length - x.1) (0,a,fd) ⟨Nq _,hA,hR,h0⟩ ?_ ?_)
 .exact X4 (fun n=>n) []
 rintro⟨k,c,fc⟩ ⟨hk,hJ,hF,hc0⟩;simp only[upS,X5,Xy]
 try simp only[X5,KN,Nat.reduceBEq,Nf,Nc,ins,Nat.reduceLT]
 simp only at hk hJ hF hc0;clear hA hR h0;refine X1 ?_;refine X0<|(X8 rfl (fun h3=>Xb ?_) (fun h3=>?_))
 ·(try simp only[BN]at h3);have hlt:k<l.length:=by omega
  obtain⟨s,he,hd⟩:=Xu hlt;have hw1:=XE hlt (by omega);have hk1:k+1<=l.length:=hlt;have hmem:s∈l:=N3 he;have hnm:=Qz hmem;have he':=Q2 he;have iha:=(ih s hmem).1 (by omega);have ihb:=(ih s hmem).2 (by omega);rw[hd]at hJ hF;rw[fd_step s _ i c fc hc0]at hF;simp only[szL]at hJ;obtain⟨f1,hf1⟩:∃x,(if c=i then some s else fc)=x:=⟨_,rfl⟩;rw[hf1]at hF;have hlb:=X09 s.else_;have hla:=X09 s.then_
  have hss:szS s=1+szL s.then_+szL s.else_:=by
   obtain⟨sd,sc,sv,sn,t,sa,sb,sbs⟩:=s;simp only[szS,St.then_,St.else_]
  have iha:=iha (c+1) f1 (by omega) (by omega);have ihb:=ihb (c+1+szL s.then_) (fdO (Zr s.then_ (i - (c+1))) f1) (by omega) (by omega);obtain⟨f2,hf2⟩:∃x,fdO (Zr s.then_ (i - (c+1))) f1=x:=⟨_,rfl⟩;rw[hf2]at iha ihb hF;obtain⟨f3,hf3⟩:∃x,fdO (Zr s.else_ (i - (c+1+(szL s.then_:Int)))) f2=x:=⟨_,rfl⟩;rw[hf3]at ihb hF
  have hfs:c=i->fdC f1=.ptr s.enc:=by
   intro h;rw[<-hf1,Na h];rfl
  have hfn:¬c=i->f1=fc:=by
   intro h;rw[<-hf1,N7 h]
  obtain⟨sd,sc,sv,sn,⟨so,stn,sks⟩,sa,sb,sbs⟩:=s;simp only[St.then_,St.else_,St.term]at iha ihb hnm hF hla hlb;simp only[szS]at hJ;clear hss;simp only[St.enc,Tm.enc,List.cons_append,List.nil_append]at he' hfs;generalize szL sa=na at*;generalize szL sb=nb at*;have hwa:IntKind.i64.wrap (c+1)=c+1:=X9;clear hlt h3 ih hmem hd he hf1 hf2 hf3;refine X0<|X3<|X0<|X2 ?_;refine(XM [0,1,2,3,4,6,8,9] (fun(z:Unit)=>[]) (fun(z:Unit)=>[(1000000,.box [.c (iC c)]),(1000001,.box [.c (iC i)]),(1000002,.box [.c (fdC f1)]),(1000003,.box [.fn 86 [(1000000,0),(1000001,0),(1000002,0),(1000003,0)]])]) (fun(z:Unit)=>True) ?_ ?_)
  ·
   refine X1 ?_;refine(Xc rfl (fun h7=>?_) fun h7=>?_)
   ·(try simp only[BN]at h7);have hfs:=hfs (by simpa using h7);clear h7 hfn;refine X2 ?_;exact⟨(),trivial,X4 (fun n=>n) []⟩
   (try simp only[BN]at h7);have hfn:=hfn (by simpa using h7);clear h7 hfs;subst hfn;exact⟨(),trivial,X4 (fun n=>n) []⟩
  rintro⟨⟩ hz;simp only[upS,X5,Xy]
  try simp only[X5,KN,Nat.reduceBEq,Nf,Nc,ins,Nat.reduceLT]
  clear hfs hfn;refine X1 ?_;refine X0<|(X1X [] 6 [] (fun n=>n) (fun n=>n) (by kernel_rfl) (by kernel_rfl) (by rfl) (by kernel_rfl) (by rfl) (by simp[*,X4L,X4E,Qy];first|exact⟨rfl,Iff.rfl⟩|exact⟨rfl,trivial⟩|rfl) trivial (by rfl) (by simp;rfl) (QG (by simp) (by simp) (by simp) (by simp) (by simp)) iha (by rfl) ?_);refine(X1X [] 6 [] (fun n=>n) (fun n=>n) (by kernel_rfl) (by kernel_rfl) (by rfl) (by kernel_rfl) (by rfl) (by simp[*,X4L,X4E,Qy];first|exact⟨rfl,Iff.rfl⟩|exact⟨rfl,trivial⟩|rfl) trivial (by rfl) (by simp;rfl) (QG (by simp) (by simp) (by simp) (by simp) (by simp)) ihb (by rfl) ?_);refine X2 ?_;exact⟨(k+1,c+1+na+nb,f3),⟨hk1,by simp only;omega,hF,by simp only;omega⟩,by simp only;omega,X4 (fun n=>n) []⟩
 (try simp only[BN]at h3);have hkl:k=l.length:=by omega
 rw[hkl,Nt]at hJ hF;rw[X3Y]at hF;simp only[szL,fdO]at hJ hF;have hJ:c=A:=by omega
 subst hJ hF;refine(Xg ?_);exact⟨.inl rfl,HT_endS (by simp;rfl) (by simp[XL]) (by simp[*])⟩
theorem atP_con (f:Fl) (hn:Xh f.body<=1000000) (hb:Z6 f.body=true) (i:Int) (s:St) (hs:Zr f.body i=some s) (d:Nat):Con prog 45 false [aF f,li i] (.tup [aS s,li 0]) none d:=by
 have hsl:=X09 f.body
 have h0:0<=i:=by
  rcases Int.lt_or_le i 0 with h|h
  .rw[ZJ _ _ h]at hs;cases hs
  exact h
 have h1:i<szL f.body:=by
  rcases Int.lt_or_le i (szL f.body)with h|h
  .exact h
  rw[X0v _ _ h]at hs;cases hs
 obtain⟨s',e1,e2,e3,_⟩:=X3O f.body i h0 h1;rw[hs]at e1;cases e1;have cc:=XbT s (by omega) (e3 hb);have ca:=at1_con i f.body hn 0 none (by decide) (by omega);rw[Int.sub_zero,hs]at ca;obtain⟨A,hA⟩:∃x,(0:Int)+(szL f.body:Int)=x:=⟨_,rfl⟩;rw[hA]at ca;obtain⟨vars,hats,body⟩:=f;obtain⟨sd,sc,sv,sn,⟨so,stn,sks⟩,sa,sb,sbs⟩:=s;simp only[atO,fdC,fdO,St.enc,Tm.enc,List.cons_append,List.nil_append]at ca;simp only[aS,St.enc,Tm.enc,Ni,Nr,List.cons_append,List.nil_append]at cc;clear hsl h0 h1 e2 e3 hs hn hb hA;refine X6 Tryz.func45 ?_;simp only[Tryz.f45];simp only[aF,Fl.enc,aS,St.enc,Tm.enc,Ni,Nr,List.cons_append,List.nil_append];refine X1 ?_;refine X1 ?_;refine X1 ?_;refine X1 ?_;refine X1 ?_;refine X0<|(HT_runsS ?_);refine RunsS.cutE 3 [] (by simp[*];rfl) trivial (le_refl _) ?_;refine RunsS.call (fun n=>if n=1000000 then 8 else if n=1000001 then 3 else if n=1000002 then 6 else if n=1000003 then 7 else n) (fun n=>if n=1000000 then 8 else if n=1000001 then 3 else if n=1000002 then 6 else if n=1000003 then 7 else n) (by simp;rfl) (QG (by simp) (by simp) (by simp) (by simp) (by simp)) ca (by rfl) ?_;refine RunsS.doneE [] (by simp;rfl) trivial ?_;refine X0<|X0<|X2 ?_;refine(Xc rfl (fun h7=>?_) fun h7=>?_)
 .exact Bool.noConfusion h7
 (try simp only[BN]at h7);refine Xk [⟨false,.v (.agg [.c (iC sd),.c (iC sc),.c (iC sv),.c (iC sn),.c (iC so),.c (iC stn),.c (.sl 3 (XA sks)),.c (.sl 10 (X7 sa)),.c (.sl 10 (X7 sb)),.c (.sl 1 (Xi sbs))]),none⟩] ?_ ?_
 .first|exact cc _|exact trivial|simpa[*]using cc _
 exact Qe ⟨.inr rfl,_,le_refl _,⟨⟨_,by simp;rfl,by simp[XL]⟩,by simp,fun h=>by cases h⟩⟩
theorem X42 (d:Nat):Con prog 47 false [lI []] (.v (lI [])) none d:=by
 refine X6 Tryz.func47 ?_;simp only[Tryz.f47];refine X1 ?_;refine X0<|X0<|X2 ?_;refine(Xc rfl (fun h2=>?_) fun h2=>?_)
 ·(try simp only[BN]at h2);refine X1 ?_;exact Xf
 exact absurd h2 (by simp)
def kdV (vars:List Vr) (v:Nat):Bool:=match vars[v]? with
 |some x=>decide (x.kind≠0)
 |none=>false
def X4b (vars:List Vr) (S:List Bool) (n y:Nat):List Int:=((List.range y).filter fun v=>kdV vars v&&(S[n+v]?.getD false)).map fun v:Nat=>(v:Int)
theorem XcB (vars:List Vr) (S:List Bool) (n y:Nat):X4b vars S n (y+1)=X4b vars S n y++(if(kdV vars y&&(S[n+y]?.getD false))=true then [(y:Int)] else []):=by
 unfold X4b;rw[List.range_succ,Dl,Dr];congr 1;by_cases h:(kdV vars y&&(S[n+y]?.getD false))=true
 .simp only[List.filter_cons,h,Nf,List.filter_nil,Ni,Nr]
 simp only[List.filter_cons,h,Nc,List.filter_nil,Nr];simp
theorem srcI_len (vars:List Vr) (S:List Bool) (n y:Nat):(X4b vars S n y).length<=y:=by
 unfold X4b;rw[NO];exact Dx (DC _ _) (by simp)
@[simp] theorem srcI_zero (vars:List Vr) (S:List Bool) (n:Nat):X4b vars S n 0=[]:=rfl
def rlS (steps:List St) (S:List Bool) (i:Nat):Bool:=match steps[i]? with
 |some s=>decide (s.do_=5)&&(S[i]?.getD false)
 |none=>false
def stN (steps:List St) (i:Nat):Int:=match steps[i]? with
 |some s=>s.n
 |none=>0
def X49 (steps:List St) (S:List Bool) (y:Nat):List Int:=((List.range y).filter fun i=>rlS steps S i).map fun i=>stN steps i
theorem Xck (steps:List St) (S:List Bool) (y:Nat):X49 steps S (y+1)=X49 steps S y++(if rlS steps S y=true then [stN steps y] else []):=by
 unfold X49;rw[List.range_succ,Dl,Dr];congr 1;by_cases h:rlS steps S y=true
 .simp only[List.filter_cons,h,Nf,List.filter_nil,Ni,Nr]
 simp only[List.filter_cons,h,Nc,List.filter_nil,Nr];simp
@[simp] theorem hatS_zero (steps:List St) (S:List Bool):X49 steps S 0=[]:=rfl
theorem X9R (steps:List St) (S:List Bool) (y:Nat):(X49 steps S y).length<=y:=by
 unfold X49;rw[NO];exact Dx (DC _ _) (by simp)
def hatC (l:List Int):List Int:=Lib.compact (l.mergeSort fun x y=>decide (x<=y))
noncomputable def X1L (f:Fl):List Dp:=QU (X2J f)
noncomputable def dirZ (f:Fl) (node:Int):List Bool:=czL (prs true false (X1L f)) [node] ((flL f.body).length+f.vars.length+1)
noncomputable def srcR (f:Fl) (node:Int):RV:=
 .tup (if Qa f=0 then(if 0<=node/\node<=((flL f.body).length:Int)+f.vars.length then [lI (X4b f.vars (dirZ f node) (flL f.body).length f.vars.length),lI (hatC (X49 (flL f.body) (dirZ f node) (flL f.body).length)),li 0] else [.one (.c (.lit XY)),.one (.c (.lit XY)),li 3])
  else [.one (.c (.lit XY)),.one (.c (.lit XY)),li (Qa f)])
theorem X9V {f:Fl} (h:Sm f) (h0:Qa f=0):(X1L f).length<=20000000:=by
 unfold X1L;rw[X4s _ (X2V f)];exact Xb8 h h0
theorem X9z {f:Fl} (h:Sm f) (h0:Qa f=0):∀e∈X1L f,okDp (((flL f.body).length:Int)+f.vars.length) e:=fun e he=>Xbt h h0 e ((X0L _ _).1 he)
theorem depL_in {f:Fl} (h:Sm f) (h0:Qa f=0):∀e∈X1L f,(0<=e.f/\e.f<(((flL f.body).length+f.vars.length+1:Nat):Int))/\(0<=e.t/\e.t<(((flL f.body).length+f.vars.length+1:Nat):Int)):=by
 intro e he;have:=X9z h h0 e he;unfold okDp at this;omega
set_option maxHeartbeats 16000000 in
theorem X6t (f:Fl) (h:Sm f) (node:Int) (d:Nat):Con prog 14 false [aF f,li node] (srcR f node) none d:=by
 have cb:=X1I f h;have hat:=fun(i:Nat) (s:St) (hs:(flL f.body)[i]? =some s)=>atP_con f (by have:=h.nodes;omega) h.bnd i s (by rw[fnd_flL f.body i (by omega)];simpa using hs);unfold srcR;unfold bdR at cb;by_cases h0:Qa f=0
 .rw [h0]at cb;simp only[h0,Nf]at cb⊢;have hv:=h.vars;have hsz:=h.sz;have hfl:=Q6 f.body;have hEl:=X9V h h0;have hEi:=depL_in h h0;have cr:=fun hR=>X9U ((flL f.body).length:Int) f.vars.length (X1L f) [node] true false 44 ((flL f.body).length+f.vars.length+1) (by omega) (by omega) (by omega) (by omega) hEl hEi (by simp) hR Xao;have hZl:(dirZ f node).length=(flL f.body).length+f.vars.length+1:=X7r ..;have hdz:czL (prs true false (X1L f)) [node] ((flL f.body).length+f.vars.length+1)=dirZ f node:=rfl;rw[hdz]at cr;have hdl:QU (X2J f)=X1L f:=rfl;rw[hdl]at cb;clear hdz hdl hEi h h0;obtain⟨Z,hZ⟩:∃z,dirZ f node=z:=⟨_,rfl⟩;rw[hZ]at cr hZl⊢;obtain⟨E,hE⟩:∃z,X1L f=z:=⟨_,rfl⟩;rw[hE]at cr cb hEl;clear hZ hE;obtain⟨vars,hats,body⟩:=f;simp only[aF,Fl.enc,Ni,Nr]at*;obtain⟨st,hst⟩:∃z,flL body=z:=⟨_,rfl⟩;rw[hst]at hat cb cr hZl hfl⊢;obtain⟨n,hn⟩:∃n,st.length=n:=⟨_,rfl⟩;obtain⟨V,hV⟩:∃n,vars.length=n:=⟨_,rfl⟩;rw[hn]at cb cr hZl hfl⊢;rw[hV]at cb cr hZl hv⊢;have hn1:n<=1000:=by omega
  clear hfl hsz hst;have hw1:IntKind.i64.wrap ((n:Int)+V)=n+V:=X9;unfold aPd at cr;by_cases hr:0<=node/\node<=(n:Int)+V
  .simp only[hr,and_self,Nf];have cr:=cr (by intro x hx;rw[Nk.1 hx];omega);refine X6 Tryz.func14 ?_;simp only[Tryz.f14];refine X1 ?_;refine Xk [⟨false,.tup [.agg [.c (iC n),.c (iC V),.c (.sl 3 (XG E))],li 0],none⟩] ?_ ?_
   .first|exact cb _|exact trivial|simpa[*]using cb _
   refine X0<|X0<|X2 ?_;refine(Xc rfl (fun h3=>?_) fun h3=>?_)
   .exact absurd h3 (by simp)
   (try simp only[BN]at h3);refine X0<|X0<|X2 ?_;refine(Xc rfl (fun h7=>?_) fun h7=>?_)
   .exfalso;simp at h7<;>omega
   (try simp only[BN]at h7);have hnd:Xi [node]=[[iC node]]:=rfl;refine X0<|(X2g 3 [] [⟨false,.v (lBl Z),none⟩] (by simp[*];rfl) trivial (Qs 38 rfl) (by simp[*];first|exact⟨rfl,Iff.rfl⟩|exact⟨rfl,trivial⟩|rfl) ?_ ?_)
   .first|exact cr _|simpa using cr _
   refine X1 ?_;refine X0<|X0<|X2 ?_;refine X3<|(Xd [2,7,9,11,41,42] (fun(y:Nat)=>[(10,.v (.one (.own 1010))),(43,.v (li y))]) (fun y=>[(2,.box [.c (.sl 5 (Xm vars)),.c (.sl 6 (Xn hats)),.c (.sl 10 (X7 body))]),(7,.box [.c (iC n),.c (iC V),.c (.sl 3 (XG E))]),(1010,.row 3 1 (Xi (X4b vars Z n y)))]) (fun y=>y<=V) (fun y=>V - y) (0:Nat) (Nq _) ?_ ?_)
   .exact X4 (fun n=>n) [1010]
   rintro y hy;simp only[upS,X5,Xy]
   try simp only[X5,KN,Nat.reduceBEq,Nf,Nc,ins,Nat.reduceLT]
   refine X1 ?_;refine X0<|(X8 rfl (fun h15=>Xb ?_) (fun h15=>?_))
   ·(try simp only[BN]at h15);have hlt:y<V:=by omega
    have hw3:=XE hlt (by omega);obtain⟨x,hx,_⟩:=Xu (show y<vars.length by omega);obtain⟨b,hb,_⟩:=Xu (show n+y<Z.length by omega);have hbe:=X4z hb;have hw4:IntKind.i64.wrap ((n:Int)+y)=((n+y:Nat):Int):=by rw[X9 (by omega) (by omega)];omega
    have hsc:=XcB vars Z n y;have hkd:kdV vars y=decide (x.kind≠0):=by unfold kdV;rw[hx]
    rw[hkd,hb]at hsc;simp only[Option.getD_some]at hsc;have hll:=srcI_len vars Z n y;have hroom:W4 ((X4b vars Z n y).length+1) 8:=XX (by omega) (by decide);have hlt2:y+1<=V:=hlt;obtain⟨k,hk⟩:∃k,n+y=k:=⟨_,rfl⟩;rw[hk]at hw4 hbe;obtain⟨xn,xk,xl,xh,xi⟩:=x;replace hsc:X4b vars Z n (y+1)=X4b vars Z n y++(if(decide (xk≠0)&&b)=true then [(y:Int)] else []):=hsc;have hsn:Xi [(y:Int)]=[[iC y]]:=rfl;clear h15 hlt hb hk hkd hll;refine X0<|X3<|X0<|X2 ?_;refine X1 ?_;refine(Xc rfl (fun h18=>?_) fun h18=>?_)
    ·(try simp only[BN]at h18);have hu:(decide (xk≠0)&&b)=true:=by simpa using h18
     simp only[hu,Nf]at hsc;refine X2 ?_;refine X2 ?_;exact⟨y+1,hlt2,by omega,X4 (fun n=>if n=1010 then 63 else n) []⟩
    (try simp only[BN]at h18);have hu:(decide (xk≠0)&&b)=false:=by rcases h18 with e|e<;>simp[e]
    simp only[hu,Nz,Nc,Dq]at hsc;refine X2 ?_;exact⟨y+1,hlt2,by omega,X4 (fun n=>n) []⟩
   (try simp only[BN]at h15);obtain rfl:y=V:=by omega
   clear h15;refine(Xg ?_);refine X0<|X0<|X2 ?_;refine X3<|(Xd [2,9,10,66] (fun(z:Nat)=>[(11,.v (.one (.own 1011))),(67,.v (li z))]) (fun z=>[(2,.box [.c (.sl 5 (Xm vars)),.c (.sl 6 (Xn hats)),.c (.sl 10 (X7 body))]),(1010,.row 3 1 (Xi (X4b vars Z n y))),(1011,.row 3 1 (Xi (X49 st Z z)))]) (fun z=>z<=n) (fun z=>n - z) (0:Nat) (Nq _) ?_ ?_)
   .exact X4 (fun n=>n) [1011]
   rintro z hz;simp only[upS,X5,Xy]
   try simp only[X5,KN,Nat.reduceBEq,Nf,Nc,ins,Nat.reduceLT]
   refine X1 ?_;refine X0<|(X8 rfl (fun h27=>Xb ?_) (fun h27=>?_))
   .try simp only[BN]at h27
    have hlt:z<n:=by
     have:(z:Int)<n:=by simpa using h27
     omega
    have hw3:=XE hlt (by omega);obtain⟨s,hs,_⟩:=Xu (show z<st.length by omega);have ca:=hat z s hs;obtain⟨b,hb,_⟩:=Xu (show z<Z.length by omega);have hbe:=X4z hb;have hsc:=Xck st Z z;have hkd:rlS st Z z=(decide (s.do_=5)&&b):=by unfold rlS;rw[hs,hb];rfl
    have hkn:stN st z=s.n:=by unfold stN;rw[hs]
    rw[hkd,hkn]at hsc;have hll:=X9R st Z z;have hroom:W4 ((X49 st Z z).length+1) 8:=XX (by omega) (by decide);have hlt2:z+1<=n:=hlt;obtain⟨so,sc,sv,sn,⟨po,tn,tk⟩,sa,sb,sbs⟩:=s;simp only[aS,St.enc,Tm.enc,List.cons_append,List.nil_append,Ni,Nr]at ca;replace hsc:X49 st Z (z+1)=X49 st Z z++(if(decide (so=5)&&b)=true then [sn] else []):=hsc;have hsn:Xi [sn]=[[iC sn]]:=rfl;clear h27 hlt hs hb hkd hkn hll hat;refine X0<|X3<|X0<|X2 ?_;refine Xk [⟨false,.tup [.agg [.c (iC so),.c (iC sc),.c (iC sv),.c (iC sn),.c (iC po),.c (iC tn),.c (.sl 3 (XA tk)),.c (.sl 10 (X7 sa)),.c (.sl 10 (X7 sb)),.c (.sl 1 (Xi sbs))],li 0],none⟩] ?_ ?_
    .first|exact ca _|exact trivial|simpa[*]using ca _
    refine X1 ?_;refine(Xc rfl (fun h31=>?_) fun h31=>?_)
    ·(try simp only[BN]at h31);have hu:(decide (so=5)&&b)=true:=by simpa using h31
     simp only[hu,Nf]at hsc;refine X2 ?_;refine X2 ?_;exact⟨z+1,hlt2,by omega,X4 (fun n=>if n=1011 then 89 else n) []⟩
    (try simp only[BN]at h31);have hu:(decide (so=5)&&b)=false:=by rcases h31 with e|e<;>simp[e]
    simp only[hu,Nz,Nc,Dq]at hsc;refine X2 ?_;exact⟨z+1,hlt2,by omega,X4 (fun n=>n) []⟩
   try simp only[BN]at h27
   obtain rfl:z=n:=by
    have:¬(z:Int)<n:=by simpa using h27
    omega
   have hll:=X9R st Z z;obtain⟨H,hH⟩:∃H,X49 st Z z=H:=⟨_,rfl⟩;rw[hH]at hll⊢;clear h27 hH;refine(Xg ?_);rcases H with _|⟨a0,o⟩
   .refine XB (Qs 1010 rfl) ?_;refine XB (Qs 1011 rfl) ?_;have hc0:hatC []=[]:=by simp[hatC,Lib.compact,Lib.compactUpTo]
    rw[hc0];refine Xk [⟨true,.tup [],none⟩] ?_ ?_
    .first|exact X4G _|exact trivial|simpa[*]using X4G _
    refine Xk [⟨false,.v (lI []),none⟩] ?_ ?_
    .first|exact X42 _|exact trivial|simpa[*]using X42 _
    exact Xf
   refine XB (Qs 1010 rfl) ?_;have cs1:=X4i (a0::o) (by simp) (by omega);have cs2:=X8M ((a0::o).mergeSort fun x y=>decide (x<=y)) (by rw[List.length_mergeSort];simp) (by rw[List.length_mergeSort];omega);have hcc:Lib.compact ((a0::o).mergeSort fun x y=>decide (x<=y))=hatC (a0::o):=rfl;rw[hcc]at cs2;obtain⟨S1,hS1⟩:∃x,((a0::o).mergeSort fun x y=>decide (x<=y))=x:=⟨_,rfl⟩;rw[hS1]at cs1 cs2;obtain⟨S2,hS2⟩:∃x,hatC (a0::o)=x:=⟨_,rfl⟩;rw[hS2]at cs2⊢;clear hcc hS1 hS2;refine X0<|(Xw ?_);refine RunsN.cutE 1 [] (by simp;rfl) trivial (le_refl _) ?_;refine RunsN.rowA (by simp[rowAP,X23];exact⟨rfl,rfl⟩) cs1 ?_;refine RunsN.doneE [] rfl trivial ?_;refine X0<|(Xw ?_);refine RunsN.cutE 2 [] (by simp;rfl) trivial (le_refl _) ?_;refine RunsN.callA (fun n=>if n=900001 then 1011 else n) (fun n=>if n=900001 then 1016 else n) cs2.toN fun _ _=>?_;refine RunsN.doneE [] rfl trivial ?_;refine XB (Qs 1016 rfl) ?_;exact Xf
  simp only[N7 hr];refine X6 Tryz.func14 ?_;simp only[Tryz.f14];refine X1 ?_;refine Xk [⟨false,.tup [.agg [.c (iC n),.c (iC V),.c (.sl 3 (XG E))],li 0],none⟩] ?_ ?_
  .first|exact cb _|exact trivial|simpa[*]using cb _
  refine X0<|X0<|X2 ?_;refine(Xc rfl (fun h3=>?_) fun h3=>?_)
  .exact absurd h3 (by simp)
  (try simp only[BN]at h3);refine X0<|X0<|X2 ?_;refine(Xc rfl (fun h7=>?_) fun h7=>?_)
  ·(try simp only[BN]at h7);refine X1 ?_;exact Xf
  exfalso;simp at h7<;>omega
 obtain⟨C,hC⟩:∃x,Qa f=x:=⟨_,rfl⟩;rw[hC]at cb h0;simp only[hC,N7 h0]at cb⊢;clear hC hat h;obtain⟨vars,hats,body⟩:=f;simp only[aF,Fl.enc,Ni,Nr]at*;refine X6 Tryz.func14 ?_;simp only[Tryz.f14];refine X1 ?_;refine Xk [⟨false,.tup [.agg [.c (iC 0),.c (iC 0),.c (.lit XY)],li C],none⟩] ?_ ?_
 .first|exact cb _|exact trivial|simpa[*]using cb _
 refine X0<|X0<|X2 ?_;refine(Xc rfl (fun h3=>?_) fun h3=>?_)
 ·(try simp only[BN]at h3);refine X1 ?_;exact Xf
 exact absurd (by simpa using h3) h0
theorem chL_ok {N:Int}:∀(l:List Dp) (p:Option Dp),(∀e∈l,rngB N e=true/\kdB e=true)->l.Pairwise (fun a b=>dpB a b=true)->(∀q,p=some q->∀e∈l,dpB q e=true)->chL N p l=0
 |[],_,_,_,_=>rfl
 | x::l,p,h1,h2,h3=>by
   obtain⟨hr,hk⟩:=h1 x (by simp)
   have ho:ordF p x=true:=by
    cases p with
    |none=>rfl
    |some q=>exact h3 q rfl x (by simp)
   rw[chL,N7 (by rw[hr];decide),N7 (by rw[hk];decide),N7 (by rw[ho];decide)];obtain⟨h4,h5⟩:=NQ.1 h2;exact chL_ok l (some x) (fun e he=>h1 e (by simp[he])) h5 fun q hq e he=>by cases hq;exact h4 e he
theorem ch_dep {f:Fl} (h:Sm f) (h0:Qa f=0) (h1:(flL f.body).length<=1024) (h2:f.vars.length<=64):chF (flL f.body).length f.vars.length (X1L f)=0:=by
 have hb:hdB ((flL f.body).length:Int) f.vars.length=true:=by simp[hdB];omega
 rw[chF,N7 (by rw[hb];decide)];refine chL_ok _ _ (fun e he=>?_) (X0P _) fun q hq=>by cases hq
 have h3:=X9z h h0 e he;unfold okDp at h3;simp only[rngB,kdB,N4,Nl,N6];omega
theorem eqGA {T:Type} (a b:List T) (hl:a.length=b.length) (h:∀j:Nat,j<a.length->a[j]? =b[j]?):a=b:=by
 apply NN;intro i;by_cases hi:i<a.length
 .exact h i hi
 rw[Nx (by omega),Nx (by omega)]
@[simp] theorem fsDp:X4X prog 51=some [true,true,true]/\arrI prog 51=none:=by and_intros<;>kernel_rfl
def lDp (l:List Dp):TV:=.one (.c (.sl 3 (XG l)))
theorem X93 (a b:List Dp) (ha:a.length<=1000000000) (hb:b.length<=1000000000) (d:Nat):Con prog 24 true [lDp a,lDp b] (.v (lb (decide (a=b)))) none d:=by
 obtain⟨res,hres⟩:∃r,decide (a=b)=r:=⟨_,rfl⟩;rw[hres];simp only[lBl,lDp];refine X6 Tryz.func24 ?_;simp only[Tryz.f24];refine X1 ?_;refine X0<|X0<|X2 ?_;refine(Xc rfl (fun h2=>?_) fun h2=>?_)
 .try simp only[BN]at h2
  have hz:res=false:=by
   rw[<-hres,Nj];intro h;subst h;simp at h2
  subst hz;refine X1 ?_;exact Xf
 (try simp only[BN]at h2);have hle:a.length=b.length:=by omega
 clear h2;refine X0<|X0<|X2 ?_;refine X3<|(Xd [0,1,12] (fun(z:Nat)=>[(13,.v (li z))]) (fun z=>[]) (fun z=>z<=a.length/\∀k:Nat,k<z->a[k]? =b[k]?) (fun z=>a.length - z) (0:Nat) ⟨Nq _,fun k hk=>absurd hk (Dy k)⟩ ?_ ?_)
 .exact X4 (fun n=>n) []
 rintro k ⟨hk,hall⟩;simp only[upS,X5,Xy]
 try simp only[X5,KN,Nat.reduceBEq,Nf,Nc,ins,Nat.reduceLT]
 refine X1 ?_;refine X0<|(X8 rfl (fun h8=>Xb ?_) (fun h8=>?_))
 ·(try simp only[BN]at h8);have hlt:k<a.length:=by omega
  obtain⟨x,he,_⟩:=Xu hlt;obtain⟨y,hey,_⟩:=Xu (show k<b.length by omega);have hw1:=XE hlt (by omega);have hk1:k+1<=a.length:=hlt;have hxe:=X02 he;have hye:=X02 hey;obtain⟨xf,xt,xk⟩:=x;obtain⟨yf,yt,yk⟩:=y;simp only[Dp.enc]at hxe hye;clear hlt h8;refine X0<|X3<|X0<|X2 ?_;refine X0<|(N0 ?_);refine(Xc rfl (fun h11=>?_) fun h11=>?_)
  .try simp only[BN]at h11
   have hz:res=false:=by
    rw[<-hres,Nj];intro h;subst h;rw[he]at hey;cases hey;simp at h11
   subst hz;refine X1 ?_;exact Xf
  (try simp only[BN]at h11);refine X2 ?_
  exact⟨k+1,⟨hk1,fun j hj=>by
   rcases Nat.lt_or_eq_of_le (Nat.le_of_lt_succ hj)with h|h
   .exact hall j h
   rw[h,he,hey];have:xf=yf/\xt=yt/\xk=yk:=by simpa using h11
   rw[this.1,this.2.1,this.2.2]⟩,by omega,X4 (fun n=>n) []⟩
 try simp only[BN]at h8
 have hz:res=true:=by
  rw[<-hres,N6];exact eqGA a b hle fun j hj=>hall j (by omega)
 subst hz;refine(Xg ?_);refine X1 ?_;exact Xf
theorem X4A (n:Int) (d:Nat):Con prog 85 false [li n] (.v (aT (rfT n))) none d:=by
 simp only[aT,rfT,Tm.enc,XA,Ni,Nr];refine X6 Tryz.func85 ?_;simp only[Tryz.f85];refine X1 ?_;refine X0<|(X2g 2 [] [] (by simp[XO,QE,Q3];rfl) trivial (X24 4 [.c (iC 24),.c (iC n),.c (.sl 3 [])] rfl (by(repeat'(first|exact LWk.nil|apply LWk.cons|exact CWk.refl _|exact CWk.nil _)))) (by simp;rfl) trivial ?_);exact Xf
set_option maxHeartbeats 8000000 in
theorem X7m (d:Nat):Con prog 40 false [] (.v (aF exP)) none d:=by
 have c0:=X4A 0;have c1:=X4A 1;have c2:=X4A 2;have hq1:W4 1 144:=XX (by decide) (by decide);have hq2:W4 5 144:=XX (by decide) (by decide);have hq3:W4 3 48:=XX (by decide) (by decide);have hq4:W4 1 72:=XX (by decide) (by decide);simp only[exP,rfT,aF,aT,Fl.enc,Vr.enc,Ht.enc,Xm,Xn,Xi,X7,XA,St.enc,Tm.enc,Ni,Nr,List.cons_append,List.nil_append]at c0 c1 c2⊢;refine X6 Tryz.func40 ?_;simp only[Tryz.f40];refine X1 ?_;refine X1 ?_;refine X0<|(Xw ?_);refine RunsN.cutE 6 [⟨false,.v (.agg [.c (iC 24),.c (iC 0),.c (.sl 3 [])]),none⟩] (by simp[*,XO,QE,Q3];first|exact⟨rfl,Iff.rfl⟩|exact⟨rfl,trivial⟩|rfl) (by first|exact c0 _|simpa using c0 _) (le_refl _) ?_;refine RunsN.cutE 5 [⟨false,.v (.agg [.c (iC 24),.c (iC 0),.c (.sl 3 [])]),none⟩] (by simp[*,XO,QE,Q3];first|exact⟨rfl,Iff.rfl⟩|exact⟨rfl,trivial⟩|rfl) (by first|exact c0 _|simpa using c0 _) (X24 12 [.c (iC 0),.c (iC 0),.c (iC 1),.c (iC 0),.c (iC 24),.c (iC 0),.c (.sl 3 []),.c (.sl 10 []),.c (.sl 10 []),.c (.sl 1 [])] rfl (by(repeat'(first|exact LWk.nil|apply LWk.cons|exact CWk.refl _|exact CWk.nil _)))) ?_;refine RunsN.cutE 4 [⟨false,.v (.agg [.c (iC 24),.c (iC 1),.c (.sl 3 [])]),none⟩] (by simp[*,XO,QE,Q3];first|exact⟨rfl,Iff.rfl⟩|exact⟨rfl,trivial⟩|rfl) (by first|exact c1 _|simpa using c1 _) (X24 16 [.c (iC 0),.c (iC 1),.c (iC 2),.c (iC 0),.c (iC 0),.c (iC 1),.c (.sl 3 []),.c (.sl 10 []),.c (.sl 10 []),.c (.sl 1 [])] rfl (by(repeat'(first|exact LWk.nil|apply LWk.cons|exact CWk.refl _|exact CWk.nil _)))) ?_;refine RunsN.cutE 1 [] (by simp[*,XO,QE,Q3];rfl) trivial (Qs 17 rfl) ?_;refine RunsN.cutE 1 [] (by simp[*,XO,QE,Q3];rfl) trivial (X24 18 [.c (iC 3),.c (iC 0),.c (iC 0),.c (iC 0),.c (iC 24),.c (iC 1),.c (.sl 3 []),.c (.sl 10 [[iC 0,iC 1,iC 2,iC 0,iC 0,iC 1,.sl 3 [],.sl 10 [],.sl 10 [],.sl 1 []]]),.c (.sl 10 []),.c (.sl 1 [])] rfl (by(repeat'(first|exact LWk.nil|apply LWk.cons|exact CWk.refl _|exact CWk.nil _)))) ?_;refine RunsN.cutE 3 [⟨false,.v (.agg [.c (iC 24),.c (iC 2),.c (.sl 3 [])]),none⟩] (by simp[*,XO,QE,Q3];first|exact⟨rfl,Iff.rfl⟩|exact⟨rfl,trivial⟩|rfl) (by first|exact c2 _|simpa using c2 _) (X24 21 [.c (iC 1),.c (iC 0),.c (iC 0),.c (iC 0),.c (iC 24),.c (iC 2),.c (.sl 3 []),.c (.sl 10 []),.c (.sl 10 []),.c (.sl 1 [])] rfl (by(repeat'(first|exact LWk.nil|apply LWk.cons|exact CWk.refl _|exact CWk.nil _)))) ?_;refine RunsN.cutE 1 [] (by simp[*,XO,QE,Q3];rfl) trivial (X24 22 [.c (iC 5),.c (iC 0),.c (iC 1),.c (iC 0),.c (iC 0),.c (iC 0),.c (.sl 3 []),.c (.sl 10 []),.c (.sl 10 []),.c (.sl 1 [])] rfl (by(repeat'(first|exact LWk.nil|apply LWk.cons|exact CWk.refl _|exact CWk.nil _)))) ?_;refine RunsN.cutE 3 [⟨false,.v (.agg [.c (iC 24),.c (iC 1),.c (.sl 3 [])]),none⟩] (by simp[*,XO,QE,Q3];first|exact⟨rfl,Iff.rfl⟩|exact⟨rfl,trivial⟩|rfl) (by first|exact c1 _|simpa using c1 _) (X24 25 [.c (iC 1),.c (iC 0),.c (iC 0),.c (iC 0),.c (iC 24),.c (iC 1),.c (.sl 3 []),.c (.sl 10 []),.c (.sl 10 []),.c (.sl 1 [])] rfl (by(repeat'(first|exact LWk.nil|apply LWk.cons|exact CWk.refl _|exact CWk.nil _)))) ?_;refine RunsN.cutE 1 [] (by simp[*,XO,QE,Q3];rfl) trivial (le_trans (Qs 5 rfl) (le_trans (Qs 9 rfl) (Qs 26 rfl))) ?_;refine RunsN.cutE 1 [] (by simp[*,XO,QE,Q3];rfl) trivial (X24 27 [.c (.sl 5 [[sC ⟨#[120]⟩,iC 1,iC 0,iC 1,iC 0],[sC ⟨#[121]⟩,iC 0,iC 0,iC 1,iC 0],[sC ⟨#[122]⟩,iC 0,iC 0,iC 1,iC 0]]),.c (.sl 6 [[sC ⟨#[104]⟩,iC 0,iC 1,iC 24,iC 0,.sl 3 []]]),.c (.sl 10 [[iC 0,iC 0,iC 1,iC 0,iC 24,iC 0,.sl 3 [],.sl 10 [],.sl 10 [],.sl 1 []],[iC 3,iC 0,iC 0,iC 0,iC 24,iC 1,.sl 3 [],.sl 10 [[iC 0,iC 1,iC 2,iC 0,iC 0,iC 1,.sl 3 [],.sl 10 [],.sl 10 [],.sl 1 []]],.sl 10 [],.sl 1 []],[iC 1,iC 0,iC 0,iC 0,iC 24,iC 2,.sl 3 [],.sl 10 [],.sl 10 [],.sl 1 []],[iC 5,iC 0,iC 1,iC 0,iC 0,iC 0,.sl 3 [],.sl 10 [],.sl 10 [],.sl 1 []],[iC 1,iC 0,iC 0,iC 0,iC 24,iC 1,.sl 3 [],.sl 10 [],.sl 10 [],.sl 1 []]])] rfl (by(repeat'(first|exact LWk.nil|apply LWk.cons|exact CWk.refl _|exact CWk.nil _)))) ?_;refine RunsN.doneE [] (by simp[*,XO,QE,Q3];rfl) trivial ?_;exact Xf
theorem ex_dirZ:dirZ exP 5=[false,false,false,false,true,true,false,false,false,false]:=by
 unfold dirZ X1L;rw[Xbj];exact exP_src
set_option maxHeartbeats 16000000 in
theorem X9D (d:Nat):Con prog 12 false [] (.v (lb true)) none d:=by
 have ce:=X7m;have cb:=X1I exP X9Y;have cs:=X6t exP X9Y 5;have e1:=X93 exW exW (by decide) (by decide);have e2:=X8p [0] [0] (by decide) (by decide)
 have hb:bdR exP=.tup [.agg [.c (iC 6),.c (iC 3),.c (.sl 3 (XG exW))],li 0]:=by
  unfold bdR;rw[X5S,Xbj];rfl
 have hs:srcR exP 5=.tup [lI [],lI [0],li 0]:=by
  unfold srcR;rw[X5S,ex_dirZ];have e1:X4b exP.vars [false,false,false,false,true,true,false,false,false,false] (flL exP.body).length exP.vars.length=[]:=by kernel_rfl
  have e2:X49 (flL exP.body) [false,false,false,false,true,true,false,false,false,false] (flL exP.body).length=[0]:=by kernel_rfl
  rw[e1,e2];have e3:hatC [0]=[0]:=by unfold hatC;rw[List.mergeSort_singleton];rfl
  rw[e3];rfl
 rw[hb]at cb;rw[hs]at cs;have hq1:W4 8 24:=XX (by decide) (by decide);have hq2:W4 1 8:=XX (by decide) (by decide);simp only[exW,lDp,XG,Dp.enc,exP,rfT,aF,aT,Fl.enc,Vr.enc,Ht.enc,Xm,Xn,Xi,X7,XA,St.enc,Tm.enc,Ni,Nr,List.cons_append,List.nil_append,Nf,decide_true,Bool.and_true,lI]at ce cb cs e1 e2;clear hb hs;refine X6 Tryz.func12 ?_;simp only[Tryz.f12];refine X1 ?_;refine Xk [⟨false,.v (.agg [.c (.sl 5 [[sC ⟨#[120]⟩,iC 1,iC 0,iC 1,iC 0],[sC ⟨#[121]⟩,iC 0,iC 0,iC 1,iC 0],[sC ⟨#[122]⟩,iC 0,iC 0,iC 1,iC 0]]),.c (.sl 6 [[sC ⟨#[104]⟩,iC 0,iC 1,iC 24,iC 0,.sl 3 []]]),.c (.sl 10 [[iC 0,iC 0,iC 1,iC 0,iC 24,iC 0,.sl 3 [],.sl 10 [],.sl 10 [],.sl 1 []],[iC 3,iC 0,iC 0,iC 0,iC 24,iC 1,.sl 3 [],.sl 10 [[iC 0,iC 1,iC 2,iC 0,iC 0,iC 1,.sl 3 [],.sl 10 [],.sl 10 [],.sl 1 []]],.sl 10 [],.sl 1 []],[iC 1,iC 0,iC 0,iC 0,iC 24,iC 2,.sl 3 [],.sl 10 [],.sl 10 [],.sl 1 []],[iC 5,iC 0,iC 1,iC 0,iC 0,iC 0,.sl 3 [],.sl 10 [],.sl 10 [],.sl 1 []],[iC 1,iC 0,iC 0,iC 0,iC 24,iC 1,.sl 3 [],.sl 10 [],.sl 10 [],.sl 1 []]])]),none⟩,⟨false,.tup [.agg [.c (iC 6),.c (iC 3),.c (.sl 3 [[iC 0,iC 1,iC 0],[iC 1,iC 2,iC 1],[iC 1,iC 9,iC 1],[iC 2,iC 3,iC 0],[iC 4,iC 5,iC 0],[iC 6,iC 0,iC 0],[iC 6,iC 4,iC 2],[iC 8,iC 3,iC 0]])],li 0],none⟩] ?_ ?_
 .first|exact⟨ce _,cb _⟩|exact trivial|(repeat' first|exact trivial|exact ce _|exact cb _|apply And.intro)
 refine X0<|(Xp (by simp[*,XO,QE,Q3,cellsOf,W2];rfl) ?_);refine Xk [⟨false,.v (.agg [.c (.sl 5 [[sC ⟨#[120]⟩,iC 1,iC 0,iC 1,iC 0],[sC ⟨#[121]⟩,iC 0,iC 0,iC 1,iC 0],[sC ⟨#[122]⟩,iC 0,iC 0,iC 1,iC 0]]),.c (.sl 6 [[sC ⟨#[104]⟩,iC 0,iC 1,iC 24,iC 0,.sl 3 []]]),.c (.sl 10 [[iC 0,iC 0,iC 1,iC 0,iC 24,iC 0,.sl 3 [],.sl 10 [],.sl 10 [],.sl 1 []],[iC 3,iC 0,iC 0,iC 0,iC 24,iC 1,.sl 3 [],.sl 10 [[iC 0,iC 1,iC 2,iC 0,iC 0,iC 1,.sl 3 [],.sl 10 [],.sl 10 [],.sl 1 []]],.sl 10 [],.sl 1 []],[iC 1,iC 0,iC 0,iC 0,iC 24,iC 2,.sl 3 [],.sl 10 [],.sl 10 [],.sl 1 []],[iC 5,iC 0,iC 1,iC 0,iC 0,iC 0,.sl 3 [],.sl 10 [],.sl 10 [],.sl 1 []],[iC 1,iC 0,iC 0,iC 0,iC 24,iC 1,.sl 3 [],.sl 10 [],.sl 10 [],.sl 1 []]])]),none⟩,⟨false,.tup [.one (.c (.sl 1 [])),.one (.c (.sl 1 [[iC 0]])),li 0],none⟩] ?_ ?_
 .first|exact⟨ce _,cs _⟩|exact trivial|(repeat' first|exact trivial|exact ce _|exact cs _|apply And.intro)
 refine Xk [⟨true,.v (lb true),none⟩,⟨true,.v (lb true),none⟩] ?_ ?_
 .first|exact⟨e1 _,e2 _⟩|exact trivial|(repeat' first|exact trivial|exact e1 _|exact e2 _|apply And.intro)
 exact Xf
end Go.Proofs.YtdajceakaakdoaaGreat
