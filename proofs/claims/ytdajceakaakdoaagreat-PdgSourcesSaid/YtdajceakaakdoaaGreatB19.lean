/- Contracts of functions and plain facts about what they compute. Conditions: as each theorem states. -/
import Derived.Test.YtdajceakaakdoaaGreatB13
import Derived.Test.YtdajceakaakdoaaGreatB14
import Derived.Test.YtdajceakaakdoaaGreatB10
set_option linter.unusedSimpArgs false
set_option linter.unusedVariables false
set_option linter.unnecessarySimpa false
set_option maxRecDepth 100000
set_option maxHeartbeats 2000000
namespace Go.Proofs.YtdajceakaakdoaaGreat
open Go Go.Hl
open Tryz(prog)
theorem X63 (l:List St) (hn:Xh l<=1000000000) (d:Nat):Con prog 107 true [lS l] (.tup [li (spL l (0,0)).1,lb (decide ((spL l (0,0)).1=(spL l (0,0)).2))]) none d:=by
 have cs:=Xc0 l hn;obtain⟨p,hp⟩:∃x,spL l (0,0)=x:=⟨_,rfl⟩;rw[hp]at cs⊢;obtain⟨x,y⟩:=p;simp only at cs⊢;clear hp;refine X6 Tryz.func107 ?_;simp only[Tryz.f107];refine X1 ?_;refine Xk [⟨true,.tup [li x,li y],none⟩] ?_ ?_
 .first|exact cs _|exact trivial|simpa[*]using cs _
 refine X1 ?_;exact Xf
def ms149:List (Nat×List Nat):=[(2047,[0,1,3,4,6]),(2046,[1,3,4,6]),(2045,[0,2,3,4,6]),(2039,[0,1,4,6]),(2031,[0,1,3,5,6]),(1983,[0,1,3,4,7]),(2044,[2,3,4,6]),(2038,[1,4,6]),(2030,[1,3,5,6]),(1982,[1,3,4,7]),(2041,[0,3,4,6]),(2037,[0,2,4,6]),(2029,[0,2,3,5,6]),(1981,[0,2,3,4,7]),(2023,[0,1,5,6]),(1975,[0,1,4,7]),(1999,[0,1,3,6]),(1967,[0,1,3,5,7]),(1855,[0,1,3,4]),(2040,[3,4,6]),(2036,[2,4,6]),(2028,[2,3,5,6]),(1980,[2,3,4,7]),(2022,[1,5,6]),(1974,[1,4,7]),(1998,[1,3,6]),(1966,[1,3,5,7]),(1854,[1,3,4]),(2033,[0,4,6]),(2025,[0,3,5,6]),(1977,[0,3,4,7]),(2021,[0,2,5,6]),(1973,[0,2,4,7]),(1997,[0,2,3,6]),(1965,[0,2,3,5,7]),(1853,[0,2,3,4]),(1991,[0,1,6]),(1959,[0,1,5,7]),(1847,[0,1,4]),(1935,[0,1,3,7]),(1839,[0,1,3,5]),(2032,[4,6]),(2024,[3,5,6]),(1976,[3,4,7]),(2020,[2,5,6]),(1972,[2,4,7]),(1996,[2,3,6]),(1964,[2,3,5,7]),(1852,[2,3,4]),(1990,[1,6]),(1958,[1,5,7]),(1846,[1,4]),(1934,[1,3,7]),(1838,[1,3,5]),(2017,[0,5,6]),(1969,[0,4,7]),(1993,[0,3,6]),(1961,[0,3,5,7]),(1849,[0,3,4]),(1989,[0,2,6]),(1957,[0,2,5,7]),(1845,[0,2,4]),(1933,[0,2,3,7]),(1837,[0,2,3,5]),(1927,[0,1,7]),(1831,[0,1,5]),(1807,[0,1,3]),(2016,[5,6]),(1968,[4,7]),(1992,[3,6]),(1960,[3,5,7]),(1848,[3,4]),(1988,[2,6]),(1956,[2,5,7]),(1844,[2,4]),(1932,[2,3,7]),(1836,[2,3,5]),(1926,[1,7]),(1830,[1,5]),(1806,[1,3]),(1985,[0,6]),(1953,[0,5,7]),(1841,[0,4]),(1929,[0,3,7]),(1833,[0,3,5]),(1925,[0,2,7]),(1829,[0,2,5]),(1805,[0,2,3]),(1799,[0,1,8]),(1984,[6]),(1952,[5,7]),(1840,[4]),(1928,[3,7]),(1832,[3,5]),(1924,[2,7]),(1828,[2,5]),(1804,[2,3]),(1798,[1,8]),(1921,[0,7]),(1825,[0,5]),(1801,[0,3]),(1797,[0,2,8]),(1543,[0,1]),(1920,[7]),(1824,[5]),(1800,[3]),(1796,[2,8]),(1542,[1]),(1793,[0,8]),(1541,[0,2]),(1792,[8]),(1540,[2]),(1537,[0]),(1536,[9]),(1024,[10])]
def X1G (regs:List (Nat×RV)) (o0 oA oB:List (Nat×Ob)) (outs:List (Nat×Nat×RV)) (R:List Nat):HS:=
 {trS ⟨⟨90,none⟩,regs,[]⟩ outs R with objs:=if R.contains 8 then o0 else if R.contains 9 then oA else oB}
set_option maxHeartbeats 64000000 in
theorem Xaq (vars:List Vr) (hats:List Ht) (body:List St) (n:Nat) (nx:Int) (q:Bool) (hn6:n<=1000000) (hvl:vars.length<=1000000) (l:List St):Xh l<=1000000->∀(p:Nat) (T:List Dp),p+szL l<=1000000->T.length+bq q (tmL Zs ((n:Int)+vars.length) l p)<=2000000->
  Z7 prog 57 none (mkO vars hats body n nx T q) [.one (.at_ 1000001 0),lS l,li p] (fun _:Unit=>True) (fun _=>.v (li (p+szL l:Nat))) (fun _=>mkO vars hats body n nx (QP q T (tmL Zs ((n:Int)+vars.length) l p)) q):=by
 revert l
 apply St.lists;intro l ih hn p T0 hp hT0;have hlen:=Qm l;have hwe:IntKind.i64.wrap ((n:Int)+(vars.length:Int))=(n:Int)+vars.length:=X9;obtain⟨E,hEe⟩:∃x,(n:Int)+vars.length=x:=⟨_,rfl⟩;rw[hEe]at ih hT0 hwe⊢;obtain⟨R1,hR1⟩:∃x,QP q T0 (tmL Zs E l p)=x:=⟨_,rfl⟩;obtain⟨fin,hfin⟩:∃x,p+szL l=x:=⟨_,rfl⟩;rw[hR1,hfin];refine XV Tryz.func57 rfl (by kernel_rfl) (NH rfl) X4a (fun v h=>by cases h) ?_;simp only[Tryz.f57];refine X1 ?_;refine X0<|X0<|X2 ?_;refine X3<|(Xd [0,14,15] (fun(y:Nat×Nat×List Dp)=>[(2,.v (li y.2.1)),(16,.v (li y.1))]) (fun y=>mkO vars hats body n nx y.2.2 q) (fun y=>y.1<=l.length/\y.2.1+szL (l.drop y.1)=fin/\QP q y.2.2 (tmL Zs E (l.drop y.1) y.2.1)=R1/\y.2.2.length+bq q (tmL Zs E (l.drop y.1) y.2.1)<=2000000) (fun y=>l.length - y.1) (0,p,T0) ⟨Nq _,by simpa using hfin,by simpa using hR1,by simpa using hT0⟩ ?_ ?_)
 .exact Xl (fun n=>n) [] rfl (by simp[mkO, *,upS,X5,QQ]) (by simp[mkO, *,upS]) (by simp[mkO,upS])
 rintro⟨k,o,T⟩ ⟨hk,hfo,hJ,hTl⟩;simp only[upS,X5,Xy]
 try simp only[X5,KN,Nat.reduceBEq,Nf,Nc,ins,Nat.reduceLT]
 simp only at hk hfo hJ hTl;clear hR1 hT0;simp only[mkO];refine X1 ?_;refine X0<|(X8 rfl (fun h4=>Xb ?_) (fun h4=>?_))
 ·(try simp only[BN]at h4);have hlt:k<l.length:=by first|omega|simpa using h4
  obtain⟨s,he,hd⟩:=Xu hlt;have hw1:=XE hlt (by omega);have hk1:k+1<=l.length:=hlt;have hmem:s∈l:=N3 he;have hnm:=Qz hmem;have iha:=(ih s hmem).1 (by omega);have ihb:=(ih s hmem).2 (by omega);have he':=Q2 he;rw[hd]at hfo hJ hTl;obtain⟨so,sc,sv,sn,⟨po,tn,tk⟩,sa,sb,sbs⟩:=s;simp only[St.then_,St.else_,St.term]at iha ihb hnm;simp only[szL,szS]at hfo;rw[tmL]at hJ hTl;have hcd:Zs (St.mk so sc sv sn (Tm.mk po tn tk) sa sb sbs)=cndQ so (spL sa (0,0)).1 (decide ((spL sa (0,0)).1=(spL sa (0,0)).2)) (spL sb (0,0)).1 (decide ((spL sb (0,0)).1=(spL sb (0,0)).2)) po:=by rw[Zs]
  obtain⟨e1,hJ1⟩:=X1V hTl;rw[QW]at hJ;have ca:=iha (o+1) T (by omega) e1;obtain⟨Ta,hTa⟩:∃x,QP q T (tmL Zs E sa (o+1))=x:=⟨_,rfl⟩;rw[hTa]at ca hJ hJ1;obtain⟨e2,hJ2⟩:=X1V hJ1;rw[QW]at hJ;have cb:=ihb (o+1+szL sa) Ta (by omega) e2;obtain⟨Tb,hTb⟩:∃x,QP q Ta (tmL Zs E sb (o+1+szL sa))=x:=⟨_,rfl⟩;rw[hTb]at cb hJ hJ2;obtain⟨e3,hJ3⟩:=X1V hJ2;rw[QW]at hJ;obtain⟨o1,ho1⟩:∃z,o+1=z:=⟨_,rfl⟩;have hq1:IntKind.i64.wrap ((o:Int)+1)=(o1:Int):=by rw[X9 (by omega) (by omega)];omega
  obtain⟨o2,ho2⟩:∃z,o+(1+szL sa+szL sb)=z:=⟨_,rfl⟩;rw[ho2]at hJ hJ3;have hb2:o+1+szL sa+szL sb=o2:=by omega
  rw[hb2]at cb;have hfo2:o2+szL (l.drop (k+1))=fin:=by omega
  rw[ho1]at ca cb;obtain⟨o3,ho3⟩:∃z,o1+szL sa=z:=⟨_,rfl⟩;rw[ho3]at ca cb;have cc:=X63 sa (by omega);have cd:=X63 sb (by omega);simp only[St.enc,Tm.enc,List.cons_append,List.nil_append]at he';simp only[mkO]at ca cb;have cads:=fun(hT:Tb.length<=2000000)=>Z7.toS (X1z vars hats body n nx Tb q o E 1 hT);simp only[mkO]at cads;obtain⟨cn,hcn⟩:∃c,Zs (St.mk so sc sv sn (Tm.mk po tn tk) sa sb sbs)=c:=⟨_,rfl⟩;rw[hcn]at hJ hJ2 e3 hJ3;rw[hcd]at hcn;clear hcd;obtain⟨⟨x,x2⟩,hX⟩:∃z,spL sa (0,0)=z:=⟨_,rfl⟩;obtain⟨⟨y,y2⟩,hY⟩:∃z,spL sb (0,0)=z:=⟨_,rfl⟩;rw[hX]at cc hcn;rw[hY]at cd hcn;simp only at cc cd hcn;obtain⟨ex,hex⟩:∃e,decide (x=x2)=e:=⟨_,rfl⟩;obtain⟨ey,hey⟩:∃e,decide (y=y2)=e:=⟨_,rfl⟩;rw[hex]at cc hcn;rw[hey]at cd hcn;unfold cndQ at hcn;have hTbl:Tb.length<=2000000:=by omega
  have cads:=cads hTbl;clear hlt h4 ih hmem hnm hd he iha ihb hTa hTb hX hY hex hey hfo hTl hJ1 hJ2 e1 e2 e3;refine X0<|X3<|X0<|X2 ?_;refine X1 ?_;refine XB (s':=⟨⟨90,none⟩,[(0,.v (.one (.at_ 1000001 0))),(2,.v (li o)),(8,.v (.one (.at_ 8 0))),(9,.v (li o)),(14,.v (lS l)),(15,.v (li l.length)),(16,.v (li k))],[(8,.box [.c (iC so),.c (iC sc),.c (iC sv),.c (iC sn),.c (iC po),.c (iC tn),.c (.sl 3 (XA tk)),.c (.sl 10 (X7 sa)),.c (.sl 10 (X7 sb)),.c (.sl 1 (Xi sbs))]),(900002,.row 51 3 (XG T)),(1000001,.box [.c (.sl 5 (Xm vars)),.c (.sl 6 (Xn hats)),.c (.sl 10 (X7 body)),.c (iC n),.c (iC nx),.own 900002,.c (bC q)])]⟩) (Xl (fun n=>n) [] rfl (by simp) (by simp) (by simp)) ?_;refine X0<|(WQ (X1G [(0,.v (.one (.at_ 1000001 0))),(2,.v (li o)),(8,.v (.one (.at_ 8 0))),(9,.v (li o)),(14,.v (lS l)),(15,.v (li l.length)),(16,.v (li k))] [(8,.box [.c (iC so),.c (iC sc),.c (iC sv),.c (iC sn),.c (iC po),.c (iC tn),.c (.sl 3 (XA tk)),.c (.sl 10 (X7 sa)),.c (.sl 10 (X7 sb)),.c (.sl 1 (Xi sbs))]),(900002,.row 51 3 (XG T)),(1000001,.box [.c (.sl 5 (Xm vars)),.c (.sl 6 (Xn hats)),.c (.sl 10 (X7 body)),.c (iC n),.c (iC nx),.own 900002,.c (bC q)])] [(8,.box [.c (iC so),.c (iC sc),.c (iC sv),.c (iC sn),.c (iC po),.c (iC tn),.c (.sl 3 (XA tk)),.c (.sl 10 (X7 sa)),.c (.sl 10 (X7 sb)),.c (.sl 1 (Xi sbs))]),(900012,.row 51 3 (XG Ta)),(1000001,.box [.c (.sl 5 (Xm vars)),.c (.sl 6 (Xn hats)),.c (.sl 10 (X7 body)),.c (iC n),.c (iC nx),.own 900012,.c (bC q)])] [(8,.box [.c (iC so),.c (iC sc),.c (iC sv),.c (iC sn),.c (iC po),.c (iC tn),.c (.sl 3 (XA tk)),.c (.sl 10 (X7 sa)),.c (.sl 10 (X7 sb)),.c (.sl 1 (Xi sbs))]),(900022,.row 51 3 (XG Tb)),(1000001,.box [.c (.sl 5 (Xm vars)),.c (.sl 6 (Xn hats)),.c (.sl 10 (X7 body)),.c (iC n),.c (iC nx),.own 900022,.c (bC q)])] [(0,21,.v (.one (.at_ 1000001 0))),(1,22,.v (.one (.at_ 8 8))),(2,23,.v (lS sb)),(3,24,.v (.one (.at_ 1000001 0))),(4,25,.v (.one (.at_ 8 7))),(5,26,.v (lS sa)),(6,27,.v (li o)),(7,28,.v (li o1)),(8,29,.v (li o3)),(9,30,.v (li o2)),(10,2,.v (li o2))]) 11 2047 ms149 rfl (by kernel_rfl) (by kernel_rfl) (by kernel_rfl) (by kernel_rfl) (by simp[X1G,trS]) ?_ ?_)
  .simp only[ms149,X1C]
   repeat' apply And.intro
   all_goals first
    |trivial
    |(refine Q4.evE rfl ?_;simp[X1G,trS,ins,lkp,del,hq1];done)
    | (refine Q4.callA (hd0:=by(refine QG ?_ ?_ ?_ ?_ ?_<;>simp[X1G,trS,ins,rbB,QR,Qc,CV.ren,Ob.ren,lkp])) (hd:=by(intro _ _;refine QG ?_ ?_ ?_ ?_ ?_<;>simp[X1G,trS,ins,rbB,QR,Qc,CV.ren,Ob.ren,lkp])) (fun n=>n) (fun n=>if n=900002 then 900012 else n) ca rfl fun _ _=>?_
       simp[X1G,trS,ins,XJ,XU,del,CV.ren,Ob.ren];done)
    | (refine Q4.callA (hd0:=by(refine QG ?_ ?_ ?_ ?_ ?_<;>simp[X1G,trS,ins,rbB,QR,Qc,CV.ren,Ob.ren,lkp])) (hd:=by(intro _ _;refine QG ?_ ?_ ?_ ?_ ?_<;>simp[X1G,trS,ins,rbB,QR,Qc,CV.ren,Ob.ren,lkp])) (fun n=>if n=900002 then 900012 else n) (fun n=>if n=900002 then 900022 else n) cb rfl fun _ _=>?_
       simp[X1G,trS,ins,XJ,XU,del,CV.ren,Ob.ren])
  refine XB (s':=⟨⟨90,none⟩,[(0,.v (.one (.at_ 1000001 0))),(2,.v (li o2)),(8,.v (.one (.at_ 8 0))),(9,.v (li o)),(14,.v (lS l)),(15,.v (li l.length)),(16,.v (li k))],[(8,.box [.c (iC so),.c (iC sc),.c (iC sv),.c (iC sn),.c (iC po),.c (iC tn),.c (.sl 3 (XA tk)),.c (.sl 10 (X7 sa)),.c (.sl 10 (X7 sb)),.c (.sl 1 (Xi sbs))]),(900002,.row 51 3 (XG Tb)),(1000001,.box [.c (.sl 5 (Xm vars)),.c (.sl 6 (Xn hats)),.c (.sl 10 (X7 body)),.c (iC n),.c (iC nx),.own 900002,.c (bC q)])]⟩) (Xl (fun n=>if n=900002 then 900022 else n) [] rfl (by simp[X1G,trS]) (by simp[X1G,trS]) (by simp)) ?_;clear ca cb;refine Xk [⟨true,.tup [li x,lb ex],none⟩] ?_ ?_
  .first|exact cc _|exact trivial|simpa[*]using cc _
  refine Xk [⟨true,.tup [li y,lb ey],none⟩] ?_ ?_
  .first|exact cd _|exact trivial|simpa[*]using cd _
  refine XM [0,2,9,14,15,16] (fun(g:Bool)=>[(73,.v (lb g))]) (fun(g:Bool)=>[(900002,.row 51 3 (XG Tb)),(1000001,.box [.c (.sl 5 (Xm vars)),.c (.sl 6 (Xn hats)),.c (.sl 10 (X7 body)),.c (iC n),.c (iC nx),.own 900002,.c (bC q)])]) (fun(g:Bool)=>g=cn) ?_ ?_
  .clear cc cd hJ he' cads;by_cases h3:so=3
   .subst h3;cases ex with
    |false=>(refine Xp (by simp;rfl) ?_;exact⟨true,by rw[<-hcn];simp,Xl (fun n=>n) [] rfl (by simp[upS,X5]) (by simp[upS]) (by simp[upS])⟩)
    | true=>
      cases ey with
      |false=>(refine Xp (by simp;rfl) ?_;exact⟨true,by rw[<-hcn];simp,Xl (fun n=>n) [] rfl (by simp[upS,X5]) (by simp[upS]) (by simp[upS])⟩)
      | true=>
        by_cases hxy:x=y
        .subst hxy
         (refine Xp (by simp;rfl) ?_;exact⟨false,by rw[<-hcn];simp,Xl (fun n=>n) [] rfl (by simp[upS,X5]) (by simp[upS]) (by simp[upS])⟩)
        (refine Xp (by simp[hxy];rfl) ?_;exact⟨true,by rw[<-hcn];simp[hxy],Xl (fun n=>n) [] rfl (by simp[upS,X5]) (by simp[upS]) (by simp[upS])⟩)
   by_cases h4:so=4
   .subst h4;cases ex with
    |false=>(refine Xp (by simp;rfl) ?_;exact⟨true,by rw[<-hcn];simp,Xl (fun n=>n) [] rfl (by simp[upS,X5]) (by simp[upS]) (by simp[upS])⟩)
    | true=>
      by_cases ht:po=0
      .subst ht
       (refine Xp (by simp;rfl) ?_;exact⟨false,by rw[<-hcn];simp,Xl (fun n=>n) [] rfl (by simp[upS,X5]) (by simp[upS]) (by simp[upS])⟩)
      (refine Xp (by simp[ht];rfl) ?_;exact⟨true,by rw[<-hcn];simp[ht],Xl (fun n=>n) [] rfl (by simp[upS,X5]) (by simp[upS]) (by simp[upS])⟩)
   (refine Xp (by simp[h3,h4];rfl) ?_;exact⟨false,by rw[<-hcn];simp[h3,h4],Xl (fun n=>n) [] rfl (by simp[upS,X5]) (by simp[upS]) (by simp[upS])⟩)
  rintro g hg;simp only[upS,X5,Xy]
  try simp only[X5,KN,Nat.reduceBEq,Nf,Nc,ins,Nat.reduceLT]
  refine(Xc rfl (fun h11=>?_) fun h11=>?_)
  ·(try simp only[BN]at h11);have hq2:cn=true:=by rw[<-hg];simpa using h11
   rw[hq2,Na rfl,X0K,Wy]at hJ hJ3;obtain⟨Tc,hTc⟩:∃x,adM q Tb ⟨o,E,1⟩=x:=⟨_,rfl⟩;rw[hTc]at hJ hJ3 cads;clear h11 hg hq2 hcn cc cd he' hTc;refine(X1X [(78,1000001),(83,1000001)] 13 [] (fun n=>n) (fun n=>if n=900002 then 900012 else n) (by kernel_rfl) (by kernel_rfl) (by rfl) (by kernel_rfl) (by rfl) (by simp[*,X4L,X4E,Qy];first|exact⟨rfl,Iff.rfl⟩|exact⟨rfl,trivial⟩|rfl) ?_ (by rfl) (by simp;rfl) (QG (by simp[rbB,QR,Qc,CV.ren,Ob.ren,lkp]) (by simp) (by simp) (by simp[rbB,QR,Qc,CV.ren,Ob.ren,lkp]) (by simp[rbB,QR,Qc,CV.ren,Ob.ren,lkp])) cads (by rfl) ?_)
   .exact trivial
   refine X2 ?_;exact⟨(k+1,o2,Tc),⟨hk1,hfo2,hJ,hJ3⟩,by simp only;omega,Xl (fun n=>if n=900002 then 900012 else n) [] rfl (by simp[upS,X5,XJ,XU,del,ins,CV.ren,Ob.ren, *]) (by simp[*,upS,XJ,XU,del,ins,CV.ren,Ob.ren]) (by simp[upS])⟩
  (try simp only[BN]at h11);have hq2:cn=false:=by rw[<-hg];simpa using h11
  rw[hq2]at hJ hJ3;simp only[Nz,Nc,Wy]at hJ hJ3;refine X2 ?_;exact⟨(k+1,o2,Tb),⟨hk1,hfo2,hJ,hJ3⟩,by simp only;omega,X4 (fun n=>n) []⟩
 try simp only[BN]at h4
 have hkl:k=l.length:=by
  have:¬k<l.length:=by first|omega|simpa using h4
  omega
 subst hkl;simp only[Nt,szL,tmL,Wy,Nat.add_zero]at hfo hJ;subst hfo;subst hJ;refine(Xg ?_);refine X1 ?_;exact Qe ⟨.inr rfl,(),trivial,_,le_refl _,⟨_,by simp;rfl,by simp[XL]⟩,fun n o h=>h⟩
end Go.Proofs.YtdajceakaakdoaaGreat
