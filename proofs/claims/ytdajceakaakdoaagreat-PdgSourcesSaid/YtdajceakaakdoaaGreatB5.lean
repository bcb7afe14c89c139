/- Contracts of functions and plain facts about what they compute. Conditions: as each theorem states. -/
import Derived.Test.YtdajceakaakdoaaGreatB4
set_option linter.unusedSimpArgs false
set_option linter.unusedVariables false
set_option linter.unnecessarySimpa false
set_option maxRecDepth 100000
set_option maxHeartbeats 2000000
namespace Go.Proofs.YtdajceakaakdoaaGreat
open Go Go.Hl
open Tryz(prog)
def QS (b:Nat) (sl:List Wv):List (List CD):=sl.map fun s=>[s.c b]
@[simp] theorem len_encSl (b:Nat) (sl:List Wv):(QS b sl).length=sl.length:=by simp[QS]
theorem X4l {b:Nat} {sl:List Wv} {i:Nat} {s:Wv} (h:sl[i]? =some s):(QS b sl)[i]? =some [s.c b]:=by simp[QS,h]
def oneC (b:Nat) (s:St):Prop:=∀(k:Nat) (rows:List (List CD)) (d:Int),(∀r∈rows,r.length=4)->k=rows.length->rows.length+szN s<=1000000->0<=d->d+szN s<=1000000->
 Z7 prog 227 (some (pV b)) (Wt rows d) [.one (.c (.lit (pV b))),aS s,.one (.c (iC k))] (fun _:Unit=>True) (fun _=>.v (.one (.own 1))) (fun _=>(1,.row 250 1 (QS b (Z8 s k (rows,d)).2))::Wt (Z8 s k (rows,d)).1.1 (Z8 s k (rows,d)).1.2)
theorem X5A (b:Nat) (rows:List (List CD)) (d:Int) (k:Nat) (s:Wv) (h4:∀r∈rows,r.length=4) (hs:s.2<rows.length):
  Z7 prog (if s.1=true then 265 else 228) (some (pV b)) (Wt rows d) [.one (.c (iC k)),.one (.c (.ptr [.lit (pV b)])),.one (.c (.ptr [iC s.2]))] (fun _:Unit=>True) (fun _=>.tup []) (fun _=>Wt (X0y rows s k) d):=by
 obtain⟨o,m⟩:=s;have hr:rows[m]? =some rows[m]:=NA hs;unfold X0y;cases o with
 |true=>exact Xa4 (pV b) rows d k m _ hr (h4 _ (DA _))
 |false=>exact Xcf (pV b) rows d k m _ hr (h4 _ (DA _))
theorem bldS_pin {x:Ob} {rows:List (List CD)} {d:Int} (hx:∀cs,x≠ .box cs):∀n cs,lkp ((1,x)::Wt rows d) n=some (.box cs)->1000000<=n:=by
 intro n cs h;simp only[lkp]at h;split at h
 .exact absurd (Option.some.inj h) (hx cs)
 exact X1f n cs h
set_option maxHeartbeats 4000000 in
theorem list_con (b:Nat) (l:List St) (hone:∀s∈l,oneC b s) (sl:List Wv) (rows:List (List CD)) (d:Int) (hok:okB sl rows) (hn:rows.length+X0j l<=1000000) (hd:0<=d) (hd2:d+X0j l<=1000000) (hl:l.length<=1000000) (hsl:sl.length<=1000000):
  Z7 prog 188 (some (pV b)) ((1,.row 250 1 (QS b sl))::Wt rows d) [.one (.c (.lit (pV b))),lS l,.one (.own 1)] (fun _:Unit=>True) (fun _=>.v (.one (.own 1))) (fun _=>(1,.row 250 1 (QS b (Qd l sl (rows,d)).2))::Wt (Qd l sl (rows,d)).1.1 (Qd l sl (rows,d)).1.2):=by
 obtain⟨RES,hR⟩:∃x,Qd l sl (rows,d)=x:=⟨_,rfl⟩;rw[hR];refine XV Tryz.func188 rfl (by kernel_rfl) (NH rfl) (bldS_pin (by intro cs;simp)) (fun _ _=>⟨_,rfl⟩) ?_;simp only[Tryz.f188];refine X0<|(Xp (by simp[*,XJ];rfl) ?_);refine X0<|X0<|(Xp (by simp[*,XJ];rfl) ?_);refine X3<|(Xd [0,12,13] (fun(x:Nat×List Wv×List (List CD)×Int)=>[(2,.v (.one (.own 1))),(14,lit (.int .i64 x.1))]) (fun(x:Nat×List Wv×List (List CD)×Int)=>(1,.row 250 1 (QS b x.2.1))::Wt x.2.2.1 x.2.2.2) (fun(x:Nat×List Wv×List (List CD)×Int)=>okB x.2.1 x.2.2.1/\x.2.1.length<=1000000/\x.1<=l.length/\Qd (l.drop x.1) x.2.1 (x.2.2.1,x.2.2.2)=RES/\x.2.2.1.length+X0j (l.drop x.1)<=1000000/\0<=x.2.2.2/\x.2.2.2+X0j (l.drop x.1)<=1000000) (fun(x:Nat×List Wv×List (List CD)×Int)=>l.length - x.1) (0,sl,rows,d) ⟨hok,hsl,Nq _,hR,hn,hd,hd2⟩ ?_ ?_)
 .exact Xl (fun n=>n) [] rfl (by simp[*,upS,X5,XJ]) (by simp[*,upS]) (by simp[upS])
 rintro⟨j,sl1,rows1,d1⟩ ⟨e1,e7,e2,e3,e4,e5,e6⟩;simp only[upS,X5,Xy]
 try simp only[X5,KN,Nat.reduceBEq,Nf,Nc,ins,Nat.reduceLT]
 simp only at e1 e7 e2 e3 e4 e5 e6;clear hR hok hn hd hd2 hsl;refine X0<|(Xp (by simp[*,XJ];rfl) ?_);refine X0<|(X8 rfl (fun h4=>Xb ?_) (fun h4=>?_))
 ·(try simp only[BN]at h4);have hj:j<l.length:=by simpa using h4
  obtain⟨s,hs,hdr⟩:=Xu hj;have hse:=Q2 hs;rw[hdr]at e3 e4 e6;simp only[Qd,X0j]at e3 e4 e6;have ho:=hone s (N3 hs);clear hone;obtain⟨o,c,v,n,⟨tq,tn,tk⟩,sa,sb,bs⟩:=s;simp only[St.enc,Tm.enc,List.cons_append,List.nil_append]at hse;have hjn:j+1<=l.length:=hj;clear hj hs h4 hdr;refine X0<|X3<|X0<|(Xp (by simp[*,XJ];rfl) ?_);refine XB (X4F (v:=pV b) 0 rfl rfl rfl) ?_;simp only[ins,Nat.reduceLT,Nat.reduceEqDiff,Nf,Nc];refine X0<|(Xp (by simp[*,XJ];rfl) ?_);refine XB (X4p (v:=pV b) 0 rfl rfl rfl) ?_;simp only[ins,Nat.reduceLT,Nat.reduceEqDiff,Nf,Nc];refine X0<|X0<|(Xp (by simp[*,XJ];rfl) ?_);refine X3<|(Xd [0,8,9,12,13,14,23,24] (fun(x:Nat×List (List CD))=>[(25,lit (.int .i64 x.1))]) (fun(x:Nat×List (List CD))=>(1,.row 250 1 (QS b sl1))::(8,.box [.c (iC o),.c (iC c),.c (iC v),.c (iC n),.c (iC tq),.c (iC tn),.c (.sl 3 (XA tk)),.c (.sl 10 (X7 sa)),.c (.sl 10 (X7 sb)),.c (.sl 1 (Xi bs))])::Wt x.2 d1) (fun(x:Nat×List (List CD))=>x.1<=sl1.length/\XD rows1.length (sl1.drop x.1) x.2=XD rows1.length sl1 rows1/\(∀r∈x.2,r.length=4)/\x.2.length=rows1.length) (fun(x:Nat×List (List CD))=>sl1.length - x.1) (0,rows1) ⟨Nq _,rfl,e1.four,rfl⟩ ?_ ?_)
  .exact Xl (fun n=>n) [] rfl (by simp[*,upS,X5,XJ]) (by simp[*,upS]) (by simp[upS])
  rintro⟨i,rows2⟩ ⟨g1,g2,g3,g4⟩;simp only[upS,X5,Xy]
  try simp only[X5,KN,Nat.reduceBEq,Nf,Nc,ins,Nat.reduceLT]
  simp only at g1 g2 g3 g4;refine X0<|(Xp (by simp[*,XJ];rfl) ?_);refine X0<|(X8 rfl (fun h10=>Xb ?_) (fun h10=>?_))
  ·(try simp only[BN]at h10);have hi:i<sl1.length:=by simpa using h10
   obtain⟨q,hq,hqd⟩:=Xu hi;have hqe:=X4l (b:=b) hq;rw[hqd]at g2;simp only[XD]at g2;have cq:=X5A b rows2 d1 rows1.length q g3 (by have:=e1.lt q (N3 hq);omega);have hw:=XE hi (by omega:sl1.length<=1000000000);have hin:i+1<=sl1.length:=hi;clear hi hq h10 hqd;refine X0<|X3<|X0<|(Xp (by simp[*,XJ];rfl) ?_);refine(Xw ?_);refine RunsN.cutE 2 [] (by simp;rfl) trivial (le_refl _) ?_;refine RunsN.call (fun n=>n) (fun n=>if n=900001 then 40 else n) (by simp[gOfN,X23,X1Q,catT,TV.ren,CV.ren];rfl) (.inr ⟨rfl,rfl⟩) (QG (by simp[rbB,QR,Qc,CV.ren]) (by simp) (by simp) (by simp[rbB,QR,Qc,CV.ren]) (by simp[rbB,QR,Qc,CV.ren])) (fun _ _=>QG (by simp[rbB,QR,Qc,CV.ren]) (by simp) (by simp) (by simp[rbB,QR,Qc,CV.ren]) (by simp[rbB,QR,Qc,CV.ren])) cq (fun _ _=>rfl) fun _ _=>?_;refine RunsN.doneE [] (by simp;rfl) trivial ?_;refine(Xp (by simp[*,XJ];rfl) ?_);exact⟨(i+1,X0y rows2 q rows1.length),⟨hin,g2,X03 g3,(X1x ..).trans g4⟩,by simp only;omega,Xl (fun n=>if n=900001 then 40 else n) [] rfl (by simp[upS,X5, *,XJ]) (by simp[*,upS,XJ]) (by simp[upS])⟩
  try simp only[BN]at h10
  have hi:i=sl1.length:=by
   have:¬i<sl1.length:=by simpa using h10
   omega
  subst hi;rw[Nt]at g2;simp only[XD]at g2;subst g2;clear h10 g1;have hb1:=X5d (.mk o c v n (.mk tq tn tk) sa sb bs) rows1.length (XD rows1.length sl1 rows1,d1) g3 g4.symm;have hb2:=X8I (.mk o c v n (.mk tq tn tk) sa sb bs) rows1.length (XD rows1.length sl1 rows1,d1);have cq:=ho rows1.length (XD rows1.length sl1 rows1) d1 g3 g4.symm (by omega) e5 (by omega);obtain⟨⟨⟨rows3,d3⟩,sl3⟩,hx⟩:∃x,Z8 (.mk o c v n (.mk tq tn tk) sa sb bs) rows1.length (XD rows1.length sl1 rows1,d1)=x:=⟨_,rfl⟩;simp only[hx]at e3 hb1 hb2 cq;obtain⟨b1,b2,b3,b4,b5⟩:=hb1;rw[g4]at b2 b3;have hw:=XE (show j<l.length by omega) (by omega:l.length<=1000000000);clear ho hx e1 hse g3 g4;refine(Xg ?_);refine(Xw ?_);refine RunsN.cutE 3 [] (by simp;rfl) trivial (le_refl _) ?_;refine RunsN.call (fun n=>n) (fun n=>if n=900001 then 40 else if n=1 then 41 else n) (by simp[gOfN,X23,X1Q,catT,TV.ren,CV.ren];rfl) (.inr ⟨rfl,rfl⟩) (QG (by simp[rbB,QR,Qc,CV.ren]) (by simp) (by simp) (by simp[rbB,QR,Qc,CV.ren]) (by simp[rbB,QR,Qc,CV.ren])) (fun _ _=>QG (by simp[rbB,QR,Qc,CV.ren]) (by simp) (by simp) (by simp[rbB,QR,Qc,CV.ren]) (by simp[rbB,QR,Qc,CV.ren])) cq (fun _ _=>rfl) fun _ _=>?_;refine RunsN.doneE [] (by simp;rfl) trivial ?_;refine(Xp (by simp[*,XJ];rfl) ?_);exact⟨(j+1,sl3,rows3,d3),⟨b1,by simp only;omega,hjn,e3,by simp only;omega,by simp only at b4⊢;omega,by simp only at b5⊢;omega⟩,by simp only;omega,Xl (fun n=>if n=900001 then 40 else if n=1 then 41 else n) [] rfl (by simp[upS,X5, *,XJ]) (by simp[*,upS,XJ]) (by simp[upS])⟩
 try simp only[BN]at h4
 have hj:j=l.length:=by
  have:¬j<l.length:=by simpa using h4
  omega
 subst hj;rw[Nt]at e3;simp only[Qd]at e3;subst e3;clear h4 hone;refine(Xg ?_);refine X0<|(Xp (by simp[*,XJ];rfl) ?_);exact Qe ⟨.inr rfl,(),trivial,_,le_refl _,⟨[.one (.own 1)],by simp,rfl⟩,fun n o h=>h⟩
theorem X9p:∀l:List St,l.length<=X0j l
 |[]=>NK _
 | .mk o c v n t a b bs::l=>by
   have:=X9p l;unfold X0j szN;simp only[List.length_cons];omega
def lstC (b:Nat) (l:List St):Prop:=∀(sl:List Wv) (rows:List (List CD)) (d:Int),okB sl rows->rows.length+X0j l<=1000000->0<=d->d+X0j l<=1000000->sl.length<=1000000->
 Z7 prog 188 (some (pV b)) ((1,.row 250 1 (QS b sl))::Wt rows d) [.one (.c (.lit (pV b))),lS l,.one (.own 1)] (fun _:Unit=>True) (fun _=>.v (.one (.own 1))) (fun _=>(1,.row 250 1 (QS b (Qd l sl (rows,d)).2))::Wt (Qd l sl (rows,d)).1.1 (Qd l sl (rows,d)).1.2)
theorem X2E {b:Nat} {l:List St} (h:∀s∈l,oneC b s):lstC b l:=fun sl rows d h1 h2 h3 h4 h5=>list_con b l h sl rows d h1 h2 h3 h4 (by have:=X9p l;omega) h5
abbrev X3l (o c v n tq tn:Int) (tk:List Tm) (sa sb:List St) (bs:List Int):Ob:=.box [.c (iC o),.c (iC c),.c (iC v),.c (iC n),.c (iC tq),.c (iC tn),.c (.sl 3 (XA tk)),.c (.sl 10 (X7 sa)),.c (.sl 10 (X7 sb)),.c (.sl 1 (Xi bs))]
def ms6:List (Nat×List Nat):=[(511,[0,1,3,4]),(510,[1,3,4]),(509,[0,2,3,4]),(503,[0,1,4]),(495,[0,1,3]),(508,[2,3,4]),(502,[1,4]),(494,[1,3]),(505,[0,3,4]),(501,[0,2,4]),(493,[0,2,3]),(487,[0,1,5]),(504,[3,4]),(500,[2,4]),(492,[2,3]),(486,[1,5]),(497,[0,4]),(489,[0,3]),(485,[0,2,5]),(455,[0,1,6]),(496,[4]),(488,[3]),(484,[2,5]),(454,[1,6]),(481,[0,5]),(453,[0,2,6]),(391,[0,1]),(480,[5]),(452,[2,6]),(390,[1]),(449,[0,6]),(389,[0,2]),(448,[6]),(388,[2]),(385,[0]),(384,[7]),(256,[8])]
def ms7:List (Nat×List Nat):=[(2047,[0,1,2,4,5]),(2046,[1,2,4,5]),(2045,[0,2,4,5]),(2043,[0,1,3,4,5]),(2031,[0,1,2,5]),(2015,[0,1,2,4]),(2044,[2,4,5]),(2042,[1,3,4,5]),(2030,[1,2,5]),(2014,[1,2,4]),(2041,[0,3,4,5]),(2029,[0,2,5]),(2013,[0,2,4]),(2035,[0,1,4,5]),(2027,[0,1,3,5]),(2011,[0,1,3,4]),(1999,[0,1,2,6]),(2040,[3,4,5]),(2028,[2,5]),(2012,[2,4]),(2034,[1,4,5]),(2026,[1,3,5]),(2010,[1,3,4]),(1998,[1,2,6]),(2033,[0,4,5]),(2025,[0,3,5]),(2009,[0,3,4]),(1997,[0,2,6]),(2019,[0,1,5]),(2003,[0,1,4]),(1995,[0,1,3,6]),(1935,[0,1,2,7]),(2032,[4,5]),(2024,[3,5]),(2008,[3,4]),(1996,[2,6]),(2018,[1,5]),(2002,[1,4]),(1994,[1,3,6]),(1934,[1,2,7]),(2017,[0,5]),(2001,[0,4]),(1993,[0,3,6]),(1933,[0,2,7]),(1987,[0,1,6]),(1931,[0,1,3,7]),(1807,[0,1,2]),(2016,[5]),(2000,[4]),(1992,[3,6]),(1932,[2,7]),(1986,[1,6]),(1930,[1,3,7]),(1806,[1,2]),(1985,[0,6]),(1929,[0,3,7]),(1805,[0,2]),(1923,[0,1,7]),(1803,[0,1,3]),(1984,[6]),(1928,[3,7]),(1804,[2]),(1922,[1,7]),(1802,[1,3]),(1921,[0,7]),(1801,[0,3]),(1795,[0,1]),(1920,[7]),(1800,[3]),(1794,[1]),(1793,[0,8]),(1792,[8]),(1537,[0]),(1536,[9]),(1024,[10])]
def ms15:List (Nat×List Nat):=[(2047,[0,1,3,4,10]),(2046,[1,3,4,10]),(2045,[0,2,3,4,10]),(2039,[0,1,4,10]),(2031,[0,1,3,5,10]),(1023,[0,1,3,4]),(2044,[2,3,4,10]),(2038,[1,4,10]),(2030,[1,3,5,10]),(1022,[1,3,4]),(2041,[0,3,4,10]),(2037,[0,2,4,10]),(2029,[0,2,3,5,10]),(1021,[0,2,3,4]),(2023,[0,1,5,10]),(1015,[0,1,4]),(1999,[0,1,3,10]),(1007,[0,1,3,5]),(2040,[3,4,10]),(2036,[2,4,10]),(2028,[2,3,5,10]),(1020,[2,3,4]),(2022,[1,5,10]),(1014,[1,4]),(1998,[1,3,10]),(1006,[1,3,5]),(2033,[0,4,10]),(2025,[0,3,5,10]),(1017,[0,3,4]),(2021,[0,2,5,10]),(1013,[0,2,4]),(1997,[0,2,3,10]),(1005,[0,2,3,5]),(1991,[0,1,6,10]),(999,[0,1,5]),(975,[0,1,3]),(2032,[4,10]),(2024,[3,5,10]),(1016,[3,4]),(2020,[2,5,10]),(1012,[2,4]),(1996,[2,3,10]),(1004,[2,3,5]),(1990,[1,6,10]),(998,[1,5]),(974,[1,3]),(2017,[0,5,10]),(1009,[0,4]),(1993,[0,3,10]),(1001,[0,3,5]),(1989,[0,2,6,10]),(997,[0,2,5]),(973,[0,2,3]),(1927,[0,1,7,10]),(967,[0,1,6]),(2016,[5,10]),(1008,[4]),(1992,[3,10]),(1000,[3,5]),(1988,[2,6,10]),(996,[2,5]),(972,[2,3]),(1926,[1,7,10]),(966,[1,6]),(1985,[0,6,10]),(993,[0,5]),(969,[0,3]),(1925,[0,2,7,10]),(965,[0,2,6]),(1799,[0,1,10]),(903,[0,1,7]),(1984,[6,10]),(992,[5]),(968,[3]),(1924,[2,7,10]),(964,[2,6]),(1798,[1,10]),(902,[1,7]),(1921,[0,7,10]),(961,[0,6]),(1797,[0,2,10]),(901,[0,2,7]),(775,[0,1]),(1920,[7,10]),(960,[6]),(1796,[2,10]),(900,[2,7]),(774,[1]),(1793,[0,10]),(897,[0,7]),(773,[0,2]),(1792,[8,10]),(896,[7]),(772,[2]),(769,[0]),(1536,[9,10]),(768,[8]),(1024,[10]),(512,[9])]
def nx6 (b k:Nat) (B:Ob) (sa:List St) (x y:List (Nat×Ob)) (R:List Nat):HS:=
 {trS ⟨⟨100,some (pV b)⟩,[(0,.v (.one (.c (.lit (pV b))))),(2,lit (.int .i64 k)),(4,.v (.one (.at_ 4 0)))],[]⟩ [(0,23,.v (.one (.c (.lit (pV b))))),(1,24,.v (.one (.at_ 4 7))),(2,25,.v (lS sa)),(3,26,.v (.one (.c (.lit (pV b))))),(4,27,lit (.int .i64 k)),(5,28,.v (.one (.c (nxC b k)))),(6,29,.v (.one (.own 29))),(7,30,.v (.one (.own 30))),(8,7,.v (.one (.own 30)))] R with
  objs:=(4,B)::if R.contains 6 then x else if R.contains 7 then(29,.row 250 1 [[nxC b k]])::x else y}
def nx7 (b k:Nat) (B:Ob) (sb:List St) (r3 r4 r34:List (List CD)) (x y:List (Nat×Ob)) (R:List Nat):HS:=
 {trS ⟨⟨100,some (pV b)⟩,[(0,.v (.one (.c (.lit (pV b))))),(2,lit (.int .i64 k)),(4,.v (.one (.at_ 4 0))),(7,.v (.one (.own 30)))],[]⟩ [(0,31,.v (.one (.own 30))),(1,32,.v (.one (.c (.lit (pV b))))),(2,33,.v (.one (.at_ 4 8))),(3,34,.v (lS sb)),(4,35,.v (.one (.c (.lit (pV b))))),(5,36,lit (.int .i64 k)),(6,37,.v (.one (.c (otC b k)))),(7,38,.v (.one (.own 38))),(8,39,.v (.one (.own 39))),(9,40,.v (.one (.own 40))),(10,6,.v (.one (.own 40)))] R with
  objs:=(4,B)::if R.contains 7 then(30,.row 250 1 r3)::x else if R.contains 8 then(30,.row 250 1 r3)::(38,.row 250 1 [[otC b k]])::x else if R.contains 9 then(30,.row 250 1 r3)::(39,.row 250 1 r4)::y else(39,.row 250 1 r4)::(40,.row 250 1 r34)::y}
def X56 (b k:Nat) (B:Ob) (sa:List St) (nl:Nat) (x y:List (Nat×Ob)) (R:List Nat):HS:=
 {trS ⟨⟨100,some (pV b)⟩,[(0,.v (.one (.c (.lit (pV b))))),(2,lit (.int .i64 k)),(4,.v (.one (.at_ 4 0)))],[]⟩ [(0,63,.v (.one (.c (.lit (pV b))))),(1,64,.v (.one (.at_ 4 7))),(2,65,.v (lS sa)),(3,66,.v (.one (.c (.lit (pV b))))),(4,67,lit (.int .i64 k)),(5,68,lit (.int .i64 ((k:Int)+1))),(6,69,.v (.one (.c (nxC b (k+1))))),(7,70,.v (.one (.own 70))),(8,71,.v (.one (.own 71))),(9,72,lit (.int .i64 nl)),(10,73,lit (.int .i64 0))] R with
  objs:=(4,B)::if R.contains 7 then x else if R.contains 8 then(70,.row 250 1 [[nxC b (k+1)]])::x else y}
attribute [simp] nx6 nx7 X56
@[simp] theorem encSl_next (b k:Nat):QS b [(false,k)]=[[nxC b k]]:=rfl
@[simp] theorem encSl_oth (b k:Nat):QS b [(true,k)]=[[otC b k]]:=rfl
@[simp] theorem encSl_app (b:Nat) (x y:List Wv):QS b (x++y)=QS b x++QS b y:=by simp[QS]
set_option maxHeartbeats 8000000 in
theorem one_then (b:Nat) (o c v n tq tn:Int) (tk:List Tm) (sa sb:List St) (bs:List Int) (ha:lstC b sa) (hb:lstC b sb) (ho0:o=3):oneC b (.mk o c v n (.mk tq tn tk) sa sb bs):=by
 intro k rows d h4 hk hn hd hd2;subst hk;obtain⟨RES,hR⟩:∃x,Z8 (.mk o c v n (.mk tq tn tk) sa sb bs) rows.length (rows,d)=x:=⟨_,rfl⟩;rw[hR];simp only[szN]at hn hd2;unfold Z8 at hR;simp only[aS,St.enc,Tm.enc,Ni,Nr,List.cons_append,List.nil_append];refine XV Tryz.func227 rfl (by kernel_rfl) (NH rfl) X1f X7p ?_;simp only[Tryz.f227];have hw0:IntKind.i64.wrap (d+1)=d+1:=X9;have A3:=Z3 b rows d 3 (by omega);have A4:=Z3 b rows d 4 (by omega);have A2:=Z3 b rows d 2 (by omega);have A5:=Z3 b (rows++[XT 4 d]) d 5 (by simp;omega);refine X1 ?_;refine X0<|X0<|X2 ?_;refine X3<|X0<|X2 ?_;refine(X8 rfl (fun h3=>?_) (fun h3=>?_))
 ·(try simp only[BN]at h3);have ho:o=3:=ho0;rw[Na ho]at hR;clear A2 A4 A5;have cA:=ha [(false,rows.length)] (rows++[XT 3 d]) (d+1) ⟨Ww h4,by simp⟩ (by simp;omega) (by omega) (by omega) (by simp);have k1:=Ws sa [(false,rows.length)] (rows++[XT 3 d],d+1) ⟨Ww h4,by simp⟩;have l1:=ZE sa [(false,rows.length)] (rows++[XT 3 d],d+1);simp only at hR;obtain⟨⟨⟨rows3,d3⟩,sl3⟩,hx⟩:∃x,Qd sa [(false,rows.length)] (rows++[XT 3 d],d+1)=x:=⟨_,rfl⟩;simp only[hx]at hR cA k1 l1;obtain⟨a1,a2,a3,a4,a5⟩:=k1;simp only[N9,List.length_singleton]at a2 a3 l1;have cB:=hb [(true,rows.length)] rows3 d3 ⟨a1.four,by simp;omega⟩ (by omega) (by omega) (by omega) (by simp);have k2:=Ws sb [(true,rows.length)] (rows3,d3) ⟨a1.four,by simp;omega⟩;have l2:=ZE sb [(true,rows.length)] (rows3,d3);obtain⟨⟨⟨rows4,d4⟩,sl4⟩,hy⟩:∃x,Qd sb [(true,rows.length)] (rows3,d3)=x:=⟨_,rfl⟩;simp only[hy]at hR cB k2 l2;simp only[List.length_singleton]at l2;subst hR;have hroom:W4 (sl3.length+sl4.length) 8:=XX (by omega) (by decide);clear k2 hx hy;refine X0<|(Xw ?_);refine RunsN.cutE 1 [] (by simp;rfl) trivial (le_refl _) ?_;refine RunsN.callA (fun n=>n) (fun n=>if n=900001 then 101 else n) A3 fun _ _=>?_;refine RunsN.doneE [] (by simp[XJ,CV.ren];rfl) trivial ?_;refine XB (X4F (v:=pV b) 0 rfl rfl rfl) ?_;simp only[ins,Nat.reduceLT,Nat.reduceEqDiff,Nf,Nc];refine X1 ?_;refine XB (X4p (v:=pV b) 0 rfl rfl rfl) ?_;simp only[ins,Nat.reduceLT,Nat.reduceEqDiff,Nf,Nc];refine XB (s':=nx6 b rows.length (X3l 3 c v n tq tn tk sa sb bs) sa (Wt (rows++[XT 3 d]) (d+1)) [] (Zd 9 511)) ?_ ?_
  .refine Xl (fun n=>if n=900001 then 101 else n) [] rfl ?_ ?_ ?_
   .simp[nx6,trS, *]
   .simp[nx6, *]
   simp[nx6]
  refine X0<|(WQ (nx6 b rows.length (X3l 3 c v n tq tn tk sa sb bs) sa (Wt (rows++[XT 3 d]) (d+1)) ((30,.row 250 1 (QS b sl3))::(102,.row 195 4 rows3)::[(1000000,.box [.own 102,.c (iC d3)])])) 9 511 ms6 rfl (by kernel_rfl) (by kernel_rfl) (by kernel_rfl) (by kernel_rfl) (by simp[nx6,trS]) ?_ ?_)
  .simp only[ms6,X1C]
   repeat' apply And.intro
   all_goals first
    |(refine Q4.evE rfl ?_;simp[nx6,trS,ins,WR];done)
    | (refine Q4.ev [⟨false,.v (.one (.c (nxC b rows.length))),none⟩] rfl (by simp[nx6,trS,ins,WR];first|exact⟨rfl,Iff.rfl⟩|exact⟨rfl,trivial⟩|rfl) ?_ ?_
       .simpa using X1Y b rows.length 28
       simp[nx6,trS,ins])
    | (refine Q4.callA (fun n=>if n=1 then 29 else n) (fun n=>if n=1 then 30 else if n=900001 then 102 else n) cA rfl fun _ _=>?_
       simp[nx6,trS,ins,XJ,XU,del,CV.ren,Ob.ren])
  refine XB (s':=nx7 b rows.length (X3l 3 c v n tq tn tk sa sb bs) sb (QS b sl3) (QS b sl4) (QS b (sl3++sl4)) (Wt rows3 d3) ((103,.row 195 4 rows4)::[(1000000,.box [.own 103,.c (iC d4)])]) (Zd 11 2047)) ?_ ?_
  .refine Xl (fun n=>if n=900001 then 102 else n) [] rfl ?_ ?_ ?_
   .simp[nx6,nx7,trS, *]
   .simp[nx6,nx7, *]
   simp[nx7]
  refine X0<|(WQ (nx7 b rows.length (X3l 3 c v n tq tn tk sa sb bs) sb (QS b sl3) (QS b sl4) (QS b (sl3++sl4)) (Wt rows3 d3) ((103,.row 195 4 rows4)::[(1000000,.box [.own 103,.c (iC d4)])])) 11 2047 ms7 rfl (by kernel_rfl) (by kernel_rfl) (by kernel_rfl) (by kernel_rfl) (by simp[nx7,trS]) ?_ ?_)
  .simp only[ms7,X1C]
   repeat' apply And.intro
   all_goals first
    |(refine Q4.evE rfl ?_;simp[nx7,trS,ins,WR,hroom];done)
    | (refine Q4.ev [⟨false,.v (.one (.c (otC b rows.length))),none⟩] rfl (by simp[nx7,trS,ins,WR];first|exact⟨rfl,Iff.rfl⟩|exact⟨rfl,trivial⟩|rfl) ?_ ?_
       .simpa using X4v b rows.length 37
       simp[nx7,trS,ins])
    | (refine Q4.callA (fun n=>if n=1 then 38 else n) (fun n=>if n=1 then 39 else if n=900001 then 103 else n) cB rfl fun _ _=>?_
       simp[nx7,trS,ins,XJ,XU,del,CV.ren,Ob.ren])
  exact Qe ⟨.inr rfl,(),trivial,⟨⟨100,some (pV b)⟩,[(6,.v (.one (.own 1)))],(1,.row 250 1 (QS b (sl3++sl4)))::Wt rows4 d4⟩,Xl (fun n=>if n=1 then 40 else if n=900001 then 103 else n) [] rfl (by simp[nx7,trS]) (by simp[nx7]) (by simp),⟨[.one (.own 1)],by simp,rfl⟩,fun n o h=>h⟩
 cases h3
set_option maxHeartbeats 8000000 in
theorem Xc4 (b:Nat) (o c v n tq tn:Int) (tk:List Tm) (sa sb:List St) (bs:List Int) (ha:lstC b sa) (hb:lstC b sb) (ho3:¬o=3) (ho0:¬o=4):oneC b (.mk o c v n (.mk tq tn tk) sa sb bs):=by
 intro k rows d h4 hk hn hd hd2;subst hk;obtain⟨RES,hR⟩:∃x,Z8 (.mk o c v n (.mk tq tn tk) sa sb bs) rows.length (rows,d)=x:=⟨_,rfl⟩;rw[hR];simp only[szN]at hn hd2;unfold Z8 at hR;simp only[aS,St.enc,Tm.enc,Ni,Nr,List.cons_append,List.nil_append];refine XV Tryz.func227 rfl (by kernel_rfl) (NH rfl) X1f X7p ?_;simp only[Tryz.f227];have hw0:IntKind.i64.wrap (d+1)=d+1:=X9;have A3:=Z3 b rows d 3 (by omega);have A4:=Z3 b rows d 4 (by omega);have A2:=Z3 b rows d 2 (by omega);have A5:=Z3 b (rows++[XT 4 d]) d 5 (by simp;omega);refine X1 ?_;refine X0<|X0<|X2 ?_;refine X3<|X0<|X2 ?_;refine(X8 rfl (fun h3=>?_) (fun h3=>?_))
 .cases h3
 (try simp only[BN]at h3);have ho:¬o=3:=ho3;rw[N7 ho]at hR;clear A3;refine X1 ?_;refine(Xc rfl (fun h10=>?_) fun h10=>?_)
 .cases h10
 (try simp only[BN]at h10);have ho4:¬o=4:=ho0;rw[N7 ho4]at hR;subst hR;clear A4 A5 h3 h10;refine X0<|(Xw ?_);refine RunsN.cutE 1 [] (by simp;rfl) trivial (le_refl _) ?_;refine RunsN.callA (fun n=>n) (fun n=>if n=900001 then 101 else n) A2 fun _ _=>?_;refine RunsN.doneE [] (by simp[XJ,CV.ren];rfl) trivial ?_;refine XB (X4F (v:=pV b) 0 rfl rfl rfl) ?_;simp only[ins,Nat.reduceLT,Nat.reduceEqDiff,Nf,Nc];refine X1 ?_;refine XB (X4p (v:=pV b) 0 rfl rfl rfl) ?_;simp only[ins,Nat.reduceLT,Nat.reduceEqDiff,Nf,Nc];refine Xk [⟨false,.v (.one (.c (nxC b rows.length))),none⟩] ?_ ?_
 .first|exact X1Y b rows.length 98|exact trivial|simpa[*]using X1Y b rows.length 98
 exact Qe ⟨.inr rfl,(),trivial,⟨⟨100,some (pV b)⟩,[(6,.v (.one (.own 1)))],(1,.row 250 1 (QS b [(false,rows.length)]))::Wt (rows++[XT 2 d]) (d+1)⟩,Xl (fun n=>if n=1 then 99 else if n=900001 then 101 else n) [] rfl (by simp) (by simp[QS, *]) (by simp),⟨[.one (.own 1)],by simp,rfl⟩,fun n o h=>h⟩
set_option maxHeartbeats 8000000 in
theorem one_loop (b:Nat) (o c v n tq tn:Int) (tk:List Tm) (sa sb:List St) (bs:List Int) (ha:lstC b sa) (hb:lstC b sb) (ho3:¬o=3) (ho0:o=4):oneC b (.mk o c v n (.mk tq tn tk) sa sb bs):=by
 intro k rows d h4 hk hn hd hd2;subst hk;obtain⟨RES,hR⟩:∃x,Z8 (.mk o c v n (.mk tq tn tk) sa sb bs) rows.length (rows,d)=x:=⟨_,rfl⟩;rw[hR];simp only[szN]at hn hd2;unfold Z8 at hR;simp only[aS,St.enc,Tm.enc,Ni,Nr,List.cons_append,List.nil_append];refine XV Tryz.func227 rfl (by kernel_rfl) (NH rfl) X1f X7p ?_;simp only[Tryz.f227];have hw0:IntKind.i64.wrap (d+1)=d+1:=X9;have A3:=Z3 b rows d 3 (by omega);have A4:=Z3 b rows d 4 (by omega);have A2:=Z3 b rows d 2 (by omega);have A5:=Z3 b (rows++[XT 4 d]) d 5 (by simp;omega);refine X1 ?_;refine X0<|X0<|X2 ?_;refine X3<|X0<|X2 ?_;refine(X8 rfl (fun h3=>?_) (fun h3=>?_))
 .cases h3
 (try simp only[BN]at h3);have ho:¬o=3:=ho3;rw[N7 ho]at hR;clear A3;refine X1 ?_;refine(Xc rfl (fun h10=>?_) fun h10=>?_)
 ·(try simp only[BN]at h10);have ho4:o=4:=ho0;rw[Na ho4]at hR;clear A2 h10 h3;have hin:rows.length<(rows++[XT 4 d]++[XT 5 d]).length:=by simp
  have hw1:IntKind.i64.wrap ((rows.length:Int)+1)=(rows.length:Int)+1:=X9;refine X0<|(Xw ?_);refine RunsN.cutE 1 [] (by simp;rfl) trivial (le_refl _) ?_;refine RunsN.callA (fun n=>n) (fun n=>if n=900001 then 101 else n) A4 fun _ _=>?_;refine RunsN.doneE [] (by simp[XJ,CV.ren];rfl) trivial ?_;refine XB (s':=⟨⟨100,some (pV b)⟩,[(0,.v (.one (.c (.lit (pV b))))),(2,lit (.int .i64 rows.length)),(4,.v (.one (.at_ 4 0)))],(4,X3l 4 c v n tq tn tk sa sb bs)::Wt (rows++[XT 4 d]) d⟩) (Xl (fun n=>if n=900001 then 101 else n) [] rfl (by simp) (by simp[*]) (by simp)) ?_;refine X0<|(Xw ?_);refine RunsN.cutE 1 [] (by simp;rfl) trivial (le_refl _) ?_;refine RunsN.callA (fun n=>n) (fun n=>if n=900001 then 101 else n) A5 fun _ _=>?_;refine RunsN.doneE [] (by simp[XJ,CV.ren];rfl) trivial ?_;refine XB (s':=⟨⟨100,some (pV b)⟩,[(0,.v (.one (.c (.lit (pV b))))),(2,lit (.int .i64 rows.length)),(4,.v (.one (.at_ 4 0)))],(4,X3l 4 c v n tq tn tk sa sb bs)::Wt (rows++[XT 4 d]++[XT 5 d]) d⟩) (Xl (fun n=>if n=900001 then 101 else n) [] rfl (by simp) (by simp) (by simp)) ?_;refine XB (X4F (v:=pV b) 0 rfl rfl rfl) ?_;simp only[ins,Nat.reduceLT,Nat.reduceEqDiff,Nf,Nc];refine X1 ?_;refine X1 ?_;have hRW:setRow (rows++[XT 4 d]++[XT 5 d]) rows.length 2 [iC ((rows.length:Int)+1)]=rows++[[iC 4,iC d,iC ((rows.length:Int)+1),iC (-1)],XT 5 d]:=by simp[setRow]
  simp only[hRW]at hR
  have k0:okB [(false,rows.length+1)] (rows++[[iC 4,iC d,iC ((rows.length:Int)+1),iC (-1)],XT 5 d]):=by
   rw[<-hRW];exact⟨X0u (Ww (Ww h4)) (by omega),by simp[WH]⟩
  have cA:=ha [(false,rows.length+1)] (rows++[[iC 4,iC d,iC ((rows.length:Int)+1),iC (-1)],XT 5 d]) (d+1) k0 (by simp;omega) (by omega) (by omega) (by simp);have k1:=Ws sa [(false,rows.length+1)] (rows++[[iC 4,iC d,iC ((rows.length:Int)+1),iC (-1)],XT 5 d],d+1) k0;have l1:=ZE sa [(false,rows.length+1)] (rows++[[iC 4,iC d,iC ((rows.length:Int)+1),iC (-1)],XT 5 d],d+1);obtain⟨⟨⟨rows3,d3⟩,sl3⟩,hx⟩:∃x,Qd sa [(false,rows.length+1)] (rows++[[iC 4,iC d,iC ((rows.length:Int)+1),iC (-1)],XT 5 d],d+1)=x:=⟨_,rfl⟩;simp only[hx,List.length_singleton]at hR cA k1 l1;obtain⟨a1,a2,a3,a4,a5⟩:=k1;clear hRW hx k0 A4 A5;refine XB (X4p (v:=pV b) 0 rfl rfl rfl) ?_;simp only[ins,Nat.reduceLT,Nat.reduceEqDiff,Nf,Nc];refine XB (s':=X56 b rows.length (X3l 4 c v n tq tn tk sa sb bs) sa sl3.length (Wt (rows++[[iC 4,iC d,iC ((rows.length:Int)+1),iC (-1)],XT 5 d]) (d+1)) ((71,.row 250 1 (QS b sl3))::(102,.row 195 4 rows3)::[(1000000,.box [.own 102,.c (iC d3)])]) (Zd 11 2047)) ?_ ?_
  .refine Xl (fun n=>n) [] rfl ?_ ?_ ?_
   .simp[X56,trS, *]
   .simp[X56, *]
   simp[X56]
  refine X0<|X0<|(WQ (X56 b rows.length (X3l 4 c v n tq tn tk sa sb bs) sa sl3.length (Wt (rows++[[iC 4,iC d,iC ((rows.length:Int)+1),iC (-1)],XT 5 d]) (d+1)) ((71,.row 250 1 (QS b sl3))::(102,.row 195 4 rows3)::[(1000000,.box [.own 102,.c (iC d3)])])) 11 2047 ms15 rfl (by kernel_rfl) (by kernel_rfl) (by kernel_rfl) (by kernel_rfl) (by simp[X56,trS]) ?_ ?_)
  .simp only[ms15,X1C]
   repeat' apply And.intro
   all_goals first
    |(refine Q4.evE rfl ?_;simp[X56,trS,ins,WR,hw1];done)
    | (refine Q4.ev [⟨false,.v (.one (.c (nxC b (rows.length+1)))),none⟩] rfl (by simp[X56,trS,ins,WR];first|exact⟨rfl,Iff.rfl⟩|exact⟨rfl,trivial⟩|rfl) ?_ ?_
       .simpa using X1Y b (rows.length+1) 69
       simp[X56,trS,ins])
    | (refine Q4.callA (fun n=>if n=1 then 70 else n) (fun n=>if n=1 then 71 else if n=900001 then 102 else n) cA rfl fun _ _=>?_
       simp[X56,trS,ins,XJ,XU,del,CV.ren,Ob.ren])
  refine X3<|(Xd [] (fun(x:Nat×List (List CD))=>[(0,.v (.one (.c (.lit (pV b))))),(2,lit (.int .i64 rows.length)),(71,.v (.one (.own 71))),(72,lit (.int .i64 sl3.length)),(73,lit (.int .i64 x.1))]) (fun(x:Nat×List (List CD))=>(4,X3l 4 c v n tq tn tk sa sb bs)::(71,.row 250 1 (QS b sl3))::Wt x.2 d3) (fun(x:Nat×List (List CD))=>x.1<=sl3.length/\XD (rows.length+1) (sl3.drop x.1) x.2=XD (rows.length+1) sl3 rows3/\(∀r∈x.2,r.length=4)/\x.2.length=rows3.length) (fun(x:Nat×List (List CD))=>sl3.length - x.1) (0,rows3) ⟨Nq _,rfl,a1.four,rfl⟩ ?_ ?_)
  .exact Xl (fun n=>if n=900001 then 102 else n) [] rfl (by simp[upS,X5,trS]) (by simp[upS]) (by simp[upS])
  rintro⟨i,rows2⟩ ⟨g1,g2,g3,g4⟩;simp only[upS,X5,Xy]
  try simp only[X5,KN,Nat.reduceBEq,Nf,Nc,ins,Nat.reduceLT]
  simp only at g1 g2 g3 g4;simp only[X56,trS];refine X1 ?_;refine X0<|(X8 rfl (fun h18=>Xb ?_) (fun h18=>?_))
  ·(try simp only[BN]at h18);have hi:i<sl3.length:=by simpa using h18
   obtain⟨q,hq,hqd⟩:=Xu hi;have hqe:=X4l (b:=b) hq;rw[hqd]at g2;simp only[XD]at g2;have cq:=X5A b rows2 d3 (rows.length+1) q g3 (by have:=a1.lt q (N3 hq);omega);have hw:=XE hi (by omega:sl3.length<=1000000000);have hin2:i+1<=sl3.length:=hi;clear hi hq h18 hqd;refine X0<|X3<|X0<|X2 ?_;refine(Xw ?_);refine RunsN.cutE 3 [] (by simp[hw1];rfl) trivial (le_refl _) ?_;refine RunsN.callA (fun n=>n) (fun n=>if n=900001 then 101 else n) cq fun _ _=>?_;refine RunsN.doneE [] (by simp[XJ,CV.ren,Ob.ren];rfl) trivial ?_;refine X2 ?_;exact⟨(i+1,X0y rows2 q (rows.length+1)),⟨hin2,g2,X03 g3,(X1x ..).trans g4⟩,by simp only;omega,X4 (fun n=>if n=900001 then 101 else n) []⟩
  try simp only[BN]at h18
  have hi:i=sl3.length:=by
   have:¬i<sl3.length:=by simpa using h18
   omega
  subst hi;rw[Nt]at g2;simp only[XD]at g2;rw[<-g2]at hR;subst hR;clear h18;refine(Xg ?_);refine X0<|(Wj [⟨false,.v (.one (.c (otC b (rows.length+1)))),none⟩] (by simp[*,hw1];first|exact⟨rfl,Iff.rfl⟩|exact⟨rfl,trivial⟩|rfl) ?_ ?_)
  .first|exact X4v b (rows.length+1) 85|exact trivial|simpa[*,hw1]using X4v b (rows.length+1) 85
  exact Qe ⟨.inr rfl,(),trivial,⟨⟨100,some (pV b)⟩,[(6,.v (.one (.own 1)))],(1,.row 250 1 (QS b [(true,rows.length+1)]))::Wt rows2 d3⟩,Xl (fun n=>if n=1 then 86 else n) [] rfl (by simp) (by simp[QS, *]) (by simp),⟨[.one (.own 1)],by simp,rfl⟩,fun n o h=>h⟩
 cases h10
theorem one_con (b:Nat) (o c v n tq tn:Int) (tk:List Tm) (sa sb:List St) (bs:List Int) (ha:lstC b sa) (hb:lstC b sb):oneC b (.mk o c v n (.mk tq tn tk) sa sb bs):=by
 by_cases h3:o=3
 .exact one_then b o c v n tq tn tk sa sb bs ha hb h3
 by_cases h4:o=4
 .exact one_loop b o c v n tq tn tk sa sb bs ha hb h3 h4
 exact Xc4 b o c v n tq tn tk sa sb bs ha hb h3 h4
end Go.Proofs.YtdajceakaakdoaaGreat
