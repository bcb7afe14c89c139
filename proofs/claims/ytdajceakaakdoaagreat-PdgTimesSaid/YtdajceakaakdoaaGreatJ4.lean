/- Contracts of functions and plain facts about what they compute. Conditions: as each theorem states. -/
import Derived.Test.YtdajceakaakdoaaGreatJ2
set_option linter.unusedSimpArgs false
set_option linter.unusedVariables false
set_option linter.unnecessarySimpa false
set_option maxRecDepth 100000
set_option maxHeartbeats 2000000
namespace Go.Proofs.YtdajceakaakdoaaGreat
open Go Go.Hl
open Tryz(prog)
theorem Xa8:∀l:List St,l.length<=X0l l
 |[]=>NI _
 | .mk o c v n t a b bs::l=>by
   have:=Xa8 l;unfold X0l szN;simp only[List.length_cons];omega
def lstC (b:Nat) (l:List St):Prop:=∀(sl:List Ww) (rows:N1) (d:Int),okB sl rows->rows.length+X0l l<=1000000->0<=d->d+X0l l<=1000000->sl.length<=1000000->
 X0V prog 188 (some (pV b)) ((1,.row 250 1 (QR b sl))::Wy rows d) [.one (.c (.lit (pV b))),lS l,.one (.own 1)] (fun _:Unit=>True) (fun _=>.v (.one (.own 1))) (fun _=>(1,.row 250 1 (QR b (Qb l sl (rows,d)).2))::Wy (Qb l sl (rows,d)).1.1 (Qb l sl (rows,d)).1.2)
theorem X38 {b:Nat} {l:List St} (h:∀s∈l,oneC b s):lstC b l:=fun sl rows d h1 h2 h3 h4 h5=>list_con b l h sl rows d h1 h2 h3 h4 (by have:=Xa8 l;omega) h5
abbrev X4z (o c v n tq tn:Int) (tk:List Tm) (sa sb:List St) (bs:List Int):Ob:=.box [.c (iC o),.c (iC c),.c (iC v),.c (iC n),.c (iC tq),.c (iC tn),.c (.sl 3 (Xx tk)),.c (.sl 10 (X7 sa)),.c (.sl 10 (X7 sb)),.c (.sl 1 (X9 bs))]
def ms6:List (Nat×List Nat):=[(511,[0,1,3,4]),(510,[1,3,4]),(509,[0,2,3,4]),(503,[0,1,4]),(495,[0,1,3]),(508,[2,3,4]),(502,[1,4]),(494,[1,3]),(505,[0,3,4]),(501,[0,2,4]),(493,[0,2,3]),(487,[0,1,5]),(504,[3,4]),(500,[2,4]),(492,[2,3]),(486,[1,5]),(497,[0,4]),(489,[0,3]),(485,[0,2,5]),(455,[0,1,6]),(496,[4]),(488,[3]),(484,[2,5]),(454,[1,6]),(481,[0,5]),(453,[0,2,6]),(391,[0,1]),(480,[5]),(452,[2,6]),(390,[1]),(449,[0,6]),(389,[0,2]),(448,[6]),(388,[2]),(385,[0]),(384,[7]),(256,[8])]
def ms7:List (Nat×List Nat):=[(2047,[0,1,2,4,5]),(2046,[1,2,4,5]),(2045,[0,2,4,5]),(2043,[0,1,3,4,5]),(2031,[0,1,2,5]),(2015,[0,1,2,4]),(2044,[2,4,5]),(2042,[1,3,4,5]),(2030,[1,2,5]),(2014,[1,2,4]),(2041,[0,3,4,5]),(2029,[0,2,5]),(2013,[0,2,4]),(2035,[0,1,4,5]),(2027,[0,1,3,5]),(2011,[0,1,3,4]),(1999,[0,1,2,6]),(2040,[3,4,5]),(2028,[2,5]),(2012,[2,4]),(2034,[1,4,5]),(2026,[1,3,5]),(2010,[1,3,4]),(1998,[1,2,6]),(2033,[0,4,5]),(2025,[0,3,5]),(2009,[0,3,4]),(1997,[0,2,6]),(2019,[0,1,5]),(2003,[0,1,4]),(1995,[0,1,3,6]),(1935,[0,1,2,7]),(2032,[4,5]),(2024,[3,5]),(2008,[3,4]),(1996,[2,6]),(2018,[1,5]),(2002,[1,4]),(1994,[1,3,6]),(1934,[1,2,7]),(2017,[0,5]),(2001,[0,4]),(1993,[0,3,6]),(1933,[0,2,7]),(1987,[0,1,6]),(1931,[0,1,3,7]),(1807,[0,1,2]),(2016,[5]),(2000,[4]),(1992,[3,6]),(1932,[2,7]),(1986,[1,6]),(1930,[1,3,7]),(1806,[1,2]),(1985,[0,6]),(1929,[0,3,7]),(1805,[0,2]),(1923,[0,1,7]),(1803,[0,1,3]),(1984,[6]),(1928,[3,7]),(1804,[2]),(1922,[1,7]),(1802,[1,3]),(1921,[0,7]),(1801,[0,3]),(1795,[0,1]),(1920,[7]),(1800,[3]),(1794,[1]),(1793,[0,8]),(1792,[8]),(1537,[0]),(1536,[9]),(1024,[10])]
def ms15:List (Nat×List Nat):=[(2047,[0,1,3,4,10]),(2046,[1,3,4,10]),(2045,[0,2,3,4,10]),(2039,[0,1,4,10]),(2031,[0,1,3,5,10]),(1023,[0,1,3,4]),(2044,[2,3,4,10]),(2038,[1,4,10]),(2030,[1,3,5,10]),(1022,[1,3,4]),(2041,[0,3,4,10]),(2037,[0,2,4,10]),(2029,[0,2,3,5,10]),(1021,[0,2,3,4]),(2023,[0,1,5,10]),(1015,[0,1,4]),(1999,[0,1,3,10]),(1007,[0,1,3,5]),(2040,[3,4,10]),(2036,[2,4,10]),(2028,[2,3,5,10]),(1020,[2,3,4]),(2022,[1,5,10]),(1014,[1,4]),(1998,[1,3,10]),(1006,[1,3,5]),(2033,[0,4,10]),(2025,[0,3,5,10]),(1017,[0,3,4]),(2021,[0,2,5,10]),(1013,[0,2,4]),(1997,[0,2,3,10]),(1005,[0,2,3,5]),(1991,[0,1,6,10]),(999,[0,1,5]),(975,[0,1,3]),(2032,[4,10]),(2024,[3,5,10]),(1016,[3,4]),(2020,[2,5,10]),(1012,[2,4]),(1996,[2,3,10]),(1004,[2,3,5]),(1990,[1,6,10]),(998,[1,5]),(974,[1,3]),(2017,[0,5,10]),(1009,[0,4]),(1993,[0,3,10]),(1001,[0,3,5]),(1989,[0,2,6,10]),(997,[0,2,5]),(973,[0,2,3]),(1927,[0,1,7,10]),(967,[0,1,6]),(2016,[5,10]),(1008,[4]),(1992,[3,10]),(1000,[3,5]),(1988,[2,6,10]),(996,[2,5]),(972,[2,3]),(1926,[1,7,10]),(966,[1,6]),(1985,[0,6,10]),(993,[0,5]),(969,[0,3]),(1925,[0,2,7,10]),(965,[0,2,6]),(1799,[0,1,10]),(903,[0,1,7]),(1984,[6,10]),(992,[5]),(968,[3]),(1924,[2,7,10]),(964,[2,6]),(1798,[1,10]),(902,[1,7]),(1921,[0,7,10]),(961,[0,6]),(1797,[0,2,10]),(901,[0,2,7]),(775,[0,1]),(1920,[7,10]),(960,[6]),(1796,[2,10]),(900,[2,7]),(774,[1]),(1793,[0,10]),(897,[0,7]),(773,[0,2]),(1792,[8,10]),(896,[7]),(772,[2]),(769,[0]),(1536,[9,10]),(768,[8]),(1024,[10]),(512,[9])]
def nx6 (b k:Nat) (B:Ob) (sa:List St) (x y:N2) (R:List Nat):HS:=
 {trS ⟨⟨100,some (pV b)⟩,[(0,.v (.one (.c (.lit (pV b))))),(2,lit (.int .i64 k)),(4,.v (.one (.at_ 4 0)))],[]⟩ [(0,23,.v (.one (.c (.lit (pV b))))),(1,24,.v (.one (.at_ 4 7))),(2,25,.v (lS sa)),(3,26,.v (.one (.c (.lit (pV b))))),(4,27,lit (.int .i64 k)),(5,28,.v (.one (.c (nxC b k)))),(6,29,.v (.one (.own 29))),(7,30,.v (.one (.own 30))),(8,7,.v (.one (.own 30)))] R with
  objs:=(4,B)::if R.contains 6 then x else if R.contains 7 then(29,.row 250 1 [[nxC b k]])::x else y}
def nx7 (b k:Nat) (B:Ob) (sb:List St) (r3 r4 r34:N1) (x y:N2) (R:List Nat):HS:=
 {trS ⟨⟨100,some (pV b)⟩,[(0,.v (.one (.c (.lit (pV b))))),(2,lit (.int .i64 k)),(4,.v (.one (.at_ 4 0))),(7,.v (.one (.own 30)))],[]⟩ [(0,31,.v (.one (.own 30))),(1,32,.v (.one (.c (.lit (pV b))))),(2,33,.v (.one (.at_ 4 8))),(3,34,.v (lS sb)),(4,35,.v (.one (.c (.lit (pV b))))),(5,36,lit (.int .i64 k)),(6,37,.v (.one (.c (otC b k)))),(7,38,.v (.one (.own 38))),(8,39,.v (.one (.own 39))),(9,40,.v (.one (.own 40))),(10,6,.v (.one (.own 40)))] R with
  objs:=(4,B)::if R.contains 7 then(30,.row 250 1 r3)::x else if R.contains 8 then(30,.row 250 1 r3)::(38,.row 250 1 [[otC b k]])::x else if R.contains 9 then(30,.row 250 1 r3)::(39,.row 250 1 r4)::y else(39,.row 250 1 r4)::(40,.row 250 1 r34)::y}
def X5v (b k:Nat) (B:Ob) (sa:List St) (nl:Nat) (x y:N2) (R:List Nat):HS:=
 {trS ⟨⟨100,some (pV b)⟩,[(0,.v (.one (.c (.lit (pV b))))),(2,lit (.int .i64 k)),(4,.v (.one (.at_ 4 0)))],[]⟩ [(0,63,.v (.one (.c (.lit (pV b))))),(1,64,.v (.one (.at_ 4 7))),(2,65,.v (lS sa)),(3,66,.v (.one (.c (.lit (pV b))))),(4,67,lit (.int .i64 k)),(5,68,lit (.int .i64 ((k:Int)+1))),(6,69,.v (.one (.c (nxC b (k+1))))),(7,70,.v (.one (.own 70))),(8,71,.v (.one (.own 71))),(9,72,lit (.int .i64 nl)),(10,73,lit (.int .i64 0))] R with
  objs:=(4,B)::if R.contains 7 then x else if R.contains 8 then(70,.row 250 1 [[nxC b (k+1)]])::x else y}
attribute [simp] nx6 nx7 X5v
@[simp] theorem encSl_next (b k:Nat):QR b [(false,k)]=[[nxC b k]]:=rfl
@[simp] theorem encSl_oth (b k:Nat):QR b [(true,k)]=[[otC b k]]:=rfl
@[simp] theorem encSl_app (b:Nat) (x y:List Ww):QR b (x++y)=QR b x++QR b y:=by simp[QR]
set_option maxHeartbeats 8000000 in
theorem one_then (b:Nat) (o c v n tq tn:Int) (tk:List Tm) (sa sb:List St) (bs:List Int) (ha:lstC b sa) (hb:lstC b sb) (ho0:o=3):oneC b (.mk o c v n (.mk tq tn tk) sa sb bs):=by
 intro k rows d h4 hk hn hd hd2;subst hk;obtain⟨RES,hR⟩:∃x,Zf (.mk o c v n (.mk tq tn tk) sa sb bs) rows.length (rows,d)=x:=⟨_,rfl⟩;rw[hR];simp only[szN]at hn hd2;unfold Zf at hR;simp only[aS,St.enc,Tm.enc,Nk,Nr,List.cons_append,List.nil_append];refine Qn Tryz.func227 rfl (by kernel_rfl) (NL rfl) X1w X8M ?_;simp only[Tryz.f227];have hw0:IntKind.i64.wrap (d+1)=d+1:=Xa;have A3:=Zb b rows d 3 (by omega);have A4:=Zb b rows d 4 (by omega);have A2:=Zb b rows d 2 (by omega);have A5:=Zb b (rows++[XQ 4 d]) d 5 (by simp;omega);refine X2 ?_;refine X0<|X0<|X1 ?_;refine X3<|X0<|X1 ?_;refine(X6 rfl (fun h3=>?_) (fun h3=>?_))
 ·simp only at h3;have ho:o=3:=ho0;rw[N8 ho]at hR;clear A2 A4 A5;have cA:=ha [(false,rows.length)] (rows++[XQ 3 d]) (d+1) ⟨Wv h4,by simp⟩ (by simp;omega) (by omega) (by omega) (by simp);have k1:=Wt sa [(false,rows.length)] (rows++[XQ 3 d],d+1) ⟨Wv h4,by simp⟩;have l1:=ZN sa [(false,rows.length)] (rows++[XQ 3 d],d+1);simp only at hR;obtain⟨⟨⟨rows3,d3⟩,sl3⟩,hx⟩:∃x,Qb sa [(false,rows.length)] (rows++[XQ 3 d],d+1)=x:=⟨_,rfl⟩;simp only[hx]at hR cA k1 l1;obtain⟨a1,a2,a3,a4,a5⟩:=k1;simp only[Na,List.length_singleton]at a2 a3 l1;have cB:=hb [(true,rows.length)] rows3 d3 ⟨a1.four,by simp;omega⟩ (by omega) (by omega) (by omega) (by simp);have k2:=Wt sb [(true,rows.length)] (rows3,d3) ⟨a1.four,by simp;omega⟩;have l2:=ZN sb [(true,rows.length)] (rows3,d3);obtain⟨⟨⟨rows4,d4⟩,sl4⟩,hy⟩:∃x,Qb sb [(true,rows.length)] (rows3,d3)=x:=⟨_,rfl⟩;simp only[hy]at hR cB k2 l2;simp only[List.length_singleton]at l2;subst hR;have hroom:W5 (sl3.length+sl4.length) 8:=Qc (by omega) (by decide);clear k2 hx hy;refine X0<|(XJ ?_);refine RunsN.cutE 1 [] (by simp;rfl) trivial (le_refl _) ?_;refine RunsN.callA (fun n=>n) (fun n=>if n=900001 then 101 else n) A3 fun _ _=>?_;refine RunsN.doneE [] (by simp[Qa,CV.ren];rfl) trivial ?_;refine XC (X4M (v:=pV b) 0 rfl rfl rfl) ?_;simp only[ins,Nat.reduceLT,Nat.reduceEqDiff,Nj,Nc];refine X2 ?_;refine XC (X4L (v:=pV b) 0 rfl rfl rfl) ?_;simp only[ins,Nat.reduceLT,Nat.reduceEqDiff,Nj,Nc];refine XC (s':=nx6 b rows.length (X4z 3 c v n tq tn tk sa sb bs) sa (Wy (rows++[XQ 3 d]) (d+1)) [] (Zk 9 511)) ?_ ?_
  .refine Xw (fun n=>if n=900001 then 101 else n) [] rfl ?_ ?_ ?_
   .simp[nx6,trS, *]
   .simp[nx6, *]
   simp[nx6]
  refine X0<|(Wj (nx6 b rows.length (X4z 3 c v n tq tn tk sa sb bs) sa (Wy (rows++[XQ 3 d]) (d+1)) ((30,.row 250 1 (QR b sl3))::(102,.row 195 4 rows3)::[(1000000,.box [.own 102,.c (iC d3)])])) 9 511 ms6 rfl (by kernel_rfl) (by kernel_rfl) (by kernel_rfl) (by kernel_rfl) (by simp[nx6,trS]) ?_ ?_)
  .simp only[ms6,X1E]
   repeat' apply And.intro
   all_goals first
    |(refine XP.evE rfl ?_;simp[nx6,trS,ins];done)
    | (refine XP.ev [⟨false,.v (.one (.c (nxC b rows.length))),none⟩] rfl (by simp[nx6,trS,ins];first|exact⟨rfl,Iff.rfl⟩|exact⟨rfl,trivial⟩|rfl) ?_ ?_
       .simpa using X2f b rows.length 28
       simp[nx6,trS,ins])
    | (refine XP.callA (fun n=>if n=1 then 29 else n) (fun n=>if n=1 then 30 else if n=900001 then 102 else n) cA rfl fun _ _=>?_
       simp[nx6,trS,ins,Qa,QE,del,CV.ren,Ob.ren])
  refine XC (s':=nx7 b rows.length (X4z 3 c v n tq tn tk sa sb bs) sb (QR b sl3) (QR b sl4) (QR b (sl3++sl4)) (Wy rows3 d3) ((103,.row 195 4 rows4)::[(1000000,.box [.own 103,.c (iC d4)])]) (Zk 11 2047)) ?_ ?_
  .refine Xw (fun n=>if n=900001 then 102 else n) [] rfl ?_ ?_ ?_
   .simp[nx6,nx7,trS, *]
   .simp[nx6,nx7, *]
   simp[nx7]
  refine X0<|(Wj (nx7 b rows.length (X4z 3 c v n tq tn tk sa sb bs) sb (QR b sl3) (QR b sl4) (QR b (sl3++sl4)) (Wy rows3 d3) ((103,.row 195 4 rows4)::[(1000000,.box [.own 103,.c (iC d4)])])) 11 2047 ms7 rfl (by kernel_rfl) (by kernel_rfl) (by kernel_rfl) (by kernel_rfl) (by simp[nx7,trS]) ?_ ?_)
  .simp only[ms7,X1E]
   repeat' apply And.intro
   all_goals first
    |(refine XP.evE rfl ?_;simp[nx7,trS,ins,hroom];done)
    | (refine XP.ev [⟨false,.v (.one (.c (otC b rows.length))),none⟩] rfl (by simp[nx7,trS,ins];first|exact⟨rfl,Iff.rfl⟩|exact⟨rfl,trivial⟩|rfl) ?_ ?_
       .simpa using X4J b rows.length 37
       simp[nx7,trS,ins])
    | (refine XP.callA (fun n=>if n=1 then 38 else n) (fun n=>if n=1 then 39 else if n=900001 then 103 else n) cB rfl fun _ _=>?_
       simp[nx7,trS,ins,Qa,QE,del,CV.ren,Ob.ren])
  exact XZ ⟨.inr rfl,(),trivial,⟨⟨100,some (pV b)⟩,[(6,.v (.one (.own 1)))],(1,.row 250 1 (QR b (sl3++sl4)))::Wy rows4 d4⟩,Xw (fun n=>if n=1 then 40 else if n=900001 then 103 else n) [] rfl (by simp[nx7,trS]) (by simp[nx7]) (by simp),⟨[.one (.own 1)],by simp,rfl⟩,fun n o h=>h⟩
 cases h3
set_option maxHeartbeats 8000000 in
theorem XdM (b:Nat) (o c v n tq tn:Int) (tk:List Tm) (sa sb:List St) (bs:List Int) (ha:lstC b sa) (hb:lstC b sb) (ho3:¬o=3) (ho0:¬o=4):oneC b (.mk o c v n (.mk tq tn tk) sa sb bs):=by
 intro k rows d h4 hk hn hd hd2;subst hk;obtain⟨RES,hR⟩:∃x,Zf (.mk o c v n (.mk tq tn tk) sa sb bs) rows.length (rows,d)=x:=⟨_,rfl⟩;rw[hR];simp only[szN]at hn hd2;unfold Zf at hR;simp only[aS,St.enc,Tm.enc,Nk,Nr,List.cons_append,List.nil_append];refine Qn Tryz.func227 rfl (by kernel_rfl) (NL rfl) X1w X8M ?_;simp only[Tryz.f227];have hw0:IntKind.i64.wrap (d+1)=d+1:=Xa;have A3:=Zb b rows d 3 (by omega);have A4:=Zb b rows d 4 (by omega);have A2:=Zb b rows d 2 (by omega);have A5:=Zb b (rows++[XQ 4 d]) d 5 (by simp;omega);refine X2 ?_;refine X0<|X0<|X1 ?_;refine X3<|X0<|X1 ?_;refine(X6 rfl (fun h3=>?_) (fun h3=>?_))
 .cases h3
 simp only at h3;have ho:¬o=3:=ho3;rw[N7 ho]at hR;clear A3;refine X2 ?_;refine(Xb rfl (fun h10=>?_) fun h10=>?_)
 .cases h10
 simp only at h10;have ho4:¬o=4:=ho0;rw[N7 ho4]at hR;subst hR;clear A4 A5 h3 h10;refine X0<|(XJ ?_);refine RunsN.cutE 1 [] (by simp;rfl) trivial (le_refl _) ?_;refine RunsN.callA (fun n=>n) (fun n=>if n=900001 then 101 else n) A2 fun _ _=>?_;refine RunsN.doneE [] (by simp[Qa,CV.ren];rfl) trivial ?_;refine XC (X4M (v:=pV b) 0 rfl rfl rfl) ?_;simp only[ins,Nat.reduceLT,Nat.reduceEqDiff,Nj,Nc];refine X2 ?_;refine XC (X4L (v:=pV b) 0 rfl rfl rfl) ?_;simp only[ins,Nat.reduceLT,Nat.reduceEqDiff,Nj,Nc];refine Xh [⟨false,.v (.one (.c (nxC b rows.length))),none⟩] ?_ ?_
 .first|exact X2f b rows.length 98|exact trivial|simpa[*]using X2f b rows.length 98
 exact XZ ⟨.inr rfl,(),trivial,⟨⟨100,some (pV b)⟩,[(6,.v (.one (.own 1)))],(1,.row 250 1 (QR b [(false,rows.length)]))::Wy (rows++[XQ 2 d]) (d+1)⟩,Xw (fun n=>if n=1 then 99 else if n=900001 then 101 else n) [] rfl (by simp) (by simp[QR, *]) (by simp),⟨[.one (.own 1)],by simp,rfl⟩,fun n o h=>h⟩
set_option maxHeartbeats 8000000 in
theorem one_loop (b:Nat) (o c v n tq tn:Int) (tk:List Tm) (sa sb:List St) (bs:List Int) (ha:lstC b sa) (hb:lstC b sb) (ho3:¬o=3) (ho0:o=4):oneC b (.mk o c v n (.mk tq tn tk) sa sb bs):=by
 intro k rows d h4 hk hn hd hd2;subst hk;obtain⟨RES,hR⟩:∃x,Zf (.mk o c v n (.mk tq tn tk) sa sb bs) rows.length (rows,d)=x:=⟨_,rfl⟩;rw[hR];simp only[szN]at hn hd2;unfold Zf at hR;simp only[aS,St.enc,Tm.enc,Nk,Nr,List.cons_append,List.nil_append];refine Qn Tryz.func227 rfl (by kernel_rfl) (NL rfl) X1w X8M ?_;simp only[Tryz.f227];have hw0:IntKind.i64.wrap (d+1)=d+1:=Xa;have A3:=Zb b rows d 3 (by omega);have A4:=Zb b rows d 4 (by omega);have A2:=Zb b rows d 2 (by omega);have A5:=Zb b (rows++[XQ 4 d]) d 5 (by simp;omega);refine X2 ?_;refine X0<|X0<|X1 ?_;refine X3<|X0<|X1 ?_;refine(X6 rfl (fun h3=>?_) (fun h3=>?_))
 .cases h3
 simp only at h3;have ho:¬o=3:=ho3;rw[N7 ho]at hR;clear A3;refine X2 ?_;refine(Xb rfl (fun h10=>?_) fun h10=>?_)
 ·simp only at h10;have ho4:o=4:=ho0;rw[N8 ho4]at hR;clear A2 h10 h3;have hin:rows.length<(rows++[XQ 4 d]++[XQ 5 d]).length:=by simp
  have hw1:IntKind.i64.wrap ((rows.length:Int)+1)=(rows.length:Int)+1:=Xa;refine X0<|(XJ ?_);refine RunsN.cutE 1 [] (by simp;rfl) trivial (le_refl _) ?_;refine RunsN.callA (fun n=>n) (fun n=>if n=900001 then 101 else n) A4 fun _ _=>?_;refine RunsN.doneE [] (by simp[Qa,CV.ren];rfl) trivial ?_;refine XC (s':=⟨⟨100,some (pV b)⟩,[(0,.v (.one (.c (.lit (pV b))))),(2,lit (.int .i64 rows.length)),(4,.v (.one (.at_ 4 0)))],(4,X4z 4 c v n tq tn tk sa sb bs)::Wy (rows++[XQ 4 d]) d⟩) (Xw (fun n=>if n=900001 then 101 else n) [] rfl (by simp) (by simp[*]) (by simp)) ?_;refine X0<|(XJ ?_);refine RunsN.cutE 1 [] (by simp;rfl) trivial (le_refl _) ?_;refine RunsN.callA (fun n=>n) (fun n=>if n=900001 then 101 else n) A5 fun _ _=>?_;refine RunsN.doneE [] (by simp[Qa,CV.ren];rfl) trivial ?_;refine XC (s':=⟨⟨100,some (pV b)⟩,[(0,.v (.one (.c (.lit (pV b))))),(2,lit (.int .i64 rows.length)),(4,.v (.one (.at_ 4 0)))],(4,X4z 4 c v n tq tn tk sa sb bs)::Wy (rows++[XQ 4 d]++[XQ 5 d]) d⟩) (Xw (fun n=>if n=900001 then 101 else n) [] rfl (by simp) (by simp) (by simp)) ?_;refine XC (X4M (v:=pV b) 0 rfl rfl rfl) ?_;simp only[ins,Nat.reduceLT,Nat.reduceEqDiff,Nj,Nc];refine X2 ?_;refine X2 ?_;have hRW:setRow (rows++[XQ 4 d]++[XQ 5 d]) rows.length 2 [iC ((rows.length:Int)+1)]=rows++[[iC 4,iC d,iC ((rows.length:Int)+1),iC (-1)],XQ 5 d]:=by simp[setRow]
  simp only[hRW]at hR
  have k0:okB [(false,rows.length+1)] (rows++[[iC 4,iC d,iC ((rows.length:Int)+1),iC (-1)],XQ 5 d]):=by
   rw[<-hRW];exact⟨X0K (Wv (Wv h4)) (by omega),by simp⟩
  have cA:=ha [(false,rows.length+1)] (rows++[[iC 4,iC d,iC ((rows.length:Int)+1),iC (-1)],XQ 5 d]) (d+1) k0 (by simp;omega) (by omega) (by omega) (by simp);have k1:=Wt sa [(false,rows.length+1)] (rows++[[iC 4,iC d,iC ((rows.length:Int)+1),iC (-1)],XQ 5 d],d+1) k0;have l1:=ZN sa [(false,rows.length+1)] (rows++[[iC 4,iC d,iC ((rows.length:Int)+1),iC (-1)],XQ 5 d],d+1);obtain⟨⟨⟨rows3,d3⟩,sl3⟩,hx⟩:∃x,Qb sa [(false,rows.length+1)] (rows++[[iC 4,iC d,iC ((rows.length:Int)+1),iC (-1)],XQ 5 d],d+1)=x:=⟨_,rfl⟩;simp only[hx,List.length_singleton]at hR cA k1 l1;obtain⟨a1,a2,a3,a4,a5⟩:=k1;clear hRW hx k0 A4 A5;refine XC (X4L (v:=pV b) 0 rfl rfl rfl) ?_;simp only[ins,Nat.reduceLT,Nat.reduceEqDiff,Nj,Nc];refine XC (s':=X5v b rows.length (X4z 4 c v n tq tn tk sa sb bs) sa sl3.length (Wy (rows++[[iC 4,iC d,iC ((rows.length:Int)+1),iC (-1)],XQ 5 d]) (d+1)) ((71,.row 250 1 (QR b sl3))::(102,.row 195 4 rows3)::[(1000000,.box [.own 102,.c (iC d3)])]) (Zk 11 2047)) ?_ ?_
  .refine Xw (fun n=>n) [] rfl ?_ ?_ ?_
   .simp[X5v,trS, *]
   .simp[X5v, *]
   simp[X5v]
  refine X0<|X0<|(Wj (X5v b rows.length (X4z 4 c v n tq tn tk sa sb bs) sa sl3.length (Wy (rows++[[iC 4,iC d,iC ((rows.length:Int)+1),iC (-1)],XQ 5 d]) (d+1)) ((71,.row 250 1 (QR b sl3))::(102,.row 195 4 rows3)::[(1000000,.box [.own 102,.c (iC d3)])])) 11 2047 ms15 rfl (by kernel_rfl) (by kernel_rfl) (by kernel_rfl) (by kernel_rfl) (by simp[X5v,trS]) ?_ ?_)
  .simp only[ms15,X1E]
   repeat' apply And.intro
   all_goals first
    |(refine XP.evE rfl ?_;simp[X5v,trS,ins,hw1];done)
    | (refine XP.ev [⟨false,.v (.one (.c (nxC b (rows.length+1)))),none⟩] rfl (by simp[X5v,trS,ins];first|exact⟨rfl,Iff.rfl⟩|exact⟨rfl,trivial⟩|rfl) ?_ ?_
       .simpa using X2f b (rows.length+1) 69
       simp[X5v,trS,ins])
    | (refine XP.callA (fun n=>if n=1 then 70 else n) (fun n=>if n=1 then 71 else if n=900001 then 102 else n) cA rfl fun _ _=>?_
       simp[X5v,trS,ins,Qa,QE,del,CV.ren,Ob.ren])
  refine X3<|(Xg [] (fun(x:Nat×N1)=>[(0,.v (.one (.c (.lit (pV b))))),(2,lit (.int .i64 rows.length)),(71,.v (.one (.own 71))),(72,lit (.int .i64 sl3.length)),(73,lit (.int .i64 x.1))]) (fun(x:Nat×N1)=>(4,X4z 4 c v n tq tn tk sa sb bs)::(71,.row 250 1 (QR b sl3))::Wy x.2 d3) (fun(x:Nat×N1)=>x.1<=sl3.length/\XB (rows.length+1) (sl3.drop x.1) x.2=XB (rows.length+1) sl3 rows3/\(∀r∈x.2,r.length=4)/\x.2.length=rows3.length) (fun(x:Nat×N1)=>sl3.length - x.1) (0,rows3) ⟨Nq _,rfl,a1.four,rfl⟩ ?_ ?_)
  .exact Xw (fun n=>if n=900001 then 102 else n) [] rfl (by simp[upS,X8,trS]) (by simp[upS]) (by simp[upS])
  rintro⟨i,rows2⟩ ⟨g1,g2,g3,g4⟩;simp only[upS,Xz]
  simp only at g1 g2 g3 g4;simp only[X5v,trS];refine X2 ?_;refine X0<|(X6 rfl (fun h18=>Xe ?_) (fun h18=>?_))
  ·simp only[BN]at h18;have hi:i<sl3.length:=by simpa using h18
   obtain⟨q,hq,hqd⟩:=Xt hi;have hqe:=X57 (b:=b) hq;rw[hqd]at g2;simp only[XB]at g2;have cq:=X6Z b rows2 d3 (rows.length+1) q g3 (by have:=a1.lt q (N4 hq);omega);have hw:=XD hi (by omega:sl3.length<=1000000000);have hin2:i+1<=sl3.length:=hi;clear hi hq h18 hqd;refine X0<|X3<|X0<|X1 ?_;refine(XJ ?_);refine RunsN.cutE 3 [] (by simp[hw1];rfl) trivial (le_refl _) ?_;refine RunsN.callA (fun n=>n) (fun n=>if n=900001 then 101 else n) cq fun _ _=>?_;refine RunsN.doneE [] (by simp[Qa,CV.ren,Ob.ren];rfl) trivial ?_;refine X1 ?_;exact⟨(i+1,X0M rows2 q (rows.length+1)),⟨hin2,g2,X0d g3,(X2o ..).trans g4⟩,by simp only;omega,X4 (fun n=>if n=900001 then 101 else n) []⟩
  simp only[BN]at h18
  have hi:i=sl3.length:=by
   have:¬i<sl3.length:=by simpa using h18
   omega
  subst hi;rw[Nw]at g2;simp only[XB]at g2;rw[<-g2]at hR;subst hR;clear h18;refine(Xi ?_);refine X0<|(Wi [⟨false,.v (.one (.c (otC b (rows.length+1)))),none⟩] (by simp[*];first|exact⟨rfl,Iff.rfl⟩|exact⟨rfl,trivial⟩|rfl) ?_ ?_)
  .first|exact X4J b (rows.length+1) 85|exact trivial|simpa[*,hw1]using X4J b (rows.length+1) 85
  exact XZ ⟨.inr rfl,(),trivial,⟨⟨100,some (pV b)⟩,[(6,.v (.one (.own 1)))],(1,.row 250 1 (QR b [(true,rows.length+1)]))::Wy rows2 d3⟩,Xw (fun n=>if n=1 then 86 else n) [] rfl (by simp) (by simp[QR, *]) (by simp),⟨[.one (.own 1)],by simp,rfl⟩,fun n o h=>h⟩
 cases h10
theorem one_con (b:Nat) (o c v n tq tn:Int) (tk:List Tm) (sa sb:List St) (bs:List Int) (ha:lstC b sa) (hb:lstC b sb):oneC b (.mk o c v n (.mk tq tn tk) sa sb bs):=by
 by_cases h3:o=3
 .exact one_then b o c v n tq tn tk sa sb bs ha hb h3
 by_cases h4:o=4
 .exact one_loop b o c v n tq tn tk sa sb bs ha hb h3 h4
 exact XdM b o c v n tq tn tk sa sb bs ha hb h3 h4
end Go.Proofs.YtdajceakaakdoaaGreat
