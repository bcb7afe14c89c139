/- Contracts of functions and plain facts about what they compute. Conditions: as each theorem states. -/
import Derived.Test.YtdajceakaakdoaaGreatJ12
import Derived.Test.YtdajceakaakdoaaGreatJ10
set_option linter.unusedSimpArgs false
set_option linter.unusedVariables false
set_option linter.unnecessarySimpa false
set_option maxRecDepth 100000
set_option maxHeartbeats 2000000
namespace Go.Proofs.YtdajceakaakdoaaGreat
open Go Go.Hl
open Tryz(prog)
def XaR:List (Nat×List Nat):=[(2047,[0,1,3,7]),(2046,[1,3,7]),(2045,[0,2,3,7]),(2039,[0,1,4,7]),(1919,[0,1,3,8]),(2044,[2,3,7]),(2038,[1,4,7]),(1918,[1,3,8]),(2041,[0,3,7]),(2037,[0,2,4,7]),(1917,[0,2,3,8]),(2023,[0,1,5,7]),(1911,[0,1,4,8]),(1663,[0,1,3]),(2040,[3,7]),(2036,[2,4,7]),(1916,[2,3,8]),(2022,[1,5,7]),(1910,[1,4,8]),(1662,[1,3]),(2033,[0,4,7]),(1913,[0,3,8]),(2021,[0,2,5,7]),(1909,[0,2,4,8]),(1661,[0,2,3]),(1991,[0,1,6,7]),(1895,[0,1,5,8]),(1655,[0,1,4]),(2032,[4,7]),(1912,[3,8]),(2020,[2,5,7]),(1908,[2,4,8]),(1660,[2,3]),(1990,[1,6,7]),(1894,[1,5,8]),(1654,[1,4]),(2017,[0,5,7]),(1905,[0,4,8]),(1657,[0,3]),(1989,[0,2,6,7]),(1893,[0,2,5,8]),(1653,[0,2,4]),(1927,[0,1,7]),(1863,[0,1,6,8]),(1639,[0,1,5]),(2016,[5,7]),(1904,[4,8]),(1656,[3]),(1988,[2,6,7]),(1892,[2,5,8]),(1652,[2,4]),(1926,[1,7]),(1862,[1,6,8]),(1638,[1,5]),(1985,[0,6,7]),(1889,[0,5,8]),(1649,[0,4]),(1925,[0,2,7]),(1861,[0,2,6,8]),(1637,[0,2,5]),(1799,[0,1,8]),(1607,[0,1,6]),(1984,[6,7]),(1888,[5,8]),(1648,[4]),(1924,[2,7]),(1860,[2,6,8]),(1636,[2,5]),(1798,[1,8]),(1606,[1,6]),(1921,[0,7]),(1857,[0,6,8]),(1633,[0,5]),(1797,[0,2,8]),(1605,[0,2,6]),(1543,[0,1,9]),(1920,[7]),(1856,[6,8]),(1632,[5]),(1796,[2,8]),(1604,[2,6]),(1542,[1,9]),(1793,[0,8]),(1601,[0,6]),(1541,[0,2,9]),(1031,[0,1]),(1792,[8]),(1600,[6]),(1540,[2,9]),(1030,[1]),(1537,[0,9]),(1029,[0,2]),(1536,[9]),(1028,[2]),(1025,[0]),(1024,[10])]
def X9R:List (Nat×List Nat):=[(4095,[0,1,3,7]),(4094,[1,3,7]),(4093,[0,2,3,7]),(4087,[0,1,4,7]),(3967,[0,1,3,8]),(4092,[2,3,7]),(4086,[1,4,7]),(3966,[1,3,8]),(4089,[0,3,7]),(4085,[0,2,4,7]),(3965,[0,2,3,8]),(4071,[0,1,5,7]),(3959,[0,1,4,8]),(3711,[0,1,3]),(4088,[3,7]),(4084,[2,4,7]),(3964,[2,3,8]),(4070,[1,5,7]),(3958,[1,4,8]),(3710,[1,3]),(4081,[0,4,7]),(3961,[0,3,8]),(4069,[0,2,5,7]),(3957,[0,2,4,8]),(3709,[0,2,3]),(4039,[0,1,6,7]),(3943,[0,1,5,8]),(3703,[0,1,4]),(4080,[4,7]),(3960,[3,8]),(4068,[2,5,7]),(3956,[2,4,8]),(3708,[2,3]),(4038,[1,6,7]),(3942,[1,5,8]),(3702,[1,4]),(4065,[0,5,7]),(3953,[0,4,8]),(3705,[0,3]),(4037,[0,2,6,7]),(3941,[0,2,5,8]),(3701,[0,2,4]),(3975,[0,1,7]),(3911,[0,1,6,8]),(3687,[0,1,5]),(4064,[5,7]),(3952,[4,8]),(3704,[3]),(4036,[2,6,7]),(3940,[2,5,8]),(3700,[2,4]),(3974,[1,7]),(3910,[1,6,8]),(3686,[1,5]),(4033,[0,6,7]),(3937,[0,5,8]),(3697,[0,4]),(3973,[0,2,7]),(3909,[0,2,6,8]),(3685,[0,2,5]),(3847,[0,1,8]),(3655,[0,1,6]),(4032,[6,7]),(3936,[5,8]),(3696,[4]),(3972,[2,7]),(3908,[2,6,8]),(3684,[2,5]),(3846,[1,8]),(3654,[1,6]),(3969,[0,7]),(3905,[0,6,8]),(3681,[0,5]),(3845,[0,2,8]),(3653,[0,2,6]),(3591,[0,1,9]),(3968,[7]),(3904,[6,8]),(3680,[5]),(3844,[2,8]),(3652,[2,6]),(3590,[1,9]),(3841,[0,8]),(3649,[0,6]),(3589,[0,2,9]),(3079,[0,1,10]),(3840,[8]),(3648,[6]),(3588,[2,9]),(3078,[1,10]),(3585,[0,9]),(3077,[0,2,10]),(2055,[0,1]),(3584,[9]),(3076,[2,10]),(2054,[1]),(3073,[0,10]),(2053,[0,2]),(3072,[10]),(2052,[2]),(2049,[0]),(2048,[11])]
def Xa3:List (Nat×List Nat):=[(1023,[0,1,3,5]),(1022,[1,3,5]),(1021,[0,2,3,5]),(1015,[0,1,4,5]),(991,[0,1,3,6]),(1020,[2,3,5]),(1014,[1,4,5]),(990,[1,3,6]),(1017,[0,3,5]),(1013,[0,2,4,5]),(989,[0,2,3,6]),(999,[0,1,5]),(983,[0,1,4,6]),(927,[0,1,3,7]),(1016,[3,5]),(1012,[2,4,5]),(988,[2,3,6]),(998,[1,5]),(982,[1,4,6]),(926,[1,3,7]),(1009,[0,4,5]),(985,[0,3,6]),(997,[0,2,5]),(981,[0,2,4,6]),(925,[0,2,3,7]),(967,[0,1,6]),(919,[0,1,4,7]),(799,[0,1,3]),(1008,[4,5]),(984,[3,6]),(996,[2,5]),(980,[2,4,6]),(924,[2,3,7]),(966,[1,6]),(918,[1,4,7]),(798,[1,3]),(993,[0,5]),(977,[0,4,6]),(921,[0,3,7]),(965,[0,2,6]),(917,[0,2,4,7]),(797,[0,2,3]),(903,[0,1,7]),(791,[0,1,4]),(992,[5]),(976,[4,6]),(920,[3,7]),(964,[2,6]),(916,[2,4,7]),(796,[2,3]),(902,[1,7]),(790,[1,4]),(961,[0,6]),(913,[0,4,7]),(793,[0,3]),(901,[0,2,7]),(789,[0,2,4]),(775,[0,1,8]),(960,[6]),(912,[4,7]),(792,[3]),(900,[2,7]),(788,[2,4]),(774,[1,8]),(897,[0,7]),(785,[0,4]),(773,[0,2,8]),(519,[0,1]),(896,[7]),(784,[4]),(772,[2,8]),(518,[1]),(769,[0,8]),(517,[0,2]),(768,[8]),(516,[2]),(513,[0]),(512,[9])]
def We (regs:List (Nat×RV)) (o0 oD:N2) (p:Nat) (outs:List (Nat×Nat×RV)) (R:List Nat):HS:=
 {trS ⟨⟨158,none⟩,regs,[]⟩ outs R with objs:=if R.contains p then o0 else oD}
theorem X9h {c:Int} {t:Tm} {body:Sev->Sev} {O:Nat} (hb:∀x,(body x).2.length<=x.2.length+O):∀(k:Nat) (x:Sev),(X4S c t body k x).2.length<=x.2.length+k*O
 |0,x=>by simp[X4S]
 | k+1,x=>by
   rw[X4S];split
   .exact Nat.le_add_right _ _
   have h1:=X9h (c:=c) (t:=t) hb k (body (tick x.1 c,x.2));have h2:=hb (tick x.1 c,x.2);simp only at h2;rw[Nat.succ_mul];omega
theorem X5E (vars:List Vr) (hv:List Int):∀(l:List St) (o:Nat) (x:Sev),(evD vars hv l o x).2.length<=x.2.length+oUL l:=by
 apply St.lind
 .intro o x;simp[evD]
 intro d c v n t a b bs l ia ib il o x;simp only[evD,oUL,oUS];refine Dz (il _ _) ?_;by_cases h4:d=4
 .simp only[N8 h4];have:=X9h (c:=c) (t:=t) (ia (o+1)) n.toNat x;omega
 simp only[N7 h4];by_cases h3:d=3
 .simp only[N8 h3];split
  .have:=ib (o+1+szL a) (tick x.1 c,x.2);simp only at this;omega
  have:=ia (o+1) (tick x.1 c,x.2);simp only at this;omega
 simp only[N7 h3];by_cases h1:d=1
 .simp only[N8 h1,Na,List.length_singleton];omega
 simp only[N7 h1];omega
theorem XbJ (vars:List Vr) (hv:List Int) (l:List St) (o:Nat) (x:Sev):(evD vars hv l o x).1.vals.length=x.1.vals.length:=by
 rw[Xc7];exact(ZL vars hv l x.1).1
set_option maxHeartbeats 64000000 in
theorem Xdb (vars:List Vr) (hats:List Ht) (body:List St) (hv:List Int) (hl:vars.length<=1000000) (hgv:∀w∈vars,w.low<=w.high) (hhv:hv.length=hats.length) (l:List St):Xl l<=1000000->wfL vars hats.length l=true->∀(p:Nat) (x:Sev),p+szL l<=2000000->x.1.vals.length=vars.length->x.2.length+oUL l<=2000000->
  X0V prog 73 none (plO vars hats body hv x) [.one (.at_ 1000001 0),lS l,li p] (fun _:Unit=>True) (fun _=>.v (li ((p+szL l:Nat):Int))) (fun _=>plO vars hats body hv (evD vars hv l p x)):=by
 revert l
 apply St.lists;intro l ih hn hwf p x0 hp hx0 hxe0;have hlen:=Qs l;obtain⟨res,hres⟩:∃r,evD vars hv l p x0=r:=⟨_,rfl⟩;obtain⟨fin,hfin⟩:∃r,p+szL l=r:=⟨_,rfl⟩;rw[hres,hfin];have hval:=fun(t:Tm) (vs:List Int) (h:vs.length=vars.length) (hf:Qu vars false t=true)=>X7h vars false vs h t hf;refine Qn Tryz.func73 rfl (by kernel_rfl) (NL rfl) pl_pin (fun v h=>by cases h) ?_;simp only[Tryz.f73];refine X2 ?_;refine X0<|X0<|X1 ?_;refine X3<|(Xg [0,10,11] (fun(y:Nat×Nat×Sev)=>[(2,.v (li y.2.1)),(12,.v (li y.1))]) (fun y=>plO vars hats body hv y.2.2) (fun y=>y.1<=l.length/\evD vars hv (l.drop y.1) y.2.1 y.2.2=res/\y.2.1+szL (l.drop y.1)=fin/\y.2.2.1.vals.length=vars.length/\y.2.2.2.length+oUL (l.drop y.1)<=2000000) (fun y=>l.length - y.1) (0,p,x0) ⟨Nq _,by simpa using hres,by simpa using hfin,hx0,by simpa using hxe0⟩ ?_ ?_)
 .exact Xw (fun n=>n) [] rfl (by simp[plO, *,upS,X8]) (by simp[plO, *,upS]) (by simp[plO,upS])
 rintro⟨k,o,⟨⟨xv,xo,xt⟩,ev⟩⟩ ⟨hk,hJ,hfo,hxl,hxe⟩;simp only[upS,X8,Xz]
 simp only[KN,Nat.reduceBEq,Nj,Nc,ins,Nat.reduceLT]
 simp only at hk hJ hfo hxl hxe;clear hres hx0 hxe0;refine X2 ?_;refine X0<|(X6 rfl (fun h4=>Xe ?_) (fun h4=>?_))
 ·simp only[BN]at h4;have hlt:k<l.length:=by first|omega|simpa using h4
  obtain⟨s,he,hd⟩:=Xt hlt;have hw1:=XD hlt (by omega);have hk1:k+1<=l.length:=hlt;have hmem:s∈l:=N4 he;have hnm:=QJ hmem;have hwm:=wfL_mem hwf hmem;have iha:=(ih s hmem).1 (by omega);have ihb:=(ih s hmem).2 (by omega);have he':=Q4 he;rw[hd]at hJ hfo hxe;obtain⟨sd,sc,sv,sn,t,sa,sb,sbs⟩:=s;simp only[St.then_,St.else_]at iha ihb;simp only[wfS,N3,Nf,N5]at hwm;obtain⟨wt,wl,wn,w4,wb,wa,wbb⟩:=hwm;have iha:=iha wa;have ihb:=ihb wbb;simp only[oUL,oUS]at hxe;simp only[szL,szS]at hfo
  simp only[St.then_,St.else_]at hnm
  rw[evD]at hJ;have hsa:=Zh sa;have hsb:=Zh sb;have cza:=X0h sa (by omega);have czb:=X0h sb (by omega);have hval:=fun vs h=>hval t vs h wt;have cstl:=fun tm=>X99 sbs tm wb;obtain⟨po,tn,tk⟩:=t;simp only[St.enc,Tm.enc,List.cons_append,List.nil_append]at he';simp only[aT,Tm.enc,Nk,Nr]at hval;obtain⟨o1,ho1⟩:∃z,o+1=z:=⟨_,rfl⟩;obtain⟨o3,ho3⟩:∃z,o1+szL sa=z:=⟨_,rfl⟩;obtain⟨o2,ho2⟩:∃z,o3+szL sb=z:=⟨_,rfl⟩;have hJ2:o+(1+szL sa+szL sb)=o2:=by omega
  have hJ3:o+1+szL sa=o3:=by omega
  rw[hJ2,hJ3,ho1]at hJ;simp only at hJ;have hfo2:o2+szL (l.drop (k+1))=fin:=by omega
  have hq1:IntKind.i64.wrap ((o:Int)+1)=(o1:Int):=by rw[Xa (by omega) (by omega)];omega
  have hq2:IntKind.i64.wrap ((o1:Int)+(szL sa:Int))=(o3:Int):=by rw[Xa (by omega) (by omega)];omega
  have hq3:IntKind.i64.wrap ((o3:Int)+(szL sb:Int))=(o2:Int):=by rw[Xa (by omega) (by omega)];omega
  have hq4:(0:Nat)=0:=rfl;clear hlt h4 ih hmem hnm hd he hsa hsb
  simp only[plO]
  refine X0<|X3<|X0<|X1 ?_;refine X0<|(XU [⟨true,.v (li (szL sa)),none⟩,⟨true,.v (li (szL sb)),none⟩] (by kernel_rfl) (by kernel_rfl) (by rfl) (by simp[*];first|exact⟨rfl,Iff.rfl⟩|exact⟨rfl,trivial⟩|rfl) ?_ ?_)
  .first|exact⟨cza _,czb _⟩|exact trivial|(repeat' first|exact trivial|exact cza _|exact czb _|apply And.intro)
  refine(XT [0,2,8,9,10,11,12] (fun(tm:Int)=>[]) (fun(tm:Int)=>[(8,.box [.c (iC sd),.c (iC sc),.c (iC sv),.c (iC sn),.c (iC po),.c (iC tn),.c (.sl 3 (Xx tk)),.c (.sl 10 (X7 sa)),.c (.sl 10 (X7 sb)),.c (.sl 1 (X9 sbs))]),(900001,.row 3 1 (X9 xv)),(900002,.row 150 2 (W6 ev)),(1000001,.box [.c (.sl 5 (Xk vars)),.c (.sl 6 (Xn hats)),.c (.sl 10 (X7 body)),.c (.sl 1 (X9 hv)),.own 900001,.own 900002,.c (iC tm)])]) (fun(tm:Int)=>(if sd=4 then xt else IntKind.i64.wrap (xt+sc))=tm) ?_ ?_)
  ·
   refine X2 ?_;refine(Xb rfl (fun h9=>?_) fun h9=>?_)
   ·simp only[BN]at h9;have hd4:¬sd=4:=by simpa using h9
    refine(N0 ?_);exact⟨IntKind.i64.wrap (xt+sc),by rw[N7 hd4],X4 (fun n=>n) []⟩
   simp only[BN]at h9;have hd4:sd=4:=by simpa using h9
   exact⟨xt,by rw[N8 hd4],X4 (fun n=>n) []⟩
  rintro tm htm;simp only[upS,X8,Xz]
  simp only[KN,Nat.reduceBEq,Nj,Nc]
  refine X0<|X0<|X1 ?_;refine X3<|X0<|X1 ?_;refine(X6 rfl (fun h15=>?_) (fun h15=>?_))
  ·simp only[BN]at h15;have hd0:sd=0:=by simpa using h15
   subst hd0;rw[N7 (by decide)]at htm;rw[N7 (by decide),N7 (by decide),N7 (by decide)]at hJ;rw[N7 (by decide),N7 (by decide),N7 (by decide)]at hxe;obtain⟨hv0,w,hw⟩:=X2H (wl.resolve_left (by decide));obtain⟨v,rfl⟩:∃v:Nat,sv=v:=⟨sv.toNat,by omega⟩;rw[Int.toNat_natCast]at hw;have cval:=hval xv hxl;obtain⟨A,hA⟩:∃z,vT xv (.mk po tn tk)=z:=⟨_,rfl⟩;rw[hA]at cval;have cset:=Xaw vars hats body hv (⟨xv,xo,tm⟩,ev) v A w hw hxl (hgv w (N4 hw));obtain⟨X,hX⟩:∃z,X4t vars xv v A=z:=⟨_,rfl⟩;have hXl:X.length=vars.length:=by rw[<-hX,X3X];exact hxl
   have hlf:QV vars hv 0 v sn (.mk po tn tk) sbs (tick ⟨xv,xo,xt⟩ sc)=⟨X,xo,tm⟩:=by
    rw[<-htm,<-hX,<-hA];rfl
   rw[hlf]at hJ;simp only[plO,hX]at cset;clear hval iha ihb cstl hX hA htm hlf;refine XC (s':=⟨⟨158,none⟩,[(0,.v (.one (.at_ 1000001 0))),(2,.v (li o)),(8,.v (.one (.at_ 8 0))),(9,.v (li o2)),(10,.v (lS l)),(11,.v (li l.length)),(12,.v (li k))],[(8,.box [.c (iC 0),.c (iC sc),.c (iC (v:Int)),.c (iC sn),.c (iC po),.c (iC tn),.c (.sl 3 (Xx tk)),.c (.sl 10 (X7 sa)),.c (.sl 10 (X7 sb)),.c (.sl 1 (X9 sbs))]),(900001,.row 3 1 (X9 xv)),(900002,.row 150 2 (W6 ev)),(1000001,.box [.c (.sl 5 (Xk vars)),.c (.sl 6 (Xn hats)),.c (.sl 10 (X7 body)),.c (.sl 1 (X9 hv)),.own 900001,.own 900002,.c (iC tm)])]⟩) (Xw (fun n=>n) [] rfl (by simp) (by simp) (by simp)) ?_;refine(Wj (We [(0,.v (.one (.at_ 1000001 0))),(2,.v (li o)),(8,.v (.one (.at_ 8 0))),(9,.v (li o2)),(10,.v (lS l)),(11,.v (li l.length)),(12,.v (li k))] [(8,.box [.c (iC 0),.c (iC sc),.c (iC (v:Int)),.c (iC sn),.c (iC po),.c (iC tn),.c (.sl 3 (Xx tk)),.c (.sl 10 (X7 sa)),.c (.sl 10 (X7 sb)),.c (.sl 1 (X9 sbs))]),(900001,.row 3 1 (X9 xv)),(900002,.row 150 2 (W6 ev)),(1000001,.box [.c (.sl 5 (Xk vars)),.c (.sl 6 (Xn hats)),.c (.sl 10 (X7 body)),.c (.sl 1 (X9 hv)),.own 900001,.own 900002,.c (iC tm)])] [(8,.box [.c (iC 0),.c (iC sc),.c (iC (v:Int)),.c (iC sn),.c (iC po),.c (iC tn),.c (.sl 3 (Xx tk)),.c (.sl 10 (X7 sa)),.c (.sl 10 (X7 sb)),.c (.sl 1 (X9 sbs))]),(900011,.row 3 1 (X9 X)),(900012,.row 150 2 (W6 ev)),(1000001,.box [.c (.sl 5 (Xk vars)),.c (.sl 6 (Xn hats)),.c (.sl 10 (X7 body)),.c (.sl 1 (X9 hv)),.own 900011,.own 900012,.c (iC tm)])] 10 [(0,42,.v (.one (.at_ 1000001 0))),(1,43,.v (.one (.at_ 8 2))),(2,44,.v (li v)),(3,45,.v (.one (.at_ 1000001 0))),(4,46,.v (.one (.at_ 1000001 0))),(5,47,.v (.one (.at_ 1000001 4))),(6,48,.v (.one (.own 900001))),(7,49,.v (.one (.at_ 8 4))),(8,50,.v (.agg [.c (iC po),.c (iC tn),.c (.sl 3 (Xx tk))])),(9,51,.v (li A)),(10,52,.tup [])]) 11 2047 XaR rfl (by kernel_rfl) (by kernel_rfl) (by kernel_rfl) (by kernel_rfl) (by simp[We,trS]) ?_ ?_)
   .simp only[XaR,X1E]
    repeat' apply And.intro
    all_goals first
     |trivial
     |(refine XP.evE rfl ?_;simp[We,trS,ins,lkp];done)
     |(refine XP.ev [⟨true,.v (li A),none⟩] rfl (by simp[We,trS,ins,lkp];first|exact⟨rfl,Iff.rfl⟩|exact⟨rfl,trivial⟩|rfl) ?_ (by simp[We,trS,ins]);first|exact cval _|simpa using cval _)
     | (refine XP.callA (hd0:=by(refine QP ?_ ?_ ?_ ?_ ?_<;>simp[We,trS,ins,rbB,Wl,CV.ren,Ob.ren,lkp])) (hd:=by(intro _ _;refine QP ?_ ?_ ?_ ?_ ?_<;>simp[We,trS,ins,rbB,Wl,Qz,CV.ren,Ob.ren,lkp])) (fun n=>n) (fun n=>if n=900001 then 900011 else if n=900002 then 900012 else n) cset rfl fun _ _=>?_
        simp[We,trS,ins,Qa,QE,del,CV.ren,Ob.ren])
   refine XC (s':=⟨⟨158,none⟩,[(0,.v (.one (.at_ 1000001 0))),(2,.v (li o)),(8,.v (.one (.at_ 8 0))),(9,.v (li o2)),(10,.v (lS l)),(11,.v (li l.length)),(12,.v (li k))],[(8,.box [.c (iC 0),.c (iC sc),.c (iC (v:Int)),.c (iC sn),.c (iC po),.c (iC tn),.c (.sl 3 (Xx tk)),.c (.sl 10 (X7 sa)),.c (.sl 10 (X7 sb)),.c (.sl 1 (X9 sbs))]),(900001,.row 3 1 (X9 X)),(900002,.row 150 2 (W6 ev)),(1000001,.box [.c (.sl 5 (Xk vars)),.c (.sl 6 (Xn hats)),.c (.sl 10 (X7 body)),.c (.sl 1 (X9 hv)),.own 900001,.own 900002,.c (iC tm)])]⟩) (Xw (fun n=>if n=900001 then 900011 else if n=900002 then 900012 else n) [] rfl (by simp[We,trS]) (by simp[We,trS]) (by simp)) ?_;refine X1 ?_;refine X1 ?_;exact⟨(k+1,o2,(⟨X,xo,tm⟩,ev)),⟨hk1,hJ,hfo2,hXl,by simp only;omega⟩,by simp only;omega,X4 (fun n=>n) []⟩
  simp only[BN]at h15;have hd0:¬sd=0:=by simpa using h15
  refine X2 ?_;refine(X6 rfl (fun h21=>?_) (fun h21=>?_))
  ·simp only[BN]at h21;have hd5:sd=5:=by simpa using h21
   subst hd5;rw[N7 (by decide)]at htm;rw[N7 (by decide),N7 (by decide),N7 (by decide)]at hJ;rw[N7 (by decide),N7 (by decide),N7 (by decide)]at hxe;obtain⟨hv0,w,hw⟩:=X2H (wl.resolve_left (by decide));obtain⟨v,rfl⟩:∃v:Nat,sv=v:=⟨sv.toNat,by omega⟩;rw[Int.toNat_natCast]at hw;obtain⟨n0,n1⟩:=wn.resolve_left (by decide);obtain⟨q,rfl⟩:∃q:Nat,sn=q:=⟨sn.toNat,by omega⟩;obtain⟨A,hA,_⟩:=Xt (show q<hv.length by omega);have cset:=Xaw vars hats body hv (⟨xv,xo,tm⟩,ev) v A w hw hxl (hgv w (N4 hw));obtain⟨X,hX⟩:∃z,X4t vars xv v A=z:=⟨_,rfl⟩;have hXl:X.length=vars.length:=by rw[<-hX,X3X];exact hxl
   have hlf:QV vars hv 5 v q (.mk po tn tk) sbs (tick ⟨xv,xo,xt⟩ sc)=⟨X,xo,tm⟩:=by
    have:(hv[(q:Int).toNat]?).getD 0=A:=by rw[Int.toNat_natCast,hA];rfl
    rw[<-htm,<-hX,<-this];rfl
   rw[hlf]at hJ;simp only[plO,hX]at cset;have hq4:(X9 hv)[q]? =some [iC A]:=by simp[hA]
   clear hval iha ihb cstl hX hA htm hlf;refine XC (s':=⟨⟨158,none⟩,[(0,.v (.one (.at_ 1000001 0))),(2,.v (li o)),(8,.v (.one (.at_ 8 0))),(9,.v (li o2)),(10,.v (lS l)),(11,.v (li l.length)),(12,.v (li k))],[(8,.box [.c (iC 5),.c (iC sc),.c (iC (v:Int)),.c (iC (q:Int)),.c (iC po),.c (iC tn),.c (.sl 3 (Xx tk)),.c (.sl 10 (X7 sa)),.c (.sl 10 (X7 sb)),.c (.sl 1 (X9 sbs))]),(900001,.row 3 1 (X9 xv)),(900002,.row 150 2 (W6 ev)),(1000001,.box [.c (.sl 5 (Xk vars)),.c (.sl 6 (Xn hats)),.c (.sl 10 (X7 body)),.c (.sl 1 (X9 hv)),.own 900001,.own 900002,.c (iC tm)])]⟩) (Xw (fun n=>n) [] rfl (by simp) (by simp) (by simp)) ?_;refine(Wj (We [(0,.v (.one (.at_ 1000001 0))),(2,.v (li o)),(8,.v (.one (.at_ 8 0))),(9,.v (li o2)),(10,.v (lS l)),(11,.v (li l.length)),(12,.v (li k))] [(8,.box [.c (iC 5),.c (iC sc),.c (iC (v:Int)),.c (iC (q:Int)),.c (iC po),.c (iC tn),.c (.sl 3 (Xx tk)),.c (.sl 10 (X7 sa)),.c (.sl 10 (X7 sb)),.c (.sl 1 (X9 sbs))]),(900001,.row 3 1 (X9 xv)),(900002,.row 150 2 (W6 ev)),(1000001,.box [.c (.sl 5 (Xk vars)),.c (.sl 6 (Xn hats)),.c (.sl 10 (X7 body)),.c (.sl 1 (X9 hv)),.own 900001,.own 900002,.c (iC tm)])] [(8,.box [.c (iC 5),.c (iC sc),.c (iC (v:Int)),.c (iC (q:Int)),.c (iC po),.c (iC tn),.c (.sl 3 (Xx tk)),.c (.sl 10 (X7 sa)),.c (.sl 10 (X7 sb)),.c (.sl 1 (X9 sbs))]),(900011,.row 3 1 (X9 X)),(900012,.row 150 2 (W6 ev)),(1000001,.box [.c (.sl 5 (Xk vars)),.c (.sl 6 (Xn hats)),.c (.sl 10 (X7 body)),.c (.sl 1 (X9 hv)),.own 900011,.own 900012,.c (iC tm)])] 11 [(0,55,.v (.one (.at_ 1000001 0))),(1,56,.v (.one (.at_ 8 2))),(2,57,.v (li v)),(3,58,.v (.one (.at_ 1000001 0))),(4,59,.v (.one (.at_ 1000001 0))),(5,60,.v (.one (.at_ 1000001 3))),(6,61,.v (.one (.c (.sl 1 (X9 hv))))),(7,62,.v (.one (.at_ 8 3))),(8,63,.v (li q)),(9,64,.v (.one (.c (.ptr [iC A])))),(10,65,.v (li A)),(11,66,.tup [])]) 12 4095 X9R rfl (by kernel_rfl) (by kernel_rfl) (by kernel_rfl) (by kernel_rfl) (by simp[We,trS]) ?_ ?_)
   .simp only[X9R,X1E]
    repeat' apply And.intro
    all_goals first
     |trivial
     |(refine XP.evE rfl ?_;simp[We,trS,ins,lkp,hq4];done)
     | (refine XP.callA (hd0:=by(refine QP ?_ ?_ ?_ ?_ ?_<;>simp[We,trS,ins,rbB,Wl,CV.ren,Ob.ren,lkp])) (hd:=by(intro _ _;refine QP ?_ ?_ ?_ ?_ ?_<;>simp[We,trS,ins,rbB,Wl,Qz,CV.ren,Ob.ren,lkp])) (fun n=>n) (fun n=>if n=900001 then 900011 else if n=900002 then 900012 else n) cset rfl fun _ _=>?_
        simp[We,trS,ins,Qa,QE,del,CV.ren,Ob.ren])
   refine XC (s':=⟨⟨158,none⟩,[(0,.v (.one (.at_ 1000001 0))),(2,.v (li o)),(8,.v (.one (.at_ 8 0))),(9,.v (li o2)),(10,.v (lS l)),(11,.v (li l.length)),(12,.v (li k))],[(8,.box [.c (iC 5),.c (iC sc),.c (iC (v:Int)),.c (iC (q:Int)),.c (iC po),.c (iC tn),.c (.sl 3 (Xx tk)),.c (.sl 10 (X7 sa)),.c (.sl 10 (X7 sb)),.c (.sl 1 (X9 sbs))]),(900001,.row 3 1 (X9 X)),(900002,.row 150 2 (W6 ev)),(1000001,.box [.c (.sl 5 (Xk vars)),.c (.sl 6 (Xn hats)),.c (.sl 10 (X7 body)),.c (.sl 1 (X9 hv)),.own 900001,.own 900002,.c (iC tm)])]⟩) (Xw (fun n=>if n=900001 then 900011 else if n=900002 then 900012 else n) [] rfl (by simp[We,trS]) (by simp[We,trS]) (by simp)) ?_;refine X1 ?_;refine X1 ?_;exact⟨(k+1,o2,(⟨X,xo,tm⟩,ev)),⟨hk1,hJ,hfo2,hXl,by simp only;omega⟩,by simp only;omega,X4 (fun n=>n) []⟩
  simp only[BN]at h21;have hd5:¬sd=5:=by simpa using h21
  refine X2 ?_;refine(X6 rfl (fun h27=>?_) (fun h27=>?_))
  ·simp only[BN]at h27;have hd1:sd=1:=by simpa using h27
   subst hd1;rw[N7 (by decide)]at htm;rw[N7 (by decide),N7 (by decide),N8 rfl]at hJ;rw[N7 (by decide),N7 (by decide),N8 rfl]at hxe;have cval:=hval xv hxl;obtain⟨A,hA⟩:∃z,vT xv (.mk po tn tk)=z:=⟨_,rfl⟩;rw[hA]at cval hJ
   have hlf:QV vars hv 1 sv sn (.mk po tn tk) sbs (tick ⟨xv,xo,xt⟩ sc)=⟨xv,xo++[A],tm⟩:=by
    rw[<-htm,<-hA];rfl
   rw[hlf]at hJ;have hes:=XbN ev o A;have hroom:W5 (ev.length+1) 16:=⟨by unfold maxLen;omega,by omega⟩;clear hval iha ihb cstl hA htm hlf;refine(XU [⟨true,.v (li A),none⟩] (by kernel_rfl) (by kernel_rfl) (by rfl) (by simp[*,XL,QH,Q1,cellsOf,W4];first|exact⟨rfl,Iff.rfl⟩|exact⟨rfl,trivial⟩|rfl) ?_ ?_)
   .first|exact cval _|exact trivial|simpa[*,XL,QH,Q1,cellsOf,W4]using cval _
   refine X1 ?_;refine X1 ?_;exact⟨(k+1,o2,(⟨xv,xo++[A],tm⟩,ev++[(o,A)])),⟨hk1,hJ,hfo2,hxl,by simp only[Na,List.length_singleton];omega⟩,by simp only;omega,X4 (fun n=>if n=900002 then 84 else n) []⟩
  simp only[BN]at h27;have hd1:¬sd=1:=by simpa using h27
  refine X2 ?_;refine(X6 rfl (fun h33=>?_) (fun h33=>?_))
  ·simp only[BN]at h33;have hd3:sd=3:=by simpa using h33
   subst hd3;rw[N7 (by decide)]at htm;rw[N7 (by decide),N8 rfl]at hJ;rw[N7 (by decide),N8 rfl]at hxe;have cval:=hval xv hxl;obtain⟨A,hA⟩:∃z,vT xv (.mk po tn tk)=z:=⟨_,rfl⟩;have htk:tick ⟨xv,xo,xt⟩ sc=⟨xv,xo,tm⟩:=by rw[<-htm];rfl
   rw[hA,htk]at hJ;rw[hA]at cval;clear hval hA htm htk cstl;refine X0<|(XU [⟨true,.v (li A),none⟩] (by kernel_rfl) (by kernel_rfl) (by rfl) (by simp[*];first|exact⟨rfl,Iff.rfl⟩|exact⟨rfl,trivial⟩|rfl) ?_ ?_)
   .first|exact cval _|exact trivial|simpa[*]using cval _
   refine(X6 rfl (fun h35=>?_) (fun h35=>?_))
   ·simp only[BN]at h35;have hA0:¬A=0:=by simpa using h35
    rw[N7 hA0]at hJ;have ca:=iha o1 (⟨xv,xo,tm⟩,ev) (by omega) hxl (by simp only;omega);have hl1:=X5E vars hv sa o1 (⟨xv,xo,tm⟩,ev);have hl2:=XbJ vars hv sa o1 (⟨xv,xo,tm⟩,ev);obtain⟨⟨⟨yv,yo,yt⟩,ye⟩,hY⟩:∃z,evD vars hv sa o1 (⟨xv,xo,tm⟩,ev)=z:=⟨_,rfl⟩;rw[hY]at ca hl1 hl2 hJ;simp only[plO]at ca;simp only at hl1 hl2;clear iha ihb hY cval h35;refine(XJ ?_);refine RunsN.cutE 5 [] (by simp[*];rfl) trivial (le_refl _) ?_;refine RunsN.callA (fun n=>n) (fun n=>if n=900001 then 900011 else if n=900002 then 900012 else n) ca fun _ _=>?_;refine RunsN.doneE [] rfl trivial ?_;refine XC (s':=⟨⟨158,none⟩,[(0,.v (.one (.at_ 1000001 0))),(2,.v (li o)),(8,.v (.one (.at_ 8 0))),(9,.v (li o2)),(10,.v (lS l)),(11,.v (li l.length)),(12,.v (li k))],[(8,.box [.c (iC 3),.c (iC sc),.c (iC sv),.c (iC sn),.c (iC po),.c (iC tn),.c (.sl 3 (Xx tk)),.c (.sl 10 (X7 sa)),.c (.sl 10 (X7 sb)),.c (.sl 1 (X9 sbs))]),(900001,.row 3 1 (X9 yv)),(900002,.row 150 2 (W6 ye)),(1000001,.box [.c (.sl 5 (Xk vars)),.c (.sl 6 (Xn hats)),.c (.sl 10 (X7 body)),.c (.sl 1 (X9 hv)),.own 900001,.own 900002,.c (iC yt)])]⟩) (Xw (fun n=>if n=900001 then 900011 else if n=900002 then 900012 else n) [] rfl (by simp[Qa,QE,del,ins,CV.ren,Ob.ren]) (by simp[Qa,QE,del,ins,CV.ren,Ob.ren]) (by simp)) ?_;refine X1 ?_;refine X1 ?_;exact⟨(k+1,o2,(⟨yv,yo,yt⟩,ye)),⟨hk1,hJ,hfo2,hl2.trans hxl,by simp only;omega⟩,by simp only;omega,X4 (fun n=>n) []⟩
   simp only[BN]at h35;have hA0:A=0:=by simpa using h35
   rw[N8 hA0]at hJ;have ca:=ihb o3 (⟨xv,xo,tm⟩,ev) (by omega) hxl (by simp only;omega);have hl1:=X5E vars hv sb o3 (⟨xv,xo,tm⟩,ev);have hl2:=XbJ vars hv sb o3 (⟨xv,xo,tm⟩,ev);obtain⟨⟨⟨yv,yo,yt⟩,ye⟩,hY⟩:∃z,evD vars hv sb o3 (⟨xv,xo,tm⟩,ev)=z:=⟨_,rfl⟩;rw[hY]at ca hl1 hl2 hJ;rw[ho2]at ca;simp only[plO]at ca;simp only at hl1 hl2;clear iha ihb hY cval h35 hA0;refine XC (s':=⟨⟨158,none⟩,[(0,.v (.one (.at_ 1000001 0))),(2,.v (li o)),(8,.v (.one (.at_ 8 0))),(9,.v (li o2)),(10,.v (lS l)),(11,.v (li l.length)),(12,.v (li k))],[(8,.box [.c (iC 3),.c (iC sc),.c (iC sv),.c (iC sn),.c (iC po),.c (iC tn),.c (.sl 3 (Xx tk)),.c (.sl 10 (X7 sa)),.c (.sl 10 (X7 sb)),.c (.sl 1 (X9 sbs))]),(900001,.row 3 1 (X9 xv)),(900002,.row 150 2 (W6 ev)),(1000001,.box [.c (.sl 5 (Xk vars)),.c (.sl 6 (Xn hats)),.c (.sl 10 (X7 body)),.c (.sl 1 (X9 hv)),.own 900001,.own 900002,.c (iC tm)])]⟩) (Xw (fun n=>n) [] rfl (by simp) (by simp) (by simp)) ?_;refine(Wj (We [(0,.v (.one (.at_ 1000001 0))),(2,.v (li o)),(8,.v (.one (.at_ 8 0))),(9,.v (li o2)),(10,.v (lS l)),(11,.v (li l.length)),(12,.v (li k))] [(8,.box [.c (iC 3),.c (iC sc),.c (iC sv),.c (iC sn),.c (iC po),.c (iC tn),.c (.sl 3 (Xx tk)),.c (.sl 10 (X7 sa)),.c (.sl 10 (X7 sb)),.c (.sl 1 (X9 sbs))]),(900001,.row 3 1 (X9 xv)),(900002,.row 150 2 (W6 ev)),(1000001,.box [.c (.sl 5 (Xk vars)),.c (.sl 6 (Xn hats)),.c (.sl 10 (X7 body)),.c (.sl 1 (X9 hv)),.own 900001,.own 900002,.c (iC tm)])] [(8,.box [.c (iC 3),.c (iC sc),.c (iC sv),.c (iC sn),.c (iC po),.c (iC tn),.c (.sl 3 (Xx tk)),.c (.sl 10 (X7 sa)),.c (.sl 10 (X7 sb)),.c (.sl 1 (X9 sbs))]),(900011,.row 3 1 (X9 yv)),(900012,.row 150 2 (W6 ye)),(1000001,.box [.c (.sl 5 (Xk vars)),.c (.sl 6 (Xn hats)),.c (.sl 10 (X7 body)),.c (.sl 1 (X9 hv)),.own 900011,.own 900012,.c (iC yt)])] 9 [(0,103,.v (.one (.at_ 1000001 0))),(1,104,.v (.one (.at_ 8 8))),(2,105,.v (lS sb)),(3,106,.v (li o)),(4,107,.v (li o1)),(5,108,.v (.one (.at_ 8 7))),(6,109,.v (lS sa)),(7,110,.v (li (szL sa))),(8,111,.v (li o3)),(9,112,.v (li o2))]) 10 1023 Xa3 rfl (by kernel_rfl) (by kernel_rfl) (by kernel_rfl) (by kernel_rfl) (by simp[We,trS]) ?_ ?_)
   .simp only[Xa3,X1E]
    repeat' apply And.intro
    all_goals first
     |trivial
     |(refine XP.evE rfl ?_;simp[We,trS,ins,lkp,hq1,hq2];done)
     |(refine XP.ev [⟨true,.v (li (szL sa)),none⟩] rfl (by simp[We,trS,ins,lkp];first|exact⟨rfl,Iff.rfl⟩|exact⟨rfl,trivial⟩|rfl) ?_ (by simp[We,trS,ins]);first|exact cza _|simpa using cza _)
     | (refine XP.callA (hd0:=by(refine QP ?_ ?_ ?_ ?_ ?_<;>simp[We,trS,ins,rbB,Wl,CV.ren,Ob.ren,lkp])) (hd:=by(intro _ _;refine QP ?_ ?_ ?_ ?_ ?_<;>simp[We,trS,ins,rbB,Wl,Qz,CV.ren,Ob.ren,lkp])) (fun n=>n) (fun n=>if n=900001 then 900011 else if n=900002 then 900012 else n) ca rfl fun _ _=>?_
        simp[We,trS,ins,Qa,QE,del,CV.ren,Ob.ren])
   refine XC (s':=⟨⟨158,none⟩,[(0,.v (.one (.at_ 1000001 0))),(2,.v (li o)),(8,.v (.one (.at_ 8 0))),(9,.v (li o2)),(10,.v (lS l)),(11,.v (li l.length)),(12,.v (li k))],[(8,.box [.c (iC 3),.c (iC sc),.c (iC sv),.c (iC sn),.c (iC po),.c (iC tn),.c (.sl 3 (Xx tk)),.c (.sl 10 (X7 sa)),.c (.sl 10 (X7 sb)),.c (.sl 1 (X9 sbs))]),(900001,.row 3 1 (X9 yv)),(900002,.row 150 2 (W6 ye)),(1000001,.box [.c (.sl 5 (Xk vars)),.c (.sl 6 (Xn hats)),.c (.sl 10 (X7 body)),.c (.sl 1 (X9 hv)),.own 900001,.own 900002,.c (iC yt)])]⟩) (Xw (fun n=>if n=900001 then 900011 else if n=900002 then 900012 else n) [] rfl (by simp[We,trS]) (by simp[We,trS]) (by simp)) ?_;refine X1 ?_;refine X1 ?_;exact⟨(k+1,o2,(⟨yv,yo,yt⟩,ye)),⟨hk1,hJ,hfo2,hl2.trans hxl,by simp only;omega⟩,by simp only;omega,X4 (fun n=>n) []⟩
  simp only[BN]at h33;have hd3:¬sd=3:=by simpa using h33
  refine X2 ?_;refine(X6 rfl (fun h45=>?_) (fun h45=>?_))
  ·simp only[BN]at h45;have hd4:sd=4:=by simpa using h45
   subst hd4;rw[N8 rfl]at htm hJ hxe;have htm:=htm.symm;subst htm;obtain⟨R,hR⟩:∃z,X4S sc (.mk po tn tk) (evD vars hv sa o1) sn.toNat (⟨xv,xo,tm⟩,ev)=z:=⟨_,rfl⟩;rw[hR]at hJ;have h4096:sn<=4096:=w4.resolve_left (by decide);have hel:=fun x=>X5E vars hv sa o1 x;have hev:=fun x=>XbJ vars hv sa o1 x;clear ihb cstl;refine X2 ?_;refine X3<|(Xg [0,2,8,9,10,11,12,116] (fun(z:Nat×Sev)=>[(117,.v (li z.1))]) (fun z=>[(8,.box [.c (iC 4),.c (iC sc),.c (iC sv),.c (iC sn),.c (iC po),.c (iC tn),.c (.sl 3 (Xx tk)),.c (.sl 10 (X7 sa)),.c (.sl 10 (X7 sb)),.c (.sl 1 (X9 sbs))]),(900001,.row 3 1 (X9 z.2.1.vals)),(900002,.row 150 2 (W6 z.2.2)),(1000001,.box [.c (.sl 5 (Xk vars)),.c (.sl 6 (Xn hats)),.c (.sl 10 (X7 body)),.c (.sl 1 (X9 hv)),.own 900001,.own 900002,.c (iC z.2.1.time)])]) (fun z=>z.1<=sn.toNat/\X4S sc (.mk po tn tk) (evD vars hv sa o1) (sn.toNat - z.1) z.2=R/\z.2.1.vals.length=vars.length/\z.2.2.length+(sn.toNat - z.1)*oUL sa<=ev.length+sn.toNat*oUL sa) (fun z=>sn.toNat - z.1) (0,(⟨xv,xo,tm⟩,ev)) ⟨Nq _,by simpa using hR,hxl,by simp⟩ ?_ ?_)
   .exact X4 (fun n=>n) []
   rintro⟨z,⟨⟨zv,zo,zt⟩,ze⟩⟩ ⟨hz,hzR,hzl,hze⟩;simp only[upS,X8,Xz]
   simp only[KN,Nat.reduceBEq,Nj,Nc,ins,Nat.reduceLT]
   simp only at hz hzR hzl hze;clear hR;refine X2 ?_;refine X0<|(X6 rfl (fun h49=>Xe ?_) (fun h49=>?_))
   ·simp only[BN]at h49;have hzn:(z:Int)<sn:=by simpa using h49
    obtain⟨m,hm⟩:∃m,sn.toNat - z=m+1:=⟨sn.toNat - z - 1,by omega⟩;have hm2:sn.toNat - (z+1)=m:=by omega
    have hz1:z+1<=sn.toNat:=by omega
    rw[hm]at hzR hze;rw[X4S]at hzR;rw[Nat.succ_mul]at hze;have hwz:IntKind.i64.wrap ((z:Int)+1)=(z:Int)+1:=Xa;have cval:=hval zv hzl;obtain⟨A,hA⟩:∃q,vT zv (.mk po tn tk)=q:=⟨_,rfl⟩;obtain⟨tz,htz⟩:∃q,IntKind.i64.wrap (zt+sc)=q:=⟨_,rfl⟩;have htk:tick ⟨zv,zo,zt⟩ sc=⟨zv,zo,tz⟩:=by rw[<-htz];rfl
    simp only[hA,htk]at hzR;rw[hA]at cval;clear hval h49 hzn hA htk;refine X0<|X3<|X0<|(N0 ?_);refine X0<|X0<|(XU [⟨true,.v (li A),none⟩] (by kernel_rfl) (by kernel_rfl) (by rfl) (by simp[*];first|exact⟨rfl,Iff.rfl⟩|exact⟨rfl,trivial⟩|rfl) ?_ ?_)
    .first|exact cval _|exact trivial|simpa[*]using cval _
    refine(Xb rfl (fun h52=>?_) fun h52=>?_)
    ·simp only[BN]at h52;have hA0:A=0:=by simpa using h52
     rw[N8 hA0]at hzR;subst hzR;clear h52 hA0 iha cval;refine(Xi ?_);refine X1 ?_;refine X1 ?_;exact⟨(k+1,o2,(⟨zv,zo,tz⟩,ze)),⟨hk1,hJ,hfo2,hzl,by simp only;omega⟩,by simp only;omega,X4 (fun n=>n) []⟩
    simp only[BN]at h52;have hA0:¬A=0:=by simpa using h52
    rw[N7 hA0]at hzR;have ca:=iha o1 (⟨zv,zo,tz⟩,ze) (by omega) hzl (by simp only;omega);have hl1:=hel (⟨zv,zo,tz⟩,ze);have hl2:=hev (⟨zv,zo,tz⟩,ze);obtain⟨⟨⟨yv,yo,yt⟩,ye⟩,hY⟩:∃q,evD vars hv sa o1 (⟨zv,zo,tz⟩,ze)=q:=⟨_,rfl⟩;rw[hY]at ca hl1 hl2 hzR;simp only[plO]at ca;simp only at hl1 hl2;clear iha hY cval h52 hA0;refine(XJ ?_);refine RunsN.cutE 5 [] (by simp[*];rfl) trivial (le_refl _) ?_;refine RunsN.callA (fun n=>n) (fun n=>if n=900001 then 900011 else if n=900002 then 900012 else n) ca fun _ _=>?_;refine RunsN.doneE [] rfl trivial ?_;refine XC (s':=⟨⟨158,none⟩,[(0,.v (.one (.at_ 1000001 0))),(2,.v (li o)),(8,.v (.one (.at_ 8 0))),(9,.v (li o2)),(10,.v (lS l)),(11,.v (li l.length)),(12,.v (li k)),(116,.v (li sn)),(117,.v (li z))],[(8,.box [.c (iC 4),.c (iC sc),.c (iC sv),.c (iC sn),.c (iC po),.c (iC tn),.c (.sl 3 (Xx tk)),.c (.sl 10 (X7 sa)),.c (.sl 10 (X7 sb)),.c (.sl 1 (X9 sbs))]),(900001,.row 3 1 (X9 yv)),(900002,.row 150 2 (W6 ye)),(1000001,.box [.c (.sl 5 (Xk vars)),.c (.sl 6 (Xn hats)),.c (.sl 10 (X7 body)),.c (.sl 1 (X9 hv)),.own 900001,.own 900002,.c (iC yt)])]⟩) (Xw (fun n=>if n=900001 then 900011 else if n=900002 then 900012 else n) [] rfl (by simp[Qa,QE,del,ins,CV.ren,Ob.ren]) (by simp[Qa,QE,del,ins,CV.ren,Ob.ren]) (by simp)) ?_;refine X1 ?_;exact⟨(z+1,(⟨yv,yo,yt⟩,ye)),⟨hz1,by simp only[hm2];exact hzR,hl2.trans hzl,by simp only[hm2];omega⟩,by simp only;omega,X4 (fun n=>n) []⟩
   simp only[BN]at h49;have hzn:¬(z:Int)<sn:=by simpa using h49
   have hm:sn.toNat - z=0:=by omega
   rw[hm,X4S]at hzR;subst hzR;clear h49 hzn iha hval;refine(Xi ?_);refine X1 ?_;refine X1 ?_;exact⟨(k+1,o2,(⟨zv,zo,zt⟩,ze)),⟨hk1,hJ,hfo2,hzl,by simp only;omega⟩,by simp only;omega,X4 (fun n=>n) []⟩
  simp only[BN]at h45;have hd4:¬sd=4:=by simpa using h45
  rw[N7 hd4]at htm;rw[N7 hd4,N7 hd3,N7 hd1]at hJ;rw[N7 hd4,N7 hd3,N7 hd1]at hxe;clear iha ihb hval;refine X2 ?_;refine(Xb rfl (fun h63=>?_) fun h63=>?_)
  ·simp only[BN]at h63;have hd6:sd=6:=by simpa using h63
   subst hd6;have cst:=cstl tm;obtain⟨A,hA⟩:∃z,X0p sbs tm tm false=z:=⟨_,rfl⟩
   have hlf:QV vars hv 6 sv sn (.mk po tn tk) sbs (tick ⟨xv,xo,xt⟩ sc)=⟨xv,xo,A⟩:=by
    rw[<-hA,<-htm];rfl
   rw[hlf]at hJ;rw[hA]at cst;clear hA hlf htm cstl;refine(XU [⟨true,.v (li A),none⟩] (by kernel_rfl) (by kernel_rfl) (by rfl) (by simp[*];first|exact⟨rfl,Iff.rfl⟩|exact⟨rfl,trivial⟩|rfl) ?_ ?_)
   .first|exact cst _|exact trivial|simpa[*]using cst _
   refine X1 ?_;refine X1 ?_;exact⟨(k+1,o2,(⟨xv,xo,A⟩,ev)),⟨hk1,hJ,hfo2,hxl,by simp only;omega⟩,by simp only;omega,X4 (fun n=>n) []⟩
  simp only[BN]at h63;have hd6:¬sd=6:=by simpa using h63
  have hlf:QV vars hv sd sv sn (.mk po tn tk) sbs (tick ⟨xv,xo,xt⟩ sc)=⟨xv,xo,tm⟩:=by
   unfold QV;rw[N7 hd0,N7 hd1,N7 hd5,N7 hd6,<-htm];rfl
  rw[hlf]at hJ;clear hlf htm cstl;refine X1 ?_;refine X1 ?_;exact⟨(k+1,o2,(⟨xv,xo,tm⟩,ev)),⟨hk1,hJ,hfo2,hxl,by simp only;omega⟩,by simp only;omega,X4 (fun n=>n) []⟩
 simp only[BN]at h4
 have hkl:k=l.length:=by
  have:¬k<l.length:=by first|omega|simpa using h4
  omega
 subst hkl;simp only[Nw,evD,szL,Nat.add_zero]at hJ hfo;subst hJ;subst hfo;refine(Xi ?_);refine X2 ?_;exact XZ ⟨.inr rfl,(),trivial,_,le_refl _,⟨_,by simp[X3h];rfl,by simp[XG]⟩,fun n o h=>h⟩
end Go.Proofs.YtdajceakaakdoaaGreat
