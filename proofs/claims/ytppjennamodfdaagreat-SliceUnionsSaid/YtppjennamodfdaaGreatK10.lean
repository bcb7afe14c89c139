/- Part 10: contracts of functions of the program and of the reference, and plain facts about what they compute; used by the proof of the claimed statement. Conditions: as each theorem states. -/
import Derived.Test.YtppjennamodfdaaGreatK9
import Derived.Test.YtppjennamodfdaaGreatHmZL
set_option linter.unusedSimpArgs false
set_option linter.unusedVariables false
set_option linter.unnecessarySimpa false
set_option maxRecDepth 100000
set_option maxHeartbeats 2000000
namespace Go.Proofs.YtppjennamodfdaaGreat
open Go Go.Hl
@[simp] theorem mpZ_nil:mpZ []=[]:=rfl
abbrev ZF (f:Fl) (steps:List St) (ar:List Int) (rd:List (List Nat)):CD:=.ptr [.sl 5 (Xv f.vars),.sl 6 (Xu f.hats),.sl 10 (X9 f.body),.sl 10 (X9 steps),.sl 1 (Xe ar),.sl 1 (QB rd)]
theorem X8W (f:Fl) (steps:List St) (ar:List Int) (rd:List (List Nat)) (n:Nat) (hn:n≤1000000) (hl:steps.length≤1000000) (d:Nat):Con Tryz.prog 84 true [.one (.c (ZF f steps ar rd)),li n] (.v (li (QS steps n))) none d:=by
 obtain⟨res,hres⟩:∃x,QS steps n=x:=⟨_,rfl⟩;rw[hres];refine X5 Tryz.func84 ?_;simp only[Tryz.f84];refine X3 ?_;refine X1<|X1<|X2 ?_;refine(Xa rfl (fun h2=>?_) fun h2=>?_)
 · (try simp only[BN]at h2);have hge:steps.length≤n:=by simpa using h2
   rw[Xad hge]at hres;have hw:IntKind.i64.wrap ((n:Int) - steps.length)=(n:Int) - steps.length:=Xd (by omega) (by omega);clear h2;refine X3 ?_;exact Xc
 (try simp only[BN]at h2);have hlt:n<steps.length:=by simpa using h2
 obtain⟨s,he,_⟩:=Xs hlt;have he':=Q1 he;rw[X9d s he]at hres;obtain⟨so,sc,sv,sn,⟨to,tn,tk⟩,sa,sb,sbs⟩:=s;simp only[St.enc,Tm.enc,List.cons_append,List.nil_append]at he';simp only[St.var]at hres;clear h2 he hlt;refine X3 ?_;exact Xc
def X2I (steps:List St) (q:St) (l:List Nat):List Nat:=l.filter fun d=>decide (QS steps d∈vrT q.term [])
theorem X4O (f:Fl) (steps:List St) (ar:List Int) (rd:List (List Nat)) (s:Nat) (q:St) (l:List Nat) (hq:steps[s]? =some q) (hr:rd[s]? =some l) (hqn:q.term.nodes≤1000000) (hl:l.length≤5000) (hlb:∀d∈l,d≤1000000) (hs:steps.length≤1000000) (d:Nat):
  Con Tryz.prog 53 false [.one (.c (ZF f steps ar rd)),li s] (.v (.one (.c (.sl 1 (XW (X2I steps q l)))))) none d:=by
 have cv:=X2q put1_con q.term hqn [];have cd:=fun n hn=>X8W f steps ar rd n hn hs;obtain⟨res,hres⟩:∃x,X2I steps q l=x:=⟨_,rfl⟩;rw[hres];unfold X2I at hres;obtain⟨M,hM⟩:∃x,vrT q.term []=x:=⟨_,rfl⟩;rw[hM]at hres cv;have he':=Q1 hq;have hr':=X0E hr;obtain⟨so,sc,sv,sn,⟨to,tn,tk⟩,sa,sb,sbs⟩:=q;simp only[St.enc,Tm.enc,List.cons_append,List.nil_append]at he';simp only[St.term,aT,Tm.enc,List.map_cons,List.map_nil]at cv;clear hM hq hr hqn;refine X5 Tryz.func53 ?_;simp only[Tryz.f53];refine X3 ?_;refine X3 ?_;refine X1<|(XR ?_);refine RunsN.cutE 9 [] (by simp[*];rfl) trivial (le_refl _) ?_;refine RunsN.callA (fun n=>if n=1000000 then 5 else if n=900001 then 9 else n) (fun n=>if n=1000000 then 5 else if n=900001 then 19 else n) cv fun _ _=>?_;refine RunsN.doneE [] rfl trivial ?_;refine XC (s':=⟨⟨43,none⟩,[(0,.v (.one (.c (ZF f steps ar rd)))),(1,.v (li s)),(5,.v (.one (.at_ 5 0)))],[(5,.box [.own 900001]),(900001,.mp (mpZ M))]⟩) (Xx (fun n=>if n=900001 then 19 else n) [] rfl (by simp[Qi,QW,del,ins,CV.ren,Ob.ren]) (by simp[Qi,QW,del,ins,CV.ren,Ob.ren]) (by simp)) ?_;refine X3 ?_;refine X1<|X1<|X2 ?_;refine X4<|(Xf [0,5,26,27] (fun(y:Nat×List Nat)=>[(6,.v (.one (.own 1006))),(28,.v (li y.1))]) (fun y=>[(5,.box [.own 900001]),(1006,.row 3 1 (XW y.2)),(900001,.mp (mpZ M))]) (fun y=>y.1≤l.length∧y.2++(l.drop y.1).filter (fun d=>decide (QS steps d∈M))=res∧y.2.length≤y.1) (fun y=>l.length - y.1) (0,[]) ⟨Nat.zero_le _,by simpa using hres,Nat.le_refl _⟩ ?_ ?_)
 · exact X6 (fun n=>n) [1006]
 rintro⟨k,out⟩ ⟨hk,hJ,hol⟩;simp only[upS,X8,Xw]
 try simp only[X8,KN,Nat.reduceBEq,if_true,if_false,ins,Nat.reduceLT]
 simp only at hk hJ hol;clear hres;refine X3 ?_;refine X1<|(X7 rfl (fun h7=>Xb ?_) (fun h7=>?_))
 · (try simp only[BN]at h7);have hlt:k<l.length:=by simpa using h7
   obtain⟨x,he,hd⟩:=Xs hlt;have hw1:=XA hlt (by omega);have hk1:k+1≤l.length:=hlt;have hx:=hlb x (List.mem_of_getElem? he);have cx:=cd x hx;have hxe:(XW l)[k]? =some [iC x]:=by simp[XW,he]
   have hfd:=X1U (QS steps x) M;have hroom:Qq (out.length+1) 8:=XB (by omega) (by decide);rw[hd]at hJ;clear hlt h7 he hd hlb cd;refine X1<|X4<|X1<|X2 ?_;refine XV [0,5,6,8,26,27,28] (fun(z:Bool)=>[(36,.v (lb z))]) (fun(z:Bool)=>[(5,.box [.own 900001]),(1006,.row 3 1 (XW out)),(900001,.mp (mpZ M))]) (fun(z:Bool)=>z=decide (QS steps x∈M)) ?_ ?_
   · by_cases hin:QS steps x∈M
     · rw[if_pos hin]at hfd;refine XS [⟨true,.v (li (QS steps x)),none⟩] (by kernel_rfl) (by kernel_rfl) (by rfl) (by simp[hfd];first|exact⟨rfl,Iff.rfl⟩|exact⟨rfl,trivial⟩|rfl) ?_ ?_
       · first|exact cx _|simpa using cx _
       exact⟨_,rfl,Xx (fun n=>n) [] rfl (by simp[upS,X8,hin]) (by simp[upS]) (by simp[upS])⟩
     rw[if_neg hin]at hfd;refine XS [⟨true,.v (li (QS steps x)),none⟩] (by kernel_rfl) (by kernel_rfl) (by rfl) (by simp[hfd];first|exact⟨rfl,Iff.rfl⟩|exact⟨rfl,trivial⟩|rfl) ?_ ?_
     · first|exact cx _|simpa using cx _
     exact⟨_,rfl,Xx (fun n=>n) [] rfl (by simp[upS,X8,hin]) (by simp[upS]) (by simp[upS])⟩
   rintro z hz;simp only[upS,X8,Xw]
   try simp only[X8,KN,Nat.reduceBEq,if_true,if_false,ins,Nat.reduceLT]
   refine(Xa rfl (fun h10=>?_) fun h10=>?_)
   · (try simp only[BN]at h10);have hzt:z=true:=by simpa using h10
     rw[List.filter_cons,if_pos (by rw[←hz,hzt])]at hJ;clear hz h10 hfd cx;refine X2 ?_;refine X2 ?_;exact⟨(k+1,out++[x]),⟨hk1,by simpa using hJ,by simp;omega⟩,by simp only;omega,X6 (fun n=>if n=1006 then 40 else n) []⟩
   (try simp only[BN]at h10);have hzt:z=false:=by simpa using h10
   rw[List.filter_cons,if_neg (by rw[←hz,hzt];simp)]at hJ;clear hz h10 hfd cx;refine X2 ?_;exact⟨(k+1,out),⟨hk1,hJ,by simp only;omega⟩,by simp only;omega,X6 (fun n=>n) []⟩
 try simp only[BN]at h7
 have hkl:k=l.length:=by
  have:¬k<l.length:=by simpa using h7
  omega
 subst hkl;simp only[List.drop_length,List.filter_nil,List.append_nil]at hJ;subst hJ;clear h7;refine(Xi ?_);refine XC (XJ 1006 rfl) ?_;refine X3 ?_;exact XF ⟨.inr rfl,_,le_refl _,⟨⟨_,by simp;rfl,by simp[XD]⟩,by simp,fun h=>by cases h⟩⟩
end Go.Proofs.YtppjennamodfdaaGreat

namespace Go.Proofs.YtppjennamodfdaaGreat
open Go Go.Hl
def X6X (steps:List St) (ar:List Int) (rd:List (List Nat)) (s:Nat):List Nat:=match steps[s]?,ar[s]?,rd[s]? with
 |some q,some a,some l=>(if 0≤a then [a.toNat] else [])++(X2I steps q l).filter fun d=>decide (d<steps.length)
 |_,_,_=>[]
def X2H (steps:List St) (ar:List Int) (rd:List (List Nat)):List (List Nat):=(List.range steps.length).map (X6X steps ar rd)
structure TabOK (steps:List St) (ar:List Int) (rd:List (List Nat)):Prop where
 hn:steps.length≤1000
 har:ar.length=steps.length
 hrd:rd.length=steps.length
 nod:∀s∈steps,s.term.nodes≤1000000
 rdl:∀l∈rd,l.length≤5000∧∀d∈l,d≤1000000
theorem X5H {R:List (Option (List (List CD)))} {y:Nat} (h:R[y]? =some none):X0x R y=true:=by
 unfold X0x;rw[h]
set_option maxHeartbeats 8000000 in
theorem X0e (f:Fl) (steps:List St) (ar:List Int) (rd:List (List Nat)) (hT:TabOK steps ar rd) (d:Nat):
  Con Tryz.prog 46 false [.one (.c (ZF f steps ar rd))] (.v (.one (.c (.sl 1 (QB (X2H steps ar rd)))))) none d:=by
 obtain⟨hn,hal,hrl,hnod,hrdl⟩:=hT;have hDl:(X2H steps ar rd).length=steps.length:=by simp[X2H]
 have hDg:∀s,s<steps.length→(X2H steps ar rd)[s]? =some (X6X steps ar rd s):=fun s hs=>by simp[X2H,hs]
 have csr:=X4O f steps ar rd;obtain⟨D,hD⟩:∃x,X2H steps ar rd=x:=⟨_,rfl⟩;rw[hD]at hDl hDg⊢;have hbig:(24:Int)*steps.length≤281474976710656:=by omega
 have hmx:steps.length≤maxLen:=by unfold maxLen;omega
 clear hD;refine X5 Tryz.func46 ?_;simp only[Tryz.f46];refine X3 ?_;refine X3 ?_;refine XC (XaB 12 3 1 (by decide) (by decide) rfl rfl rfl) ?_;refine X1<|X1<|X2 ?_;refine X4<|(Xf [0,3,17] (fun(y:Nat)=>[(18,.v (li y))]) (fun y=>[(12,.mat 27 3 1 (rwI D y steps.length))]) (fun y=>y≤steps.length) (fun y=>steps.length - y) (0:Nat) (Nat.zero_le _) ?_ ?_)
 · exact Xx (fun n=>n) [] rfl (by simp[*,upS,X8]) (by simp[*,upS,X9Q]) (by simp[upS])
 rintro y hy;simp only[upS,X8,Xw]
 try simp only[X8,KN,Nat.reduceBEq,if_true,if_false,ins,Nat.reduceLT]
 refine X3 ?_;refine X1<|(X7 rfl (fun h5=>Xb ?_) (fun h5=>?_))
 · (try simp only[BN]at h5);have hlt:y<steps.length:=by simpa using h5
   have hw1:=XA hlt (by omega);have hk1:y+1≤steps.length:=hlt;obtain⟨q,hq,_⟩:=Xs hlt;obtain⟨a,ha,_⟩:=Xs (show y<ar.length by omega);obtain⟨l,hl,_⟩:=Xs (show y<rd.length by omega);have hlm:=hrdl l (List.mem_of_getElem? hl);have cs:=csr y q l hq hl (hnod q (List.mem_of_getElem? hq)) hlm.1 hlm.2 (by omega);have hDy:=hDg y hlt;have hdir:X6X steps ar rd y=(if 0≤a then [a.toNat] else [])++(X2I steps q l).filter fun d=>decide (d<steps.length):=by simp[X6X,hq,ha,hl]
   rw[hdir]at hDy;have hSl:(X2I steps q l).length≤5000:=Nat.le_trans (List.length_filter_le _ _) hlm.1;obtain⟨SL,hSL⟩:∃x,X2I steps q l=x:=⟨_,rfl⟩;rw[hSL]at cs hDy hSl;have hget:=XbV hlt hDl;have hRs:=Xbp hDy hlt hDl;have hRl:y+1≤(rwI D y steps.length).length:=by rw[XbJ hy hDl];exact hlt
   obtain⟨R,hR⟩:∃x,rwI D y steps.length=x:=⟨_,rfl⟩;rw[hR]at hget hRs hRl⊢;have hfr:=X5H hget;clear hlt h5 hq hl hlm hdir hDy hSL hR;refine X1<|X4<|X1<|X2 ?_;refine(XV [0,3,4,17,18] (fun(z:List Nat)=>[]) (fun(z:List Nat)=>[(12,.mat 27 3 1 (X16 R y z))]) (fun(z:List Nat)=>z=if 0≤a then [a.toNat] else []) ?_ ?_)
   ·
    refine X3 ?_;refine(Xa rfl (fun h9=>?_) fun h9=>?_)
    · (try simp only[BN]at h9);have hap:0≤a:=by simpa using h9
      obtain⟨m,rfl⟩:=Int.eq_ofNat_of_zero_le hap;have hz1:R.set y (some [[iC (m:Int)]])=X16 R y [m]:=rfl;have hroom:Qq 1 8:=XB (by omega) (by decide);clear h9;refine(Qc (by kernel_rfl) (by kernel_rfl) (by rfl) (by simp[*];rfl) ?_);exact⟨[m],by simp,X6 (fun n=>n) []⟩
    (try simp only[BN]at h9);have hap:¬0≤a:=by simpa using h9
    have hz1:=X7e hget;clear h9;exact⟨[],by simp[hap],X6 (fun n=>n) []⟩
   rintro z hz;simp only[upS,X8,Xw]
   try simp only[X8,KN,Nat.reduceBEq,if_true,if_false,ins,Nat.reduceLT]
   have hzl:z.length≤1:=by rw[hz];split<;>simp
   rw[←hz]at hRs;clear hz hget hfr ha;refine Xj [⟨false,.v (.one (.c (.sl 1 (XW SL)))),none⟩] ?_ ?_
   · first|exact cs _|exact trivial|simpa[*]using cs _
   refine X4<|(Xf [0,3,4,17,18,47,48] (fun(u:Nat×List Nat)=>[(49,.v (li u.1))]) (fun u=>[(12,.mat 27 3 1 (X16 R y u.2))]) (fun u=>u.1≤SL.length∧u.2++(SL.drop u.1).filter (fun d=>decide (d<steps.length))=z++SL.filter (fun d=>decide (d<steps.length))∧u.2.length≤u.1+1) (fun u=>SL.length - u.1) (0,z) ⟨Nat.zero_le _,rfl,hzl⟩ ?_ ?_)
   · exact X6 (fun n=>n) []
   rintro⟨j,out⟩ ⟨hj,hJ,hol⟩;simp only[upS,X8,Xw]
   try simp only[X8,KN,Nat.reduceBEq,if_true,if_false,ins,Nat.reduceLT]
   simp only at hj hJ hol;refine X3 ?_;refine X1<|(X7 rfl (fun h16=>Xb ?_) (fun h16=>?_))
   · (try simp only[BN]at h16);have hjl:j<SL.length:=by simpa using h16
     have hwj:=XA hjl (by omega);have hj1:j+1≤SL.length:=hjl;obtain⟨x,hx,hxd⟩:=Xs hjl;have hxe:(XW SL)[j]? =some [iC x]:=by simp[XW,hx]
     rw[hxd]at hJ;clear hjl h16 hx hxd cs csr hDg;refine X1<|X4<|X1<|X2 ?_;refine X3 ?_;refine(Xa rfl (fun h19=>?_) fun h19=>?_)
     · (try simp only[BN]at h19);have hxn:x<steps.length:=by simpa using h19
       rw[List.filter_cons,if_pos (by simpa using hxn)]at hJ;have hJ2:out++[x]++(SL.drop (j+1)).filter (fun d=>decide (d<steps.length))=z++SL.filter (fun d=>decide (d<steps.length)):=by simpa using hJ
       clear h19 hJ hxn;cases out with
       | nil=>
         have g1:=X04 hRl [];have g2:=X6S hRl;have g3:=X2i R y [] [] x;have hroom:Qq 1 8:=XB (by omega) (by decide);simp only[ZS,if_true]at g1;simp only[X5P,List.nil_append]at g3;refine Xq (by simp[g1,g2,g3,hRl,hroom];rfl) ?_;refine Xq (by simp[hwj];rfl) ?_;exact⟨(j+1,[x]),⟨hj1,by simpa using hJ2,by simp⟩,by simp only;omega,Xx (fun n=>n) [] rfl (by simp[upS,X8]) (by simp[upS]) (by simp[upS])⟩
       | cons a0 o=>
         have g1:=X04 hRl (a0::o);have g3:=X2i R y (a0::o) (a0::o) x;have hroom:Qq ((a0::o).length+1) 8:=XB (by omega) (by decide);simp only[ZS,List.cons_ne_nil,if_false]at g1;rw[List.length_cons]at hroom;refine XR ?_;refine RunsN.cutE 8 [] (by simp[g1,hRl];rfl) trivial (le_refl _) ?_;refine RunsN.matA (by simp[X7h,neT,g1,g3,hroom];rfl) ?_;refine RunsN.doneE [] rfl trivial ?_;refine XC (s':=⟨⟨73,none⟩,[(0,.v (.one (.c (ZF f steps ar rd)))),(3,.v (.one (.own 12))),(4,.v (li y)),(17,.v (li steps.length)),(18,.v (li y)),(47,.v (.one (.c (.sl 1 (XW SL))))),(48,.v (li SL.length)),(49,.v (li j))],[(12,.mat 27 3 1 (X16 R y (a0::o++[x])))]⟩) (Xx (fun n=>if n=12 then 68 else n) [] rfl (by simp[WW,RV.mv,TV.mv,CV.mv]) (by simp[WW,Ob.mv,CV.mv]) (by simp)) ?_;refine Xq (by simp[hwj];rfl) ?_;exact⟨(j+1,a0::o++[x]),⟨hj1,hJ2,by simp only[List.length_append,List.length_singleton];omega⟩,by simp only;omega,Xx (fun n=>n) [] rfl (by simp[upS,X8]) (by simp[upS]) (by simp[upS])⟩
     (try simp only[BN]at h19);have hxn:¬x<steps.length:=by simpa using h19
     rw[List.filter_cons,if_neg (by simpa using hxn)]at hJ;clear h19 hxn;refine X2 ?_;exact⟨(j+1,out),⟨hj1,hJ,by simp only;omega⟩,by simp only;omega,X6 (fun n=>n) []⟩
   try simp only[BN]at h16
   have hjl:j=SL.length:=by
    have:¬j<SL.length:=by simpa using h16
    omega
   subst hjl;simp only[List.drop_length,List.filter_nil,List.append_nil]at hJ;rw[←hJ]at hRs;have hfin:X16 R y out=rwI D (y+1) steps.length:=hRs;clear h16 cs hJ hRs;refine(Xi ?_);refine X2 ?_;exact⟨y+1,hk1,by omega,X6 (fun n=>n) []⟩
 try simp only[BN]at h5
 have hyn:y=steps.length:=by
  have:¬y<steps.length:=by simpa using h5
  omega
 subst hyn;have hend:=Xbv hDl;clear hDg csr;refine(Xi ?_);refine X3 ?_;refine XC (X6r 12 rfl) ?_;exact XF ⟨.inr rfl,_,le_refl _,⟨_,by simp[HS.frz,WW,RV.frz,TV.frz,CV.frz];rfl,by simp[XD,hend]⟩,by simp,fun h=>by cases h⟩
end Go.Proofs.YtppjennamodfdaaGreat

namespace Go.Proofs.YtppjennamodfdaaGreat
open Go Go.Hl
def X0S (s:Nat):List Nat→List (List Nat)→List (List Nat)
 |[],M=>M
 |d::l,M=>X0S s l (M.set d ((M[d]?.getD [])++[s]))
def X3T:List (List Nat)→Nat→List (List Nat)→List (List Nat)
 |[],_,M=>M
 |l::L,s,M=>X3T L (s+1) (X0S s l M)
def X1k (L:List (List Nat)):List (List Nat):=X3T L 0 (List.replicate L.length [])
def rwA (M:List (List Nat)):List (Option (List (List CD))):=M.map ZS
@[simp] theorem rwA_len (M:List (List Nat)):(rwA M).length=M.length:=by simp[rwA]
theorem rwA_get {M:List (List Nat)} {d:Nat} {l:List Nat} (h:M[d]? =some l):(rwA M)[d]? =some (ZS l):=by simp[rwA,h]
theorem rwA_set (M:List (List Nat)) (d:Nat) (l:List Nat) (s:Nat):(rwA M).set d (some (XW l++[[iC s]]))=rwA (M.set d (l++[s])):=by
 simp[rwA,List.map_set,ZS]
theorem rwA_zero (n:Nat):rwA (List.replicate n [])=List.replicate n none:=by simp[rwA,ZS]
theorem rwA_end (M:List (List Nat)):(rwA M).map (fun r=>[CD.sl 1 (r.getD [])])=QB M:=by
 unfold rwA QB;rw[List.map_map];refine List.map_congr_left fun l _=>?_;unfold ZS;simp only[Function.comp];split
 · rename_i h;subst h;rfl
 rfl
def lenB (M:List (List Nat)) (b:Nat):Prop:=∀m∈M,m.length≤b
theorem lenB.set {M:List (List Nat)} {b d:Nat} {l:List Nat} (h:lenB M b) (hl:M[d]? =some l) (s:Nat):lenB (M.set d (l++[s])) (b+1):=by
 intro m hm;rcases List.mem_or_eq_of_mem_set hm with hm|rfl
 · have:=h m hm;omega
 have:=h l (List.mem_of_getElem? hl);simp only[List.length_append,List.length_singleton];omega
set_option maxHeartbeats 8000000 in
theorem X3Y (L:List (List Nat)) (hn:L.length≤1000) (hl:∀l∈L,l.length≤6000∧∀d∈l,d<L.length) (d:Nat):Con Tryz.prog 47 false [.one (.c (.sl 1 (QB L)))] (.v (.one (.c (.sl 1 (QB (X1k L)))))) none d:=by
 obtain⟨res,hres⟩:∃x,X1k L=x:=⟨_,rfl⟩;rw[hres];unfold X1k at hres;have hbig:(24:Int)*L.length≤281474976710656:=by omega
 have hmx:L.length≤maxLen:=by unfold maxLen;omega
 refine X5 Tryz.func47 ?_;simp only[Tryz.f47];refine X3 ?_;refine X3 ?_;refine XC (XaB 10 3 1 (by decide) (by decide) rfl rfl rfl) ?_;refine X1<|X1<|X2 ?_;refine X4<|(Xf [3,11,12] (fun(u:Nat×List (List Nat))=>[(13,.v (li u.1))]) (fun(u:Nat×List (List Nat))=>[(10,.mat 27 3 1 (rwA u.2))]) (fun(u:Nat×List (List Nat))=>u.1≤L.length∧X3T (L.drop u.1) u.1 u.2=res∧u.2.length=L.length∧lenB u.2 (6001*u.1)) (fun(u:Nat×List (List Nat))=>L.length - u.1) (0,List.replicate L.length []) ⟨Nat.zero_le _,by simpa using hres,by simp,fun m hm=>by rw[(List.mem_replicate.1 hm).2];exact Nat.zero_le _⟩ ?_ ?_)
 · exact Xx (fun n=>n) [] rfl (by simp[*,upS,X8]) (by simp[*,upS,rwA_zero]) (by simp[upS])
 rintro⟨y,M⟩ ⟨hy,hJ,hMl,hMb⟩;simp only[upS,X8,Xw]
 try simp only[X8,KN,Nat.reduceBEq,if_true,if_false,ins,Nat.reduceLT]
 simp only at hy hJ hMl hMb;clear hres;refine X3 ?_;refine X1<|(X7 rfl (fun h5=>Xb ?_) (fun h5=>?_))
 · (try simp only[BN]at h5);have hlt:y<L.length:=by simpa using h5
   have hw1:=XA hlt (by omega);have hk1:y+1≤L.length:=hlt;obtain⟨l,hly,hld⟩:=Xs hlt;have hle:=X0E hly;obtain⟨hll,hlb⟩:=hl l (List.mem_of_getElem? hly);rw[hld]at hJ;simp only[X3T]at hJ;clear h5 hly hld hl hlt;refine X1<|X4<|X1<|X2 ?_;refine X3 ?_;refine X4<|(Xf [3,4,11,12,13,18,19] (fun(u:Nat×List (List Nat))=>[(20,.v (li u.1))]) (fun(u:Nat×List (List Nat))=>[(10,.mat 27 3 1 (rwA u.2))]) (fun(u:Nat×List (List Nat))=>u.1≤l.length∧X3T (L.drop (y+1)) (y+1) (X0S y (l.drop u.1) u.2)=res∧u.2.length=L.length∧lenB u.2 (6001*y+u.1)) (fun(u:Nat×List (List Nat))=>l.length - u.1) (0,M) ⟨Nat.zero_le _,by simpa using hJ,hMl,hMb⟩ ?_ ?_)
   · exact X6 (fun n=>n) []
   rintro⟨j,M1⟩ ⟨hj,hJ1,hMl1,hMb1⟩;simp only[upS,X8,Xw]
   try simp only[X8,KN,Nat.reduceBEq,if_true,if_false,ins,Nat.reduceLT]
   simp only at hj hJ1 hMl1 hMb1;clear hJ hMl hMb;refine X3 ?_;refine X1<|(X7 rfl (fun h10=>Xb ?_) (fun h10=>?_))
   · (try simp only[BN]at h10);have hjl:j<l.length:=by simpa using h10
     have hwj:=XA hjl (by omega);have hj1:j+1≤l.length:=hjl;obtain⟨x,hx,hxd⟩:=Xs hjl;have hxe:(XW l)[j]? =some [iC x]:=by simp[XW,hx]
     have hxn:=hlb x (List.mem_of_getElem? hx);obtain⟨o,ho,_⟩:=Xs (show x<M1.length by omega);rw[hxd]at hJ1;simp only[X0S,ho,Option.getD_some]at hJ1;have g1:=rwA_get ho;have hol:=hMb1 o (List.mem_of_getElem? ho);have hMb2:=hMb1.set ho y;have hR1:x+1≤M1.length:=by omega
     have g3:=rwA_set M1 x o y;clear hjl h10 hx hxd ho hMb1 hxn;refine X1<|X4<|X1<|X2 ?_;cases o with
     | nil=>
       have hroom:Qq 1 8:=XB (by omega) (by decide);simp only[ZS,if_true]at g1;simp only[X5P,List.nil_append]at g3;have g2:=X5H g1;refine Xq (by simp[g1,g2,g3,hR1,hroom];rfl) ?_;refine Xq (by simp[hwj];rfl) ?_;exact⟨(j+1,M1.set x [y]),⟨hj1,hJ1,by simpa using hMl1,by simpa[Nat.add_assoc]using hMb2⟩,by simp only;omega,Xx (fun n=>n) [] rfl (by simp[upS,X8]) (by simp[upS]) (by simp[upS])⟩
     | cons a0 o=>
       have hroom:Qq (o.length+1+1) 8:=by
        simp only[List.length_cons]at hol;exact⟨by unfold maxLen;omega,by omega⟩
       simp only[ZS,List.cons_ne_nil,if_false]at g1;refine XR ?_;refine RunsN.cutE 8 [] (by simp[g1,hR1];rfl) trivial (le_refl _) ?_;refine RunsN.matA (by simp[X7h,neT,g1,g3,hroom];rfl) ?_;refine RunsN.doneE [] rfl trivial ?_;refine XC (s':=⟨⟨37,none⟩,[(3,.v (.one (.own 10))),(4,.v (li y)),(11,.v (.one (.c (.sl 1 (QB L))))),(12,.v (li L.length)),(13,.v (li y)),(18,.v (.one (.c (.sl 1 (XW l))))),(19,.v (li l.length)),(20,.v (li j))],[(10,.mat 27 3 1 (rwA (M1.set x (a0::o++[y]))))]⟩) (Xx (fun n=>if n=10 then 32 else n) [] rfl (by simp[WW,RV.mv,TV.mv,CV.mv]) (by simp[WW,Ob.mv,CV.mv]) (by simp)) ?_;refine Xq (by simp[hwj];rfl) ?_;exact⟨(j+1,M1.set x (a0::o++[y])),⟨hj1,hJ1,by simpa using hMl1,by simpa[Nat.add_assoc]using hMb2⟩,by simp only;omega,Xx (fun n=>n) [] rfl (by simp[upS,X8]) (by simp[upS]) (by simp[upS])⟩
   try simp only[BN]at h10
   have hjl:j=l.length:=by
    have:¬j<l.length:=by simpa using h10
    omega
   subst hjl;simp only[List.drop_length,X0S]at hJ1;clear h10;refine(Xi ?_);refine X2 ?_;exact⟨(y+1,M1),⟨hk1,hJ1,hMl1,fun m hm=>by have:=hMb1 m hm;simp only;omega⟩,by simp only;omega,X6 (fun n=>n) []⟩
 try simp only[BN]at h5
 have hyn:y=L.length:=by
  have:¬y<L.length:=by simpa using h5
  omega
 subst hyn;simp only[List.drop_length,X3T]at hJ;subst hJ;have hend:=rwA_end M;clear h5;refine(Xi ?_)
 skip
 refine X3 ?_;refine XC (X6r 10 rfl) ?_;exact XF ⟨.inr rfl,_,le_refl _,⟨_,by simp[HS.frz,WW,RV.frz,TV.frz,CV.frz];rfl,by simp[XD,hend]⟩,by simp,fun h=>by cases h⟩
end Go.Proofs.YtppjennamodfdaaGreat

namespace Go.Proofs.YtppjennamodfdaaGreat
open Go Go.Hl
@[simp] theorem mpI_nil:mpI []=[]:=rfl
def X4B (t:List Nat) (v:Nat):List Nat:=if v∈t then t else t++[v]
def addAll:List Nat→List Nat→List Nat
 |[],t=>t
 |v::l,t=>addAll l (X4B t v)
def wl (L:List (List Nat)):Nat→Nat→List Nat→List Nat
 |0,_,t=>t
 | k+1,i,t=>match t[i]? with
   |some v=>wl L k (i+1) (addAll (L[v]?.getD []) t)
   |none=>t
def ZM (L:List (List Nat)) (l:List Nat):List Nat:=wl L (L.length+1) 0 (addAll l [])
structure Nb (n:Nat) (t:List Nat):Prop where
 nd:t.Nodup
 lt:∀d∈t,d<n
theorem Nb.len {n:Nat} {t:List Nat} (h:Nb n t):t.length≤n:=QR h.nd h.lt
theorem Nb.add {n v:Nat} {t:List Nat} (h:Nb n t) (hv:v<n):Nb n (X4B t v):=by
 unfold X4B;split
 · exact h
 rename_i hm;refine⟨?_,?_⟩
 · rw[List.nodup_append];exact⟨h.nd,by simp,fun a ha b hb=>by rw[List.mem_singleton.1 hb];rintro rfl;exact hm ha⟩
 intro d hd;rcases List.mem_append.1 hd with hd|hd
 · exact h.lt d hd
 rw[List.mem_singleton.1 hd];exact hv
theorem Nb.nil (n:Nat):Nb n []:=⟨by simp,by simp⟩
theorem X9A (t:List Nat) (v:Nat):t.length≤(X4B t v).length:=by
 unfold X4B;split
 · exact Nat.le_refl _
 simp
theorem XaJ (l:List Nat):∀t,t.length≤(addAll l t).length:=by
 induction l with
 |nil=>intro t;exact Nat.le_refl _
 |cons v l ih=>intro t;exact Nat.le_trans (X9A t v) (ih _)
theorem Nb.addAll {n:Nat} (l:List Nat) (hl:∀d∈l,d<n):∀{t},Nb n t→Nb n (addAll l t):=by
 induction l with
 |nil=>intro t h;exact h
 |cons v l ih=>intro t h;exact ih (fun d hd=>hl d (by simp[hd])) (h.add (hl v (by simp)))
def wkO (t:List Nat):List (Nat×Ob):=[(900001,.mp (mpI t)),(900002,.row 3 1 (XW t)),(1000000,.box [.own 900001]),(1000001,.box [.own 900002])]
theorem wk_pin {m:List Nat}:∀n cs,lkp (wkO m) n=some (.box cs)→1000000≤n:=by
 intro n cs h;simp only[wkO,lkp]at h
 repeat' split at h
 all_goals first|omega|cases h
theorem mpI_snoc (m:List Nat) (v:Nat):mpI m++[(.int .i64 v,bC true)]=mpI (m++[v]):=by simp[mpI]
theorem X95 (t:List Nat) (v:Nat) (ht:t.length≤100000):X1Q Tryz.prog 81 none (wkO t) [li v,.one (.at_ 1000000 0),.one (.at_ 1000001 0)] (fun _:Unit=>True) (fun _=>.tup []) (fun _=>wkO (X4B t v)):=by
 refine Qx Tryz.func81 rfl (by kernel_rfl) (Nat.le_of_ble_eq_true rfl) wk_pin (fun v h=>by cases h) ?_;simp only[Tryz.f81,wkO];have hf:=X23 v t;unfold X4B;by_cases h:v∈t
 · rw[if_pos h]at hf⊢;refine X3 ?_;refine(Xa rfl (fun h1=>?_) fun h1=>?_)
   · cases h1
   (try simp only[BN]at h1);exact⟨.inl rfl,(),trivial,_,le_refl _,⟨[],rfl,rfl⟩,fun n o h=>h⟩
 rw[if_neg h]at hf⊢;have hs:=mpI_snoc t v;have hroom:Qq (t.length+1) 8:=XB (by omega) (by decide);refine X3 ?_;refine(Xa rfl (fun h1=>?_) fun h1=>?_)
 · (try simp only[BN]at h1);refine X3 ?_;refine X2 ?_;exact⟨.inl rfl,(),trivial,⟨⟨14,none⟩,[],wkO (t++[v])⟩,Xx (fun n=>if n=900002 then 13 else n) [] rfl (by simp) (by simp[wkO]) (by simp[wkO]),⟨[],rfl,rfl⟩,fun n o h=>h⟩
 cases h1
theorem wl_end (L:List (List Nat)) (t:List Nat):∀k,wl L k t.length t=t
 |0=>rfl
 |k+1=>by simp[wl]
theorem wl_step {L:List (List Nat)} {t:List Nat} {k i v:Nat} {l:List Nat} (h:t[i]? =some v) (hl:L[v]? =some l):wl L (k+1) i t=wl L k (i+1) (addAll l t):=by simp[wl,h,hl]
def okLk (L:List (List Nat)):Prop:=∀l∈L,l.length≤100000000∧∀d∈l,d<L.length
set_option maxHeartbeats 8000000 in
theorem WZ (L:List (List Nat)) (l0:List Nat) (hn:L.length≤10000) (hl:okLk L) (h0:l0.length≤100000) (hb:∀d∈l0,d<L.length) (d:Nat):
  Con Tryz.prog 45 false [.one (.c (.sl 1 (QB L))),.one (.c (.sl 1 (XW l0)))] (.v (.one (.c (.mp (mpI (ZM L l0)))))) none d:=by
 obtain⟨res,hres⟩:∃x,ZM L l0=x:=⟨_,rfl⟩;rw[hres];unfold ZM at hres;refine X5 Tryz.func45 ?_;simp only[Tryz.f45];refine X3 ?_;refine X3 ?_;refine X3 ?_;refine X3 ?_;refine X1<|X1<|X2 ?_;refine X4<|(Xf [0,5,6,7,15,16] (fun(u:Nat×List Nat)=>[(17,.v (li u.1))]) (fun u=>[(5,.box [.own 900001]),(6,.box [.own 900002]),(900001,.mp (mpI u.2)),(900002,.row 3 1 (XW u.2))]) (fun u=>u.1≤l0.length∧wl L (L.length+1) 0 (addAll (l0.drop u.1) u.2)=res∧Nb L.length u.2) (fun u=>l0.length - u.1) (0,[]) ⟨Nat.zero_le _,by simpa using hres,Nb.nil _⟩ ?_ ?_)
 · exact X6 (fun n=>if n=900001 then 13 else n) [900002]
 rintro⟨k,t⟩ ⟨hk,hJ,hN⟩;simp only[upS,X8,Xw]
 try simp only[X8,KN,Nat.reduceBEq,if_true,if_false,ins,Nat.reduceLT]
 simp only at hk hJ hN;clear hres;refine X3 ?_;refine X1<|(X7 rfl (fun h7=>Xb ?_) (fun h7=>?_))
 · (try simp only[BN]at h7);have hlt:k<l0.length:=by simpa using h7
   obtain⟨x,he,hd⟩:=Xs hlt;have hw1:=XA hlt (by omega);have hk1:k+1≤l0.length:=hlt;have hx:=hb x (List.mem_of_getElem? he);have hxe:(XW l0)[k]? =some [iC x]:=by simp[XW,he]
   have hN2:=hN.add hx;have hNl:=hN.len;have ca:=X95 t x (by omega);rw[hd]at hJ;simp only[addAll]at hJ;obtain⟨t2,ht2⟩:∃y,X4B t x=y:=⟨_,rfl⟩;rw[ht2]at ca hJ hN2;simp only[wkO]at ca;clear hlt h7 hd he hx hb;refine X1<|X4<|X1<|X2 ?_;refine(XR ?_);refine RunsN.cutE 2 [] (by simp;rfl) trivial (le_refl _) ?_;refine RunsN.callA (fun n=>if n=1000000 then 5 else if n=1000001 then 6 else n) (fun n=>if n=1000000 then 5 else if n=1000001 then 6 else if n=900001 then 30 else if n=900002 then 31 else n) ca fun _ _=>?_;refine RunsN.doneE [] rfl trivial ?_;refine XC (s':=⟨⟨48,none⟩,[(0,.v (.one (.c (.sl 1 (QB L))))),(5,.v (.one (.at_ 5 0))),(6,.v (.one (.at_ 6 0))),(7,.v (.one (.fn 81 [(5,0),(6,0)]))),(15,.v (.one (.c (.sl 1 (XW l0))))),(16,.v (li l0.length)),(17,.v (li k))],[(5,.box [.own 900001]),(6,.box [.own 900002]),(900001,.mp (mpI t2)),(900002,.row 3 1 (XW t2))]⟩) (Xx (fun n=>if n=900001 then 30 else if n=900002 then 31 else n) [] rfl (by simp[Qi,QW,del,ins,CV.ren,Ob.ren]) (by simp[Qi,QW,del,ins,CV.ren,Ob.ren]) (by simp)) ?_;refine X2 ?_;exact⟨(k+1,t2),⟨hk1,hJ,hN2⟩,by simp only;omega,X6 (fun n=>n) []⟩
 try simp only[BN]at h7
 have hkl:k=l0.length:=by
  have:¬k<l0.length:=by simpa using h7
  omega
 subst hkl;simp only[List.drop_length,addAll]at hJ;clear h7;refine(Xi ?_);refine X1<|X1<|X2 ?_;refine X4<|(Xf [0,5,6,7] (fun(u:Nat×List Nat)=>[(10,.v (li u.1))]) (fun u=>[(5,.box [.own 900001]),(6,.box [.own 900002]),(900001,.mp (mpI u.2)),(900002,.row 3 1 (XW u.2))]) (fun u=>u.1≤u.2.length∧wl L (L.length+1 - u.1) u.1 u.2=res∧Nb L.length u.2) (fun u=>L.length+1 - u.1) (0,t) ⟨Nat.zero_le _,hJ,hN⟩ ?_ ?_)
 · exact X6 (fun n=>n) []
 rintro⟨i,t1⟩ ⟨hi,hJ1,hN1⟩;simp only[upS,X8,Xw]
 try simp only[X8,KN,Nat.reduceBEq,if_true,if_false,ins,Nat.reduceLT]
 simp only at hi hJ1 hN1;clear hJ hN;have hNl1:=hN1.len;refine X1<|X1<|X2 ?_;refine(X7 rfl (fun h15=>Xb ?_) (fun h15=>?_))
 · (try simp only[BN]at h15);have hlt:i<t1.length:=by simpa using h15
   obtain⟨v,hv,_⟩:=Xs hlt;have hvn:=hN1.lt v (List.mem_of_getElem? hv);obtain⟨l,hlv,_⟩:=Xs hvn;have hle:=X0E hlv;have hxe:(XW t1)[i]? =some [iC v]:=by simp[XW,hv]
   obtain⟨hll,hlb⟩:=hl l (List.mem_of_getElem? hlv);have hwi:=XA hlt (by omega);have hi1:i+1≤t1.length:=hlt;have hkk:L.length+1 - i=(L.length+1 - (i+1))+1:=by omega
   rw[hkk,wl_step hv hlv]at hJ1;have hvb:v+1≤L.length:=hvn;clear hlt h15 hv hvn hlv hkk;refine X1<|X4<|X1<|X2 ?_;refine X4<|(Xf [0,5,6,7,10,37,38] (fun(u:Nat×List Nat)=>[(39,.v (li u.1))]) (fun u=>[(5,.box [.own 900001]),(6,.box [.own 900002]),(900001,.mp (mpI u.2)),(900002,.row 3 1 (XW u.2))]) (fun u=>u.1≤l.length∧wl L (L.length+1 - (i+1)) (i+1) (addAll (l.drop u.1) u.2)=res∧Nb L.length u.2∧i+1≤u.2.length) (fun u=>l.length - u.1) (0,t1) ⟨Nat.zero_le _,by simpa using hJ1,hN1,hi1⟩ ?_ ?_)
   · exact X6 (fun n=>n) []
   rintro⟨k,t⟩ ⟨hk,hJ,hN,hit⟩;simp only[upS,X8,Xw]
   try simp only[X8,KN,Nat.reduceBEq,if_true,if_false,ins,Nat.reduceLT]
   simp only at hk hJ hN hit;clear hJ1 hN1 hi1 hxe;refine X3 ?_;refine X1<|(X7 rfl (fun h19=>Xb ?_) (fun h19=>?_))
   · (try simp only[BN]at h19);have hlt:k<l.length:=by simpa using h19
     obtain⟨x,he,hd⟩:=Xs hlt;have hw1:=XA hlt (by omega);have hk1:k+1≤l.length:=hlt;have hx:=hlb x (List.mem_of_getElem? he);have hxe:(XW l)[k]? =some [iC x]:=by simp[XW,he]
     have hN2:=hN.add hx;have hNl:=hN.len;have ca:=X95 t x (by omega);have hit2:=Nat.le_trans hit (X9A t x);rw[hd]at hJ;simp only[addAll]at hJ;obtain⟨t2,ht2⟩:∃y,X4B t x=y:=⟨_,rfl⟩;rw[ht2]at ca hJ hN2 hit2;simp only[wkO]at ca;clear hlt h19 hd he hx hl hlb;refine X1<|X4<|X1<|X2 ?_;refine(XR ?_);refine RunsN.cutE 2 [] (by simp;rfl) trivial (le_refl _) ?_;refine RunsN.callA (fun n=>if n=1000000 then 5 else if n=1000001 then 6 else n) (fun n=>if n=1000000 then 5 else if n=1000001 then 6 else if n=900001 then 30 else if n=900002 then 31 else n) ca fun _ _=>?_;refine RunsN.doneE [] rfl trivial ?_;refine XC (s':=⟨⟨48,none⟩,[(0,.v (.one (.c (.sl 1 (QB L))))),(5,.v (.one (.at_ 5 0))),(6,.v (.one (.at_ 6 0))),(7,.v (.one (.fn 81 [(5,0),(6,0)]))),(10,.v (li i)),(37,.v (.one (.c (.sl 1 (XW l))))),(38,.v (li l.length)),(39,.v (li k))],[(5,.box [.own 900001]),(6,.box [.own 900002]),(900001,.mp (mpI t2)),(900002,.row 3 1 (XW t2))]⟩) (Xx (fun n=>if n=900001 then 30 else if n=900002 then 31 else n) [] rfl (by simp[Qi,QW,del,ins,CV.ren,Ob.ren]) (by simp[Qi,QW,del,ins,CV.ren,Ob.ren]) (by simp)) ?_;refine X2 ?_;exact⟨(k+1,t2),⟨hk1,hJ,hN2,hit2⟩,by simp only;omega,X6 (fun n=>n) []⟩
   try simp only[BN]at h19
   have hkl:k=l.length:=by
    have:¬k<l.length:=by simpa using h19
    omega
   subst hkl;simp only[List.drop_length,addAll]at hJ;have hwi2:i+1≤L.length:=Nat.le_trans hit hN.len;clear h19;refine(Xi ?_);refine X2 ?_;exact⟨(i+1,t),⟨hit,hJ,hN⟩,by simp only;omega,X6 (fun n=>n) []⟩
 try simp only[BN]at h15
 have hkl:i=t1.length:=by
  have:¬i<t1.length:=by simpa using h15
  omega
 subst hkl;rw[wl_end]at hJ1;subst hJ1;clear h15;refine(Xi ?_);refine XC (Xc8 900001 rfl) ?_;refine X3 ?_;exact XF ⟨.inr rfl,_,le_refl _,⟨⟨_,by simp;rfl,by simp[XD]⟩,by simp,fun h=>by cases h⟩⟩
end Go.Proofs.YtppjennamodfdaaGreat

namespace Go.Proofs.YtppjennamodfdaaGreat
open Go Go.Hl
def X2G (n:Nat) (t:List Nat):List Nat:=(List.range n).filter fun d=>decide (d∈t)
theorem X8N (n:Nat) (t:List Nat):(X2G n t).length≤n:=Nat.le_trans (List.length_filter_le _ _) (by simp)
theorem srt_out {n:Nat} {t out:List Nat} (h:Nb n t) (hout:out.Nodup) (he:∀d,d∈out↔d∈t):Xe ((out.map Int.ofNat).mergeSort fun x y=>decide (x≤y))=XW (X2G n t):=by
 have:=srt_eq (l:=out) (n:=n) (p:=fun d=>decide (d∈t)) hout fun x=>by
  rw[he];simp only[decide_eq_true_eq];exact⟨fun hx=>⟨h.lt x hx,hx⟩,fun hx=>hx.2⟩
 exact this
theorem pick_inj {α:Type} {t:List α} (h:t.Nodup) {i j:Nat} {d:α} (hi:t[i]? =some d) (hj:t[j]? =some d):i=j:=by
 obtain⟨h1,h2⟩:=List.getElem?_eq_some_iff.1 hi;exact(List.getElem?_inj h1 h).1 (hi.trans hj.symm)
theorem X7c {a b:List Int} (ha:a.Nodup) (hb:b.Nodup) (h:∀d,d∈a↔d∈b):(a.mergeSort fun x y=>decide (x≤y))=b.mergeSort fun x y=>decide (x≤y):=by
 have hp:∀l:List Int,(l.mergeSort fun x y=>decide (x≤y)).Pairwise fun x y=>x≤y:=fun l=>(List.pairwise_mergeSort (le:=fun x y:Int=>decide (x≤y)) (fun a b c h1 h2=>by simp at*;omega) (fun a b=>by simp;omega) l).imp fun h=>by simpa using h
 refine List.Perm.eq_of_pairwise (fun x y _ _ h1 h2=>by omega) (hp a) (hp b) ?_;refine(List.mergeSort_perm a _).trans (List.Perm.trans ?_ (List.mergeSort_perm b _).symm);exact(List.perm_ext_iff_of_nodup ha hb).2 h
set_option maxHeartbeats 4000000 in
theorem X4P (t:List Int) (htl:t.length≤10000000) (hnd:t.Nodup) (d:Nat):
  Con Tryz.prog 44 false [.one (.c (.mp (mpZ t)))] (.v (.one (.c (.sl 1 (Xe (t.mergeSort fun x y=>decide (x≤y))))))) none d:=by
 obtain⟨res,hres⟩:∃x,Xe (t.mergeSort fun x y=>decide (x≤y))=x:=⟨_,rfl⟩;rw[hres];have hfin:∀out:List Int,out.Nodup→(∀d,d∈out↔d∈t)→Xe (out.mergeSort fun x y=>decide (x≤y))=res:=fun out h1 h2=>by rw[X7c h1 hnd h2,hres]
 clear hres;refine X5 Tryz.func44 ?_;simp only[Tryz.f44];refine X3 ?_;refine X3 ?_;refine X1<|X1<|X2 ?_;refine X4<|(Xf [6] (fun(y:List Nat×List Int)=>[(3,.v (.one (.own 1003)))]) (fun y=>[(6,.it (mpZ t) y.1),(1003,.row 3 1 (Xe y.2))]) (fun y=>y.1.Nodup∧X0k y.1 t.length∧(∀d,d∈y.2↔∃j∈y.1,t[j]? =some d)∧y.2.Nodup∧y.2.length≤y.1.length) (fun y=>t.length - y.1.length) ([],[]) ⟨List.nodup_nil,by simp[X0k],by simp,List.nodup_nil,Nat.le_refl _⟩ ?_ ?_)
 · exact X6 (fun n=>n) [1003]
 rintro⟨seen,out⟩ ⟨j1,j2,j3,j4,j5⟩;simp only[upS,X8,Xw]
 try simp only[X8,KN,Nat.reduceBEq,if_true,if_false,ins,Nat.reduceLT]
 simp only at j1 j2 j3 j4 j5;refine X1N (fun j k v hj hn=>?_) (fun hall=>?_)
 skip
 · (try simp only[BN]at h5);obtain⟨d,hd,rfl,rfl⟩:=get_mpZ hj;have hjl:j<t.length:=(List.getElem?_eq_some_iff.1 hd).1
   have hnd2:(seen++[j]).Nodup:=by
    rw[List.nodup_append];exact⟨j1,by simp,fun a ha b hb=>by rw[List.mem_singleton.1 hb];exact fun e=>hn (e▸ha)⟩
   have hin:X0k (seen++[j]) t.length:=fun i hi=>by
    rcases List.mem_append.1 hi with h|h
    · exact j2 i h
    rw[List.mem_singleton.1 h];exact hjl
   have hnew:(out++[d]).Nodup:=by
    rw[List.nodup_append];refine⟨j4,by simp,fun a ha b hb=>?_⟩;rw[List.mem_singleton.1 hb];rintro rfl;obtain⟨i,hi,he⟩:=(j3 a).1 ha;exact hn (pick_inj hnd hd he▸hi)
   have hmem:∀x,x∈out++[d]↔∃i∈seen++[j],t[i]? =some x:=by
    intro x;rw[List.mem_append,j3,List.mem_singleton];constructor
    · rintro(⟨i,h1,h2⟩|rfl)
      · exact⟨i,List.mem_append_left _ h1,h2⟩
      exact⟨j,by simp,hd⟩
    rintro⟨i,h1,h2⟩;rcases List.mem_append.1 h1 with h1|h1
    · exact .inl ⟨i,h1,h2⟩
    rw[List.mem_singleton.1 h1,hd]at h2;exact .inr (Option.some.inj h2).symm
   have hsn:Xe [d]=[[iC d]]:=rfl;have hle:=QR hnd2 hin;simp only[List.length_append,List.length_singleton]at hle;have hroom:Qq (out.length+1) 8:=⟨by unfold maxLen;omega,by omega⟩;clear hjl;refine X4<|X1<|X2 ?_;refine X2 ?_;exact⟨(seen++[j],out++[d]),⟨hnd2,hin,hmem,hnew,by simp only[List.length_append,List.length_singleton];omega⟩,by simp only[List.length_append,List.length_singleton];omega,X6 (fun n=>if n=1003 then 14 else n) []⟩
 try simp only[BN]at h5
 have hout:∀d,d∈out↔d∈t:=by
  intro d;rw[j3];constructor
  · rintro⟨i,_,h⟩;exact List.mem_of_getElem? h
  intro h;obtain⟨i,hi⟩:=List.mem_iff_getElem?.1 h;exact⟨i,hall i (by rw[len_mpZ];exact(List.getElem?_eq_some_iff.1 hi).1),hi⟩
 have hfin:=hfin out j4 hout;have hsl:=QR j1 j2;clear hall j1 j2 j3 hout;refine(Xi ?_);rcases out with _|⟨a0,o⟩
 · refine XC (XJ 1003 rfl) ?_;have hr0:res=[]:=by rw[←hfin];simp[Xe]
   subst hr0;refine Xj [⟨true,.tup [],none⟩] ?_ ?_
   · first|exact X0X _|exact trivial|simpa[*]using X0X _
   refine X3 ?_;exact Xc
 have cs:=X40 (a0::o) (by simp) (by omega);rw[hfin]at cs;refine X1<|(XR ?_);refine RunsN.cutE 1 [] (by simp;rfl) trivial (le_refl _) ?_;refine RunsN.rowA (by simp[X9L,X56];exact⟨rfl,rfl⟩) cs ?_;refine RunsN.doneE [] rfl trivial ?_;refine XC (s':=⟨⟨18,none⟩,[(3,.v (.one (.own 1003)))],[(1003,.row 3 1 res)]⟩) (Xx (fun n=>n) [] rfl (by simp) (by simp) (by simp)) ?_;refine X3 ?_;refine XC (XJ 1003 rfl) ?_;exact Xc
theorem mpI_Z (t:List Nat):mpI t=mpZ (t.map Int.ofNat):=by simp[mpI,mpZ]
theorem X2L (n:Nat) (t:List Nat) (hn:n≤100000) (ht:Nb n t) (d:Nat):
  Con Tryz.prog 44 false [.one (.c (.mp (mpI t)))] (.v (.one (.c (.sl 1 (XW (X2G n t)))))) none d:=by
 have hl:=ht.len;have:=X4P (t.map Int.ofNat) (by simp only[List.length_map];omega) (List.Pairwise.map Int.ofNat (fun a b h e=>h (Int.ofNat.inj e)) ht.nd) d
 rwa [←mpI_Z,srt_out ht ht.nd fun _=>Iff.rfl]at this
end Go.Proofs.YtppjennamodfdaaGreat

namespace Go.Proofs.YtppjennamodfdaaGreat
open Go Go.Hl
def inB (n:Nat) (q:List Int):Bool:=q.all fun d=>decide (0≤d∧d<n)
def askB (n:Nat) (qs:List (List Int)):Bool:=qs.all (inB n)
def Zm (f:Fl) (qs:List (List Int)):Int:=if Q0 f=0 then(if askB (flL f.body).length qs=true then 0 else 3)else Q0 f
noncomputable def askT (f:Fl) (qs:List (List Int)):CD:=if Zm f qs=0 then X5W f else .lit (.pointer none)
def X3g (qs:List (List Int)):List (List CD):=qs.map fun q=>[.sl 1 (Xe q)]
@[simp] theorem len_encQ (qs:List (List Int)):(X3g qs).length=qs.length:=by simp[X3g]
theorem Xa2 {qs:List (List Int)} {i:Nat} {q:List Int} (h:qs[i]? =some q):(X3g qs)[i]? =some [.sl 1 (Xe q)]:=by simp[X3g,h]
theorem X4A {q:List Int} {i:Nat} {x:Int} (h:q[i]? =some x):(Xe q)[i]? =some [iC x]:=by simp[Xe,h]
theorem askB_bad {n:Nat} {qs:List (List Int)} {q:List Int} {x:Int} (h:q∈qs) (hx:x∈q) (hb:¬(0≤x∧x<n)):askB n qs=false:=by
 unfold askB inB;rw[List.all_eq_false];refine⟨q,h,?_⟩;rw[Bool.not_eq_true,List.all_eq_false];exact⟨x,hx,by simpa using hb⟩
set_option maxHeartbeats 8000000 in
theorem ZX (f:Fl) (h:Sm f) (qs:List (List Int)) (hq:qs.length≤100) (hql:∀q∈qs,q.length≤1000000) (d:Nat):
  Con Tryz.prog 43 false [aF f,.one (.c (.sl 1 (X3g qs)))] (.tup [.one (.c (askT f qs)),li (Zm f qs)]) none d:=by
 have cn:=X7U f h;have hsl:=XO f.body;have hsz:=h.sz;unfold askT Zm;obtain⟨C,hC⟩:∃x,Q0 f=x:=⟨_,rfl⟩;rw[hC]at cn⊢;by_cases hz:C=0
 · subst hz;simp only[if_true]at cn⊢;have hTab:X5W f=ZF f (flL f.body) (arL f.body (-1) 0) (rdT f):=rfl;rw[hTab]at cn⊢;obtain⟨S,hS⟩:∃x,flL f.body=x:=⟨_,rfl⟩;obtain⟨A,hA⟩:∃x,arL f.body (-1) 0=x:=⟨_,rfl⟩;obtain⟨D,hD⟩:∃x,rdT f=x:=⟨_,rfl⟩;rw[hS,hA,hD]at cn;rw[hS,hA,hD];rw[hS]at hsl;have hSl:S.length≤1000000:=by omega
   obtain⟨vars,hats,body⟩:=f;simp only[aF,Fl.enc,List.map_cons,List.map_nil]at cn⊢;have hall:(∀q∈qs,inB S.length q=true)→askB S.length qs=true:=fun h=>List.all_eq_true.2 h;have hbad:=fun q x=>@askB_bad S.length qs q x;obtain⟨Z,hZ⟩:∃x,askB S.length qs=x:=⟨_,rfl⟩;rw[hZ]at hall⊢;simp only[hZ]at hbad;clear h hC hTab hS hA hD hsl hsz hZ;refine X5 Tryz.func43 ?_;simp only[Tryz.f43];refine X3 ?_;refine Xj [⟨false,.tup [.one (.c (ZF ⟨vars,hats,body⟩ S A D)),li 0],none⟩] ?_ ?_
   · first|exact cn _|exact trivial|simpa[*]using cn _
   refine X1<|X1<|X2 ?_;refine(Xa rfl (fun h3=>?_) fun h3=>?_)
   · exact absurd h3 (by simp)
   (try simp only[BN]at h3);refine X1<|X1<|X2 ?_;refine X4<|(Xf [6,20,21] (fun(u:Nat)=>[(22,.v (li u))]) (fun u=>[]) (fun u=>u≤qs.length∧∀q∈qs.take u,inB S.length q=true) (fun u=>qs.length - u) (0:Nat) ⟨Nat.zero_le _,by simp⟩ ?_ ?_)
   · exact X6 (fun n=>n) []
   rintro k ⟨hk,hJ⟩;simp only[upS,X8,Xw]
   try simp only[X8,KN,Nat.reduceBEq,if_true,if_false,ins,Nat.reduceLT]
   refine X3 ?_;refine X1<|(X7 rfl (fun h9=>Xb ?_) (fun h9=>?_))
   · (try simp only[BN]at h9);have hlt:k<qs.length:=by simpa using h9
     obtain⟨q,he,_⟩:=Xs hlt;have hmem:=List.mem_of_getElem? he;have hqn:=hql q hmem;have hw1:=XA hlt (by omega);have hk1:k+1≤qs.length:=hlt;have hqe:=Xa2 he;have hbq:=fun x=>hbad q x hmem
     have hJ2:inB S.length q=true→∀q∈qs.take (k+1),inB S.length q=true:=by
      intro hi q' hq';rw[List.take_add_one,he]at hq';rcases List.mem_append.1 hq' with h|h
      · exact hJ q' h
      simp only[Option.toList,List.mem_singleton]at h;rw[h];exact hi
     clear hlt h9 he hmem hql hbad hall hJ;refine X1<|X4<|X1<|X2 ?_;refine X3 ?_;refine X4<|(Xf [6,20,21,22,26,27] (fun(u:Nat)=>[(28,.v (li u))]) (fun u=>[]) (fun u=>u≤q.length∧∀x∈q.take u,(0≤x∧x<S.length)) (fun u=>q.length - u) (0:Nat) ⟨Nat.zero_le _,by simp⟩ ?_ ?_)
     · exact X6 (fun n=>n) []
     rintro j ⟨hj,hJj⟩;simp only[upS,X8,Xw]
     try simp only[X8,KN,Nat.reduceBEq,if_true,if_false,ins,Nat.reduceLT]
     refine X3 ?_;refine X1<|(X7 rfl (fun h14=>Xb ?_) (fun h14=>?_))
     · (try simp only[BN]at h14);have hlt:j<q.length:=by simpa using h14
       obtain⟨x,he,_⟩:=Xs hlt;have hmem:=List.mem_of_getElem? he;have hwj:=XA hlt (by omega);have hj1:j+1≤q.length:=hlt;have hxe:=X4A he;have hbx:=hbq x hmem
       have hJj2:0≤x∧x<S.length→∀y∈q.take (j+1),(0≤y∧y<S.length):=by
        intro hi y hy;rw[List.take_add_one,he]at hy;rcases List.mem_append.1 hy with h|h
        · exact hJj y h
        simp only[Option.toList,List.mem_singleton]at h;rw[h];exact hi
       clear hlt h14 he hmem hbq hJj;refine X1<|X4<|X1<|X2 ?_;refine XV [6,20,21,22,26,27,28] (fun(z:Bool)=>[(42,.v (lb z))]) (fun(z:Bool)=>[]) (fun(z:Bool)=>z=decide (¬(0≤x∧x<S.length))) ?_ ?_
       · by_cases hx:x<0
         · refine Xq (by simp[*];rfl) ?_;exact⟨_,rfl,Xx (fun n=>n) [] rfl (by simp[upS,X8];omega) (by simp[upS]) (by simp[upS])⟩
         refine Xq (by simp[*];rfl) ?_;exact⟨_,rfl,Xx (fun n=>n) [] rfl (by simp[upS,X8];omega) (by simp[upS]) (by simp[upS])⟩
       rintro z hz;simp only[upS,X8,Xw]
       try simp only[X8,KN,Nat.reduceBEq,if_true,if_false,ins,Nat.reduceLT]
       refine(Xa rfl (fun h17=>?_) fun h17=>?_)
       · (try simp only[BN]at h17);have hzt:z=true:=by simpa using h17
         have hr:=hbx (of_decide_eq_true (hz.symm.trans hzt));subst hr;clear hz h17 hbx hJj2 hJ2;refine X3 ?_;exact Xc
       (try simp only[BN]at h17);have hzt:z=false:=by simpa using h17
       have hx:=hJj2 (by rw[hzt]at hz;simpa using hz.symm);clear hz h17 hbx hJj2;refine X2 ?_;exact⟨j+1,⟨hj1,hx⟩,by omega,X6 (fun n=>n) []⟩
     try simp only[BN]at h14
     have hjl:j=q.length:=by
      have:¬j<q.length:=by simpa using h14
      omega
     subst hjl;rw[List.take_length]at hJj;have hJ2:=hJ2 (List.all_eq_true.2 fun x hx=>by simpa using hJj x hx);clear h14 hJj;refine(Xi ?_);refine X2 ?_;exact⟨k+1,⟨hk1,hJ2⟩,by omega,X6 (fun n=>n) []⟩
   try simp only[BN]at h9
   have hkl:k=qs.length:=by
    have:¬k<qs.length:=by simpa using h9
    omega
   subst hkl;rw[List.take_length]at hJ;have hr:=hall hJ;subst hr;clear h9 hJ;refine(Xi ?_);refine X3 ?_;exact Xc
 simp only[if_neg hz]at cn⊢;obtain⟨vars,hats,body⟩:=f;simp only[aF,Fl.enc,List.map_cons,List.map_nil]at cn⊢;clear h hC hsl hsz;refine X5 Tryz.func43 ?_;simp only[Tryz.f43];refine X3 ?_;refine Xj [⟨false,.tup [.one (.c (.lit (.pointer none))),li C],none⟩] ?_ ?_
 · first|exact cn _|exact trivial|simpa[*]using cn _
 refine X1<|X1<|X2 ?_;refine(Xa rfl (fun h3=>?_) fun h3=>?_)
 · (try simp only[BN]at h3);refine X3 ?_;exact Xc
 exact absurd h3 (by simp[hz])
end Go.Proofs.YtppjennamodfdaaGreat

namespace Go.Proofs.YtppjennamodfdaaGreat
open Go Go.Hl
mutual
theorem XcN:∀(s:St),∀q∈flS s,q.term.nodes≤s.nodes
 | .mk o c v n t a b bs,q,h=>by
   simp only[flS,List.mem_cons,List.mem_append]at h;simp only[St.nodes];rcases h with rfl|h|h
   · simp only[St.term];omega
   · have:=X2o a q h;omega
   have:=X2o b q h;omega
theorem X2o:∀(l:List St),∀q∈flL l,q.term.nodes≤Xk l
 |[],q,h=>by simp[flL]at h
 | s::l,q,h=>by
   simp only[flL,List.mem_append]at h;simp only[Xk];rcases h with h|h
   · have:=XcN s q h;omega
   have:=X2o l q h;omega
end
mutual
theorem arS_in:∀(s:St) (o:Int) (p:Nat),-1≤o→∀a∈arS s o p,-1≤a∧(a=o∨a<p+szS s)
 | .mk _ _ _ _ _ x y _,o,p,ho,a,h=>by
   simp only[arS,List.mem_cons,List.mem_append]at h;simp only[szS];rcases h with rfl|h|h
   · exact⟨ho,.inl rfl⟩
   · have:=X8x x p (p+1) (by omega) a h;refine⟨this.1,.inr ?_⟩;rcases this.2 with h|h<;>omega
   have:=X8x y p (p+1+szL x) (by omega) a h;refine⟨this.1,.inr ?_⟩;rcases this.2 with h|h<;>omega
theorem X8x:∀(l:List St) (o:Int) (p:Nat),-1≤o→∀a∈arL l o p,-1≤a∧(a=o∨a<p+szL l)
 |[],o,p,_,a,h=>by simp[arL]at h
 | s ::l,o,p,ho,a,h=>by
   simp only[arL,List.mem_append]at h;simp only[szL];rcases h with h|h
   · have:=arS_in s o p ho a h;refine⟨this.1,?_⟩;rcases this.2 with h|h
     · exact .inl h
     exact .inr (by omega)
   have:=X8x l o (p+szS s) ho a h;refine⟨this.1,?_⟩;rcases this.2 with h|h
   · exact .inl h
   exact .inr (by omega)
end
theorem rdF_row {P:List Nat→Prop} (h0:P []) (n:Nat) (l:List (Nd×List Nat)) (h:∀p∈l,P p.2):∀r∈rdF n l,P r:=by
 unfold rdF
 have :∀(l:List (Nd×List Nat)) (rd:List (List Nat)),(∀p∈l,P p.2)→(∀r∈rd,P r)→∀r∈l.foldl (fun rd p=>if rdB p.1=true then rd.set p.1.a.toNat p.2 else rd) rd,P r:=by
  intro l
  induction l with
  |nil=>exact fun rd _ h=>h
  | cons p l ih=>
    intro rd hl hr;rw[List.foldl_cons];refine ih _ (fun q hq=>hl q (by simp[hq])) ?_;split
    · intro r hr';rcases List.mem_or_eq_of_mem_set hr' with h|rfl
      · exact hr r h
      exact hl p (by simp)
    exact hr
 exact this l _ h fun r hr=>by rw[(List.mem_replicate.1 hr).2];exact h0
theorem rcL_rows {N:List Nd} {steps:List St} {nv:Nat}:∀r∈rcL N steps nv,r.length≤steps.length+nv∧(∀d∈r,d<steps.length+nv)∧r.Nodup:=by
 intro r hr;simp only[rcL,List.mem_map]at hr;obtain⟨to,_,rfl⟩:=hr;refine⟨Nat.le_trans (List.length_filter_le _ _) (by simp),fun d hd=>?_,List.Pairwise.filter _ List.nodup_range⟩;simpa using(List.mem_filter.1 hd).1
theorem Xc5 (f:Fl):∀r∈rdT f,r.length≤(flL f.body).length+f.vars.length∧(∀d∈r,d<(flL f.body).length+f.vars.length)∧r.Nodup:=
 rdF_row (P:=fun r=>r.length≤(flL f.body).length+f.vars.length∧(∀d∈r,d<(flL f.body).length+f.vars.length)∧r.Nodup) ⟨by simp,by simp,by simp⟩ _ _ fun p hp=>rcL_rows p.2 (List.of_mem_zip hp).2
theorem Z6 {f:Fl} (h:Sm f):TabOK (flL f.body) (arL f.body (-1) 0) (rdT f) where
 hn:=by rw[XO];exact h.sz
 har:=by rw[XO,Zu]
 hrd:=by rw[XO];exact X85 _ _
 nod s hs:=by have:=X2o f.body s hs;have:=h.nodes;omega
 rdl r hr:=by
  have:=Xc5 f r hr;have h1:=h.sz;have h2:=h.vars;rw[XO]at this;exact⟨by omega,fun d hd=>by have:=this.2.1 d hd;omega⟩
noncomputable def Q4 (f:Fl):List (List Nat):=X2H (flL f.body) (arL f.body (-1) 0) (rdT f)
theorem QN (f:Fl):(Q4 f).length=(flL f.body).length:=by simp[Q4,X2H]
theorem X0b {f:Fl} (h:Sm f):∀l∈Q4 f,l.length≤6000∧∀d∈l,d<(Q4 f).length:=by
 intro l hl;rw[QN];simp only[Q4,X2H,List.mem_map]at hl;obtain⟨s,_,rfl⟩:=hl;have hT:=Z6 h;unfold X6X;split
 · rename_i q a r hq ha hr;have h1:=(hT.rdl r (List.mem_of_getElem? hr)).1;have h2:=X8x f.body (-1) 0 (by omega) a (List.mem_of_getElem? ha);have h3:∀p:Nat→Bool,((X2I (flL f.body) q r).filter p).length≤5000:=fun p=>Nat.le_trans (List.length_filter_le _ _) (Nat.le_trans (List.length_filter_le _ _) h1);refine⟨?_,?_⟩
   · rw[List.length_append];have:=h3 fun d=>decide (d<(flL f.body).length);split
     · simp only[List.length_singleton];omega
     simp only[List.length_nil];omega
   intro d hd;rcases List.mem_append.1 hd with hd|hd
   · split at hd
     · rename_i h0;rw[List.mem_singleton.1 hd];have hl:=XO f.body;rcases h2.2 with h|h<;>omega
     cases hd
   exact of_decide_eq_true (List.mem_filter.1 hd).2
 exact⟨by simp,by simp⟩
theorem X4x {f:Fl} (h:Sm f):okLk (Q4 f):=fun l hl=>⟨by have:=(X0b h l hl).1;omega,(X0b h l hl).2⟩
theorem X4F (s:Nat):∀(l:List Nat) (M:List (List Nat)),(X0S s l M).length=M.length
 |[],_=>rfl
 |d::l,M=>by simp[X0S,X4F s l]
theorem X9E:∀(L:List (List Nat)) (s:Nat) (M:List (List Nat)),(X3T L s M).length=M.length
 |[],_,_=>rfl
 |l::L,s,M=>by rw[X3T,X9E,X4F]
@[simp] theorem X0U (L:List (List Nat)):(X1k L).length=L.length:=by simp[X1k,X9E]
theorem X7v (s:Nat):∀(l:List Nat) (M:List (List Nat)),(∀d∈l,d<M.length)→∀(x y:Nat),y∈(X0S s l M)[x]?.getD []↔y∈M[x]?.getD []∨(y=s∧x∈l)
 |[],M,_,x,y=>by simp[X0S]
 | d :: l,M,h,x,y=>by
   rw[X0S,X7v s l _ (fun z hz=>by rw[List.length_set];exact h z (by simp[hz])),List.getElem?_set];by_cases hx:d=x
   · subst hx;have:=h d (by simp);simp only[if_true,this,Option.getD_some,List.mem_append,List.mem_cons,true_or,and_true,List.mem_singleton];constructor
     · rintro((h|h)|⟨h,_⟩)
       · exact .inl h
       · rcases h with h|h
         · exact .inr h
         cases h
       exact .inr h
     rintro(h|h)
     · exact .inl (.inl h)
     exact .inl (.inr (.inl h))
   simp only[hx,if_false,List.mem_cons];constructor
   · rintro(h|⟨h1,h2⟩)
     · exact .inl h
     exact .inr ⟨h1,.inr h2⟩
   rintro(h|⟨h1,rfl|h2⟩)
   · exact .inl h
   · exact absurd rfl hx
   exact .inr ⟨h1,h2⟩
theorem X92:∀(L:List (List Nat)) (s:Nat) (M:List (List Nat)),(∀l∈L,∀d∈l,d<M.length)→∀(x y:Nat),y∈(X3T L s M)[x]?.getD []↔y∈M[x]?.getD []∨(s≤y∧x∈L[y - s]?.getD [])
 |[],s,M,_,x,y=>by simp[X3T]
 | l ::L,s,M,h,x,y=>by
   rw[X3T,X92 L (s+1) _ (fun l' hl' d hd=>by rw[X4F];exact h l' (by simp[hl']) d hd),X7v s l M (fun d hd=>h l (by simp) d hd)];by_cases hy:y=s
   · subst hy;have:¬y+1≤y:=by omega
     simp[this]
   by_cases hs:s+1≤y
   · obtain⟨k,rfl⟩:∃k,y=s+1+k:=⟨y - (s+1),by omega⟩;have e1:s+1+k - s=k+1:=by omega
     have e2:s+1+k - (s+1)=k:=by omega
     have e3:s≤s+1+k:=by omega
     simp[e1,e2,e3,hy]
   have e3:¬s≤y:=by omega
   simp[hs,e3,hy]
theorem X9n {L:List (List Nat)} (h:∀l∈L,∀d∈l,d<L.length) (x y:Nat):y∈(X1k L)[x]?.getD []↔x∈L[y]?.getD []:=by
 rw[X1k,X92 L 0 _ (by simpa using h)]
 have:((List.replicate L.length ([]:List Nat))[x]?.getD [])=[]:=by
  rw[List.getElem?_replicate];split<;>rfl
 rw[this];simp
theorem XbK (s:Nat):∀(l:List Nat) (M:List (List Nat)) (b:Nat),lenB M b→lenB (X0S s l M) (b+l.length)
 |[],M,b,h=>by simpa[X0S]using h
 | d ::l,M,b,h=>by
   rw[X0S]
   have:lenB (M.set d (M[d]?.getD []++[s])) (b+1):=by
    by_cases hd:d<M.length
    · have he:M[d]? =some M[d]:=by simp[hd]
      have:=h.set he s;rw[he];exact this
    rw[List.set_eq_of_length_le (by omega)];exact fun m hm=>by have:=h m hm;omega
   have h2:=XbK s l _ _ this;simp only[List.length_cons]
   rwa [Nat.add_assoc,Nat.add_comm 1]at h2
theorem lenB_L:∀(L:List (List Nat)) (s:Nat) (M:List (List Nat)) (b:Nat),(∀l∈L,l.length≤6000)→lenB M b→lenB (X3T L s M) (b+6000*L.length)
 |[],s,M,b,_,h=>by simpa[X3T]using h
 | l::L,s,M,b,hl,h=>by
   rw[X3T];have h1:=lenB_L L (s+1) _ _ (fun l' hl'=>hl l' (by simp[hl'])) (XbK s l M b h);have h2:=hl l (by simp);intro m hm;have:=h1 m hm;simp only[List.length_cons];omega
theorem X7P {L:List (List Nat)} (hn:L.length≤1000) (h:∀l∈L,l.length≤6000∧∀d∈l,d<L.length):okLk (X1k L):=by
 intro l hl;refine⟨?_,?_⟩
 · have:=lenB_L L 0 (List.replicate L.length []) 0 (fun l hl=>(h l hl).1) (fun m hm=>by rw[(List.mem_replicate.1 hm).2];exact Nat.zero_le _) l hl;omega
 intro d hd;obtain⟨x,hx⟩:=List.mem_iff_getElem?.1 hl;have h1:d∈(X1k L)[x]?.getD []:=by rw[hx];exact hd
 rw[X9n (fun l hl=>(h l hl).2)]at h1;rw[X0U];by_cases hdl:d<L.length
 · exact hdl
 rw[List.getElem?_eq_none (by omega)]at h1;cases h1
end Go.Proofs.YtppjennamodfdaaGreat

namespace Go.Proofs.YtppjennamodfdaaGreat
open Go Go.Hl
inductive Cl (L:List (List Nat)) (l:List Nat):Nat→Prop where
 |base {d:Nat}:d∈l→Cl L l d
 |step {x d:Nat}:Cl L l x→d∈L[x]?.getD []→Cl L l d
theorem addN_mem (t:List Nat) (v d:Nat):d∈X4B t v↔d∈t∨d=v:=by
 unfold X4B;split
 · rename_i h;constructor
   · exact .inl
   rintro(h1|rfl)
   · exact h1
   exact h
 simp
theorem X0i (l:List Nat):∀(t:List Nat) (d:Nat),d∈addAll l t↔d∈t∨d∈l:=by
 induction l with
 |nil=>intro t d;simp[addAll]
 |cons v l ih=>intro t d;rw[addAll,ih,addN_mem,List.mem_cons,or_assoc]
theorem addN_pre (t:List Nat) (v:Nat):t<+:X4B t v:=by
 unfold X4B;split
 · exact List.prefix_refl _
 exact List.prefix_append _ _
theorem Xbn (l:List Nat):∀t,t<+:addAll l t:=by
 induction l with
 |nil=>intro t;exact List.prefix_refl _
 |cons v l ih=>intro t;exact(addN_pre t v).trans (ih _)
theorem Xbr {a b:List Nat} (h:a<+:b) {i v:Nat} (hi:a[i]? =some v):b[i]? =some v:=by
 obtain⟨c,rfl⟩:=h;rw[List.getElem?_append_left (List.getElem?_eq_some_iff.1 hi).1];exact hi
theorem XbF {L:List (List Nat)} {n:Nat} {l0:List Nat} (hL:∀l∈L,∀d∈l,d<n):∀(k i:Nat) (t:List Nat),k+i=n+1→i≤t.length→Nb n t→
  (∀j v,j<i→t[j]? =some v→∀d∈L[v]?.getD [],d∈t)→(∀d∈t,Cl L l0 d)→(∀d∈l0,d∈t)→
  Nb n (wl L k i t)∧∀d,d∈wl L k i t↔Cl L l0 d
 |0,i,t,hk,hi,hN,_,_,_=>by have:=hN.len;omega
 | k + 1,i,t,hk,hi,hN,hc,hs,hl=>by
   unfold wl;split
   · rename_i v hv
     have hlv:∀d∈L[v]?.getD [],d<n:=by
      intro d hd;cases e:L[v]? with
      |none=>rw[e]at hd;cases hd
      |some l=>rw[e]at hd;exact hL l (List.mem_of_getElem? e) d hd
     have hp:=Xbn (L[v]?.getD []) t;have hil:i<t.length:=(List.getElem?_eq_some_iff.1 hv).1;have hle:=XaJ (L[v]?.getD []) t;refine XbF hL k (i+1) _ (by omega) (by omega) (Nb.addAll _ hlv hN) ?_ ?_ fun d hd=>(X0i _ _ _).2 (.inl (hl d hd))
     · intro j u hj hu d hd;rw[X0i];by_cases hji:j=i
       · subst hji;rw[Xbr hp hv]at hu;cases hu;exact .inr hd
       refine .inl (hc j u (by omega) ?_ d hd);have:t[j]? =some t[j]:=by rw[List.getElem?_eq_getElem (by omega)]
       rw[Xbr hp this]at hu;rw[this,hu]
     intro d hd;rcases(X0i _ _ _).1 hd with h|h
     · exact hs d h
     exact .step (hs v (List.mem_of_getElem? hv)) h
   rename_i hv
   have hil:t.length≤i:=by
    by_cases h:i<t.length
    · rw[List.getElem?_eq_getElem h]at hv;cases hv
    omega
   refine⟨hN,fun d=>⟨hs d,fun h=>?_⟩⟩
   induction h with
   |base h=>exact hl _ h
   | step _ h ih=>
     obtain⟨j,hj⟩:=List.mem_iff_getElem?.1 ih;exact hc j _ (by have:=(List.getElem?_eq_some_iff.1 hj).1;omega) hj _ h
theorem WG {L:List (List Nat)} {l0:List Nat} (hL:okLk L) (h0:∀d∈l0,d<L.length):Nb L.length (ZM L l0)∧∀d,d∈ZM L l0↔Cl L l0 d:=by
 unfold ZM;refine XbF (fun l hl=>(hL l hl).2) _ _ _ rfl (Nat.zero_le _) (Nb.addAll _ h0 (Nb.nil _)) (fun j v hj=>absurd hj (by omega)) (fun d hd=>?_) fun d hd=>(X0i _ _ _).2 (.inr hd);rcases(X0i _ _ _).1 hd with h|h
 · cases h
 exact .base h
def QG (q:List Int):List Nat:=q.map Int.toNat
theorem ZW {q:List Int} (h:∀x∈q,0≤x):Xe q=XW (QG q):=by
 unfold Xe XW QG;rw[List.map_map];refine List.map_congr_left fun x hx=>?_;have:=h x hx;simp only[Function.comp,iC];rw[Int.toNat_of_nonneg this]
theorem X97 {f:Fl} {qs:List (List Int)} (h:Zm f qs=0):Q0 f=0∧∀q∈qs,∀x∈q,0≤x∧x<(flL f.body).length:=by
 unfold Zm at h;split at h
 · rename_i hc;split at h
   · rename_i hb;refine⟨hc,fun q hq x hx=>?_⟩;have:=List.all_eq_true.1 (List.all_eq_true.1 hb q hq) x hx;simpa using this
   exact absurd h (by decide)
 rename_i hc;exact absurd h hc
theorem X4G {f:Fl} {qs:List (List Int)} (h:Zm f qs=0) {q:List Int} (hq:q∈qs):(∀x∈q,0≤x)∧∀d∈QG q,d<(Q4 f).length:=by
 have:=(X97 h).2 q hq;refine⟨fun x hx=>(this x hx).1,fun d hd=>?_⟩;obtain⟨x,hx,rfl⟩:=List.mem_map.1 hd;have:=this x hx;rw[QN];omega
noncomputable def bwL (f:Fl) (q:List Int):List Nat:=X2G (Q4 f).length (ZM (Q4 f) (QG q))
noncomputable def fwL (f:Fl) (q:List Int):List Nat:=X2G (Q4 f).length (ZM (X1k (Q4 f)) (QG q))
noncomputable def slR (C:Int) (l:List Nat):RV:=.tup [.one (.c (if C=0 then .sl 1 (XW l)else .lit XP)),li C]
set_option maxHeartbeats 8000000 in
theorem X3Q (f:Fl) (h:Sm f) (q:List Int) (hq:q.length≤100000) (d:Nat):Con Tryz.prog 12 false [aF f,.one (.c (.sl 1 (Xe q)))] (slR (Zm f [q]) (bwL f q)) none d:=by
 have ca:=ZX f h [q] (by simp) (fun q' hq'=>by rw[List.mem_singleton.1 hq'];omega);have cd:=X0e f _ _ _ (Z6 h);have hd0:X2H (flL f.body) (arL f.body (-1) 0) (rdT f)=Q4 f:=rfl;rw[hd0]at cd;have hok:=X4x h;have hDl:(Q4 f).length≤1000:=by rw[QN];exact(Z6 h).hn
 obtain⟨C,hC⟩:∃x,Zm f [q]=x:=⟨_,rfl⟩;have hask:=fun hz=>@X4G f [q] (hC.trans hz) q (by simp);unfold askT at ca;simp only[X3g,List.map_cons,List.map_nil]at ca;unfold slR bwL;rw[hC]at ca⊢;obtain⟨R,hR⟩:∃x,X2G (Q4 f).length (ZM (Q4 f) (QG q))=x:=⟨_,rfl⟩;rw[hR];obtain⟨T,hT⟩:∃x,X5W f=x:=⟨_,rfl⟩;have hT2:ZF f (flL f.body) (arL f.body (-1) 0) (rdT f)=T:=hT;rw[hT]at ca;rw[hT2]at cd;obtain⟨D,hD⟩:∃x,Q4 f=x:=⟨_,rfl⟩;rw[hD]at cd hok hDl hask hR;clear h hC hT hT2 hd0 hD;by_cases hz:C=0
 · subst hz;obtain⟨h0,hlt⟩:=hask rfl;have cc:=WZ D (QG q) (by omega) hok (by simp only[QG,List.length_map];omega) hlt;have hN:=(WG hok hlt).1;have cs:=X2L D.length _ (by omega) hN;rw[hR]at cs;rw[ZW h0]at ca⊢;simp only[if_true]at ca⊢;clear hask hR h0 hlt hN hok;obtain⟨vars,hats,body⟩:=f;simp only[aF,Fl.enc,List.map_cons,List.map_nil]at ca⊢;refine X5 Tryz.func12 ?_;simp only[Tryz.f12];refine X3 ?_;refine X1<|(QO 3 [] [⟨false,.tup [.one (.c T),li 0],none⟩] (by simp[*];rfl) trivial (XJ 11 rfl) (by simp[*];first|exact⟨rfl,Iff.rfl⟩|exact⟨rfl,trivial⟩|rfl) ?_ ?_)
   · first|exact ca _|simpa using ca _
   refine X1<|X1<|X2 ?_;refine(Xa rfl (fun h3=>?_) fun h3=>?_)
   · exact absurd h3 (by simp)
   (try simp only[BN]at h3);refine Xj [⟨false,.v (.one (.c (.sl 1 (QB D)))),none⟩,⟨false,.v (.one (.c (.mp (mpI (ZM D (QG q)))))),none⟩,⟨false,.v (.one (.c (.sl 1 (XW R)))),none⟩] ?_ ?_
   · first|exact⟨cd _,cc _,cs _⟩|exact trivial|(repeat' first|exact trivial|exact cd _|exact cc _|exact cs _|apply And.intro)
   exact Xc
 simp only[if_neg hz]at ca⊢;clear hask hok hR cd;obtain⟨vars,hats,body⟩:=f;simp only[aF,Fl.enc,List.map_cons,List.map_nil]at ca⊢;refine X5 Tryz.func12 ?_;simp only[Tryz.f12];refine X3 ?_;refine X1<|(QO 3 [] [⟨false,.tup [.one (.c (.lit (.pointer none))),li C],none⟩] (by simp[*];rfl) trivial (XJ 11 rfl) (by simp[*];first|exact⟨rfl,Iff.rfl⟩|exact⟨rfl,trivial⟩|rfl) ?_ ?_)
 · first|exact ca _|simpa using ca _
 refine X1<|X1<|X2 ?_;refine(Xa rfl (fun h3=>?_) fun h3=>?_)
 · (try simp only[BN]at h3);refine X3 ?_;exact Xc
 exact absurd h3 (by simp[hz])
end Go.Proofs.YtppjennamodfdaaGreat
