/- Part 8: contracts of functions of the program and of the reference, and plain facts about what they compute; used by the proof of the claimed statement. Conditions: as each theorem states. -/
import Derived.Test.YtppjennamodfdaaGreatK7
import Derived.Test.YtppjennamodfdaaGreatHmZL
import Derived.Test.YtppjennamodfdaaGreatK5
set_option linter.unusedSimpArgs false
set_option linter.unusedVariables false
set_option linter.unnecessarySimpa false
set_option maxRecDepth 100000
set_option maxHeartbeats 2000000
namespace Go.Proofs.YtppjennamodfdaaGreat
open Go Go.Hl
def X6S (steps:List St) (ar:List Int) (rd:List (List Nat)) (s:Nat):List Nat:=match steps[s]?,ar[s]?,rd[s]? with
 |some q,some a,some l=>(if 0≤a then [a.toNat] else [])++(X2t steps q l).filter fun d=>decide (d<steps.length)
 |_,_,_=>[]
def X2G (steps:List St) (ar:List Int) (rd:List (List Nat)):List (List Nat):=(List.range steps.length).map (X6S steps ar rd)
structure TabOK (steps:List St) (ar:List Int) (rd:List (List Nat)):Prop where
 hn:steps.length≤1000
 har:ar.length=steps.length
 hrd:rd.length=steps.length
 nod:∀s∈steps,s.term.nodes≤1000000
 rdl:∀l∈rd,l.length≤5000∧∀d∈l,d≤1000000
theorem X5T {R:List (Option (List (List CD)))} {y:Nat} (h:R[y]? =some none):ZH R y=true:=by
 unfold ZH;rw[h]
set_option maxHeartbeats 8000000 in
theorem X08 (f:Fl) (steps:List St) (ar:List Int) (rd:List (List Nat)) (hT:TabOK steps ar rd) (d:Nat):
  Con Tryz.prog 46 false [.one (.c (ZG f steps ar rd))] (.v (.one (.c (.sl 1 (Qa (X2G steps ar rd)))))) none d:=by
 obtain⟨hn,hal,hrl,hnod,hrdl⟩:=hT;have hDl:(X2G steps ar rd).length=steps.length:=by simp[X2G]
 have hDg:∀s,s<steps.length→(X2G steps ar rd)[s]? =some (X6S steps ar rd s):=fun s hs=>by simp[X2G,hs]
 have csr:=X4u f steps ar rd;obtain⟨D,hD⟩:∃x,X2G steps ar rd=x:=⟨_,rfl⟩;rw[hD]at hDl hDg⊢;have hbig:(24:Int)*steps.length≤281474976710656:=by omega
 have hmx:steps.length≤maxLen:=by unfold maxLen;omega
 clear hD;refine X5 Tryz.func46 ?_;simp only[Tryz.f46];refine X2 ?_;refine X2 ?_;refine Xz (X5x 12 3 1 (by decide) (by decide) rfl rfl rfl) ?_;refine X0<|X0<|X1 ?_;refine X3<|(Xb [0,3,17] (fun(y:Nat)=>[(18,.v (li y))]) (fun y=>[(12,.mat 27 3 1 (rwI D y steps.length))]) (fun y=>y≤steps.length) (fun y=>steps.length - y) (0:Nat) (Nat.zero_le _) ?_ ?_)
 · exact Xu (fun n=>n) [] rfl (by simp[*,upS,X6]) (by simp[*,upS,X8W]) (by simp[upS])
 rintro y hy;simp only[upS,X6,Xw]
 try simp only[X6,KN,Nat.reduceBEq,if_true,if_false,ins,Nat.reduceLT]
 refine X2 ?_;refine X0<|(X7 rfl (fun h5=>X9 ?_) (fun h5=>?_))
 · (try simp only[BN]at h5);have hlt:y<steps.length:=by simpa using h5
   have hw1:=Xy hlt (by omega);have hk1:y+1≤steps.length:=hlt;obtain⟨q,hq,_⟩:=Xo hlt;obtain⟨a,ha,_⟩:=Xo (show y<ar.length by omega);obtain⟨l,hl,_⟩:=Xo (show y<rd.length by omega);have hlm:=hrdl l (List.mem_of_getElem? hl);have cs:=csr y q l hq hl (hnod q (List.mem_of_getElem? hq)) hlm.1 hlm.2 (by omega);have hDy:=hDg y hlt;have hdir:X6S steps ar rd y=(if 0≤a then [a.toNat] else [])++(X2t steps q l).filter fun d=>decide (d<steps.length):=by simp[X6S,hq,ha,hl]
   rw[hdir]at hDy;have hSl:(X2t steps q l).length≤5000:=Nat.le_trans (List.length_filter_le _ _) hlm.1;obtain⟨SL,hSL⟩:∃x,X2t steps q l=x:=⟨_,rfl⟩;rw[hSL]at cs hDy hSl;have hget:=Xbo hlt hDl;have hRs:=Xbe hDy hlt hDl;have hRl:y+1≤(rwI D y steps.length).length:=by rw[Xbq hy hDl];exact hlt
   obtain⟨R,hR⟩:∃x,rwI D y steps.length=x:=⟨_,rfl⟩;rw[hR]at hget hRs hRl⊢;have hfr:=X5T hget;clear hlt h5 hq hl hlm hdir hDy hSL hR;refine X0<|X3<|X0<|X1 ?_;refine(XL [0,3,4,17,18] (fun(z:List Nat)=>[]) (fun(z:List Nat)=>[(12,.mat 27 3 1 (X13 R y z))]) (fun(z:List Nat)=>z=if 0≤a then [a.toNat] else []) ?_ ?_)
   ·
    refine X2 ?_;refine(Xc rfl (fun h9=>?_) fun h9=>?_)
    · (try simp only[BN]at h9);have hap:0≤a:=by simpa using h9
      obtain⟨m,rfl⟩:=Int.eq_ofNat_of_zero_le hap;have hz1:R.set y (some [[iC (m:Int)]])=X13 R y [m]:=rfl;have hroom:Q9 1 8:=Xv (by omega) (by decide);clear h9;refine(Q4 (by kernel_rfl) (by kernel_rfl) (by rfl) (by simp[*];rfl) ?_);exact⟨[m],by simp,X4 (fun n=>n) []⟩
    (try simp only[BN]at h9);have hap:¬0≤a:=by simpa using h9
    have hz1:=X6C hget;clear h9;exact⟨[],by simp[hap],X4 (fun n=>n) []⟩
   rintro z hz;simp only[upS,X6,Xw]
   try simp only[X6,KN,Nat.reduceBEq,if_true,if_false,ins,Nat.reduceLT]
   have hzl:z.length≤1:=by rw[hz];split<;>simp
   rw[←hz]at hRs;clear hz hget hfr ha;refine Xh [⟨false,.v (.one (.c (.sl 1 (XB SL)))),none⟩] ?_ ?_
   · first|exact cs _|exact trivial|simpa[*]using cs _
   refine X3<|(Xb [0,3,4,17,18,47,48] (fun(u:Nat×List Nat)=>[(49,.v (li u.1))]) (fun u=>[(12,.mat 27 3 1 (X13 R y u.2))]) (fun u=>u.1≤SL.length∧u.2++(SL.drop u.1).filter (fun d=>decide (d<steps.length))=z++SL.filter (fun d=>decide (d<steps.length))∧u.2.length≤u.1+1) (fun u=>SL.length - u.1) (0,z) ⟨Nat.zero_le _,rfl,hzl⟩ ?_ ?_)
   · exact X4 (fun n=>n) []
   rintro⟨j,out⟩ ⟨hj,hJ,hol⟩;simp only[upS,X6,Xw]
   try simp only[X6,KN,Nat.reduceBEq,if_true,if_false,ins,Nat.reduceLT]
   simp only at hj hJ hol;refine X2 ?_;refine X0<|(X7 rfl (fun h16=>X9 ?_) (fun h16=>?_))
   · (try simp only[BN]at h16);have hjl:j<SL.length:=by simpa using h16
     have hwj:=Xy hjl (by omega);have hj1:j+1≤SL.length:=hjl;obtain⟨x,hx,hxd⟩:=Xo hjl;have hxe:(XB SL)[j]? =some [iC x]:=by simp[XB,hx]
     rw[hxd]at hJ;clear hjl h16 hx hxd cs csr hDg;refine X0<|X3<|X0<|X1 ?_;refine X2 ?_;refine(Xc rfl (fun h19=>?_) fun h19=>?_)
     · (try simp only[BN]at h19);have hxn:x<steps.length:=by simpa using h19
       rw[List.filter_cons,if_pos (by simpa using hxn)]at hJ;have hJ2:out++[x]++(SL.drop (j+1)).filter (fun d=>decide (d<steps.length))=z++SL.filter (fun d=>decide (d<steps.length)):=by simpa using hJ
       clear h19 hJ hxn;cases out with
       | nil=>
         have g1:=X06 hRl [];have g2:=X7n hRl;have g3:=X1T R y [] [] x;have hroom:Q9 1 8:=Xv (by omega) (by decide);simp only[ZP,if_true]at g1;simp only[X3q,List.nil_append]at g3;refine Xl (by simp[g1,g2,g3,hRl,hroom];rfl) ?_;refine Xl (by simp[hwj];rfl) ?_;exact⟨(j+1,[x]),⟨hj1,by simpa using hJ2,by simp⟩,by simp only;omega,Xu (fun n=>n) [] rfl (by simp[upS,X6]) (by simp[upS]) (by simp[upS])⟩
       | cons a0 o=>
         have g1:=X06 hRl (a0::o);have g3:=X1T R y (a0::o) (a0::o) x;have hroom:Q9 ((a0::o).length+1) 8:=Xv (by omega) (by decide);simp only[ZP,List.cons_ne_nil,if_false]at g1;rw[List.length_cons]at hroom;refine XP ?_;refine RunsN.cutE 8 [] (by simp[g1,hRl];rfl) trivial (le_refl _) ?_;refine RunsN.matA (by simp[X76,neT,g1,g3,hroom];rfl) ?_;refine RunsN.doneE [] rfl trivial ?_;refine Xz (s':=⟨⟨73,none⟩,[(0,.v (.one (.c (ZG f steps ar rd)))),(3,.v (.one (.own 12))),(4,.v (li y)),(17,.v (li steps.length)),(18,.v (li y)),(47,.v (.one (.c (.sl 1 (XB SL))))),(48,.v (li SL.length)),(49,.v (li j))],[(12,.mat 27 3 1 (X13 R y (a0::o++[x])))]⟩) (Xu (fun n=>if n=12 then 68 else n) [] rfl (by simp[Wu,RV.mv,TV.mv,CV.mv]) (by simp[Wu,Ob.mv,CV.mv]) (by simp)) ?_;refine Xl (by simp[hwj];rfl) ?_;exact⟨(j+1,a0::o++[x]),⟨hj1,hJ2,by simp only[List.length_append,List.length_singleton];omega⟩,by simp only;omega,Xu (fun n=>n) [] rfl (by simp[upS,X6]) (by simp[upS]) (by simp[upS])⟩
     (try simp only[BN]at h19);have hxn:¬x<steps.length:=by simpa using h19
     rw[List.filter_cons,if_neg (by simpa using hxn)]at hJ;clear h19 hxn;refine X1 ?_;exact⟨(j+1,out),⟨hj1,hJ,by simp only;omega⟩,by simp only;omega,X4 (fun n=>n) []⟩
   try simp only[BN]at h16
   have hjl:j=SL.length:=by
    have:¬j<SL.length:=by simpa using h16
    omega
   subst hjl;simp only[List.drop_length,List.filter_nil,List.append_nil]at hJ;rw[←hJ]at hRs;have hfin:X13 R y out=rwI D (y+1) steps.length:=hRs;clear h16 cs hJ hRs;refine(Xf ?_);refine X1 ?_;exact⟨y+1,hk1,by omega,X4 (fun n=>n) []⟩
 try simp only[BN]at h5
 have hyn:y=steps.length:=by
  have:¬y<steps.length:=by simpa using h5
  omega
 subst hyn;have hend:=XaV hDl;clear hDg csr;refine(Xf ?_);refine X2 ?_;refine Xz (X3G 12 rfl) ?_;exact XR ⟨.inr rfl,_,le_refl _,⟨_,by simp[HS.frz,Wu,RV.frz,TV.frz,CV.frz];rfl,by simp[XK,hend]⟩,by simp,fun h=>by cases h⟩
end Go.Proofs.YtppjennamodfdaaGreat

namespace Go.Proofs.YtppjennamodfdaaGreat
open Go Go.Hl
def X0M (s:Nat):List Nat→List (List Nat)→List (List Nat)
 |[],M=>M
 |d::l,M=>X0M s l (M.set d ((M[d]?.getD [])++[s]))
def X38:List (List Nat)→Nat→List (List Nat)→List (List Nat)
 |[],_,M=>M
 |l::L,s,M=>X38 L (s+1) (X0M s l M)
def X0R (L:List (List Nat)):List (List Nat):=X38 L 0 (List.replicate L.length [])
def rwA (M:List (List Nat)):List (Option (List (List CD))):=M.map ZP
@[simp] theorem rwA_len (M:List (List Nat)):(rwA M).length=M.length:=by simp[rwA]
theorem rwA_get {M:List (List Nat)} {d:Nat} {l:List Nat} (h:M[d]? =some l):(rwA M)[d]? =some (ZP l):=by simp[rwA,h]
theorem rwA_set (M:List (List Nat)) (d:Nat) (l:List Nat) (s:Nat):(rwA M).set d (some (XB l++[[iC s]]))=rwA (M.set d (l++[s])):=by
 simp[rwA,List.map_set,ZP]
theorem rwA_zero (n:Nat):rwA (List.replicate n [])=List.replicate n none:=by simp[rwA,ZP]
theorem rwA_end (M:List (List Nat)):(rwA M).map (fun r=>[CD.sl 1 (r.getD [])])=Qa M:=by
 unfold rwA Qa;rw[List.map_map];refine List.map_congr_left fun l _=>?_;unfold ZP;simp only[Function.comp];split
 · rename_i h;subst h;rfl
 rfl
def lenB (M:List (List Nat)) (b:Nat):Prop:=∀m∈M,m.length≤b
theorem lenB.set {M:List (List Nat)} {b d:Nat} {l:List Nat} (h:lenB M b) (hl:M[d]? =some l) (s:Nat):lenB (M.set d (l++[s])) (b+1):=by
 intro m hm;rcases List.mem_or_eq_of_mem_set hm with hm|rfl
 · have:=h m hm;omega
 have:=h l (List.mem_of_getElem? hl);simp only[List.length_append,List.length_singleton];omega
set_option maxHeartbeats 8000000 in
theorem X3x (L:List (List Nat)) (hn:L.length≤1000) (hl:∀l∈L,l.length≤6000∧∀d∈l,d<L.length) (d:Nat):Con Tryz.prog 47 false [.one (.c (.sl 1 (Qa L)))] (.v (.one (.c (.sl 1 (Qa (X0R L)))))) none d:=by
 obtain⟨res,hres⟩:∃x,X0R L=x:=⟨_,rfl⟩;rw[hres];unfold X0R at hres;have hbig:(24:Int)*L.length≤281474976710656:=by omega
 have hmx:L.length≤maxLen:=by unfold maxLen;omega
 refine X5 Tryz.func47 ?_;simp only[Tryz.f47];refine X2 ?_;refine X2 ?_;refine Xz (X5x 10 3 1 (by decide) (by decide) rfl rfl rfl) ?_;refine X0<|X0<|X1 ?_;refine X3<|(Xb [3,11,12] (fun(u:Nat×List (List Nat))=>[(13,.v (li u.1))]) (fun(u:Nat×List (List Nat))=>[(10,.mat 27 3 1 (rwA u.2))]) (fun(u:Nat×List (List Nat))=>u.1≤L.length∧X38 (L.drop u.1) u.1 u.2=res∧u.2.length=L.length∧lenB u.2 (6001*u.1)) (fun(u:Nat×List (List Nat))=>L.length - u.1) (0,List.replicate L.length []) ⟨Nat.zero_le _,by simpa using hres,by simp,fun m hm=>by rw[(List.mem_replicate.1 hm).2];exact Nat.zero_le _⟩ ?_ ?_)
 · exact Xu (fun n=>n) [] rfl (by simp[*,upS,X6]) (by simp[*,upS,rwA_zero]) (by simp[upS])
 rintro⟨y,M⟩ ⟨hy,hJ,hMl,hMb⟩;simp only[upS,X6,Xw]
 try simp only[X6,KN,Nat.reduceBEq,if_true,if_false,ins,Nat.reduceLT]
 simp only at hy hJ hMl hMb;clear hres;refine X2 ?_;refine X0<|(X7 rfl (fun h5=>X9 ?_) (fun h5=>?_))
 · (try simp only[BN]at h5);have hlt:y<L.length:=by simpa using h5
   have hw1:=Xy hlt (by omega);have hk1:y+1≤L.length:=hlt;obtain⟨l,hly,hld⟩:=Xo hlt;have hle:=Z3 hly;obtain⟨hll,hlb⟩:=hl l (List.mem_of_getElem? hly);rw[hld]at hJ;simp only[X38]at hJ;clear h5 hly hld hl hlt;refine X0<|X3<|X0<|X1 ?_;refine X2 ?_;refine X3<|(Xb [3,4,11,12,13,18,19] (fun(u:Nat×List (List Nat))=>[(20,.v (li u.1))]) (fun(u:Nat×List (List Nat))=>[(10,.mat 27 3 1 (rwA u.2))]) (fun(u:Nat×List (List Nat))=>u.1≤l.length∧X38 (L.drop (y+1)) (y+1) (X0M y (l.drop u.1) u.2)=res∧u.2.length=L.length∧lenB u.2 (6001*y+u.1)) (fun(u:Nat×List (List Nat))=>l.length - u.1) (0,M) ⟨Nat.zero_le _,by simpa using hJ,hMl,hMb⟩ ?_ ?_)
   · exact X4 (fun n=>n) []
   rintro⟨j,M1⟩ ⟨hj,hJ1,hMl1,hMb1⟩;simp only[upS,X6,Xw]
   try simp only[X6,KN,Nat.reduceBEq,if_true,if_false,ins,Nat.reduceLT]
   simp only at hj hJ1 hMl1 hMb1;clear hJ hMl hMb;refine X2 ?_;refine X0<|(X7 rfl (fun h10=>X9 ?_) (fun h10=>?_))
   · (try simp only[BN]at h10);have hjl:j<l.length:=by simpa using h10
     have hwj:=Xy hjl (by omega);have hj1:j+1≤l.length:=hjl;obtain⟨x,hx,hxd⟩:=Xo hjl;have hxe:(XB l)[j]? =some [iC x]:=by simp[XB,hx]
     have hxn:=hlb x (List.mem_of_getElem? hx);obtain⟨o,ho,_⟩:=Xo (show x<M1.length by omega);rw[hxd]at hJ1;simp only[X0M,ho,Option.getD_some]at hJ1;have g1:=rwA_get ho;have hol:=hMb1 o (List.mem_of_getElem? ho);have hMb2:=hMb1.set ho y;have hR1:x+1≤M1.length:=by omega
     have g3:=rwA_set M1 x o y;clear hjl h10 hx hxd ho hMb1 hxn;refine X0<|X3<|X0<|X1 ?_;cases o with
     | nil=>
       have hroom:Q9 1 8:=Xv (by omega) (by decide);simp only[ZP,if_true]at g1;simp only[X3q,List.nil_append]at g3;have g2:=X5T g1;refine Xl (by simp[g1,g2,g3,hR1,hroom];rfl) ?_;refine Xl (by simp[hwj];rfl) ?_;exact⟨(j+1,M1.set x [y]),⟨hj1,hJ1,by simpa using hMl1,by simpa[Nat.add_assoc]using hMb2⟩,by simp only;omega,Xu (fun n=>n) [] rfl (by simp[upS,X6]) (by simp[upS]) (by simp[upS])⟩
     | cons a0 o=>
       have hroom:Q9 (o.length+1+1) 8:=by
        simp only[List.length_cons]at hol;exact⟨by unfold maxLen;omega,by omega⟩
       simp only[ZP,List.cons_ne_nil,if_false]at g1;refine XP ?_;refine RunsN.cutE 8 [] (by simp[g1,hR1];rfl) trivial (le_refl _) ?_;refine RunsN.matA (by simp[X76,neT,g1,g3,hroom];rfl) ?_;refine RunsN.doneE [] rfl trivial ?_;refine Xz (s':=⟨⟨37,none⟩,[(3,.v (.one (.own 10))),(4,.v (li y)),(11,.v (.one (.c (.sl 1 (Qa L))))),(12,.v (li L.length)),(13,.v (li y)),(18,.v (.one (.c (.sl 1 (XB l))))),(19,.v (li l.length)),(20,.v (li j))],[(10,.mat 27 3 1 (rwA (M1.set x (a0::o++[y]))))]⟩) (Xu (fun n=>if n=10 then 32 else n) [] rfl (by simp[Wu,RV.mv,TV.mv,CV.mv]) (by simp[Wu,Ob.mv,CV.mv]) (by simp)) ?_;refine Xl (by simp[hwj];rfl) ?_;exact⟨(j+1,M1.set x (a0::o++[y])),⟨hj1,hJ1,by simpa using hMl1,by simpa[Nat.add_assoc]using hMb2⟩,by simp only;omega,Xu (fun n=>n) [] rfl (by simp[upS,X6]) (by simp[upS]) (by simp[upS])⟩
   try simp only[BN]at h10
   have hjl:j=l.length:=by
    have:¬j<l.length:=by simpa using h10
    omega
   subst hjl;simp only[List.drop_length,X0M]at hJ1;clear h10;refine(Xf ?_);refine X1 ?_;exact⟨(y+1,M1),⟨hk1,hJ1,hMl1,fun m hm=>by have:=hMb1 m hm;simp only;omega⟩,by simp only;omega,X4 (fun n=>n) []⟩
 try simp only[BN]at h5
 have hyn:y=L.length:=by
  have:¬y<L.length:=by simpa using h5
  omega
 subst hyn;simp only[List.drop_length,X38]at hJ;subst hJ;have hend:=rwA_end M;clear h5;refine(Xf ?_)
 skip
 refine X2 ?_;refine Xz (X3G 10 rfl) ?_;exact XR ⟨.inr rfl,_,le_refl _,⟨_,by simp[HS.frz,Wu,RV.frz,TV.frz,CV.frz];rfl,by simp[XK,hend]⟩,by simp,fun h=>by cases h⟩
end Go.Proofs.YtppjennamodfdaaGreat

namespace Go.Proofs.YtppjennamodfdaaGreat
open Go Go.Hl
@[simp] theorem mpI_nil:mpI []=[]:=rfl
def X3P (t:List Nat) (v:Nat):List Nat:=if v∈t then t else t++[v]
def addAll:List Nat→List Nat→List Nat
 |[],t=>t
 |v::l,t=>addAll l (X3P t v)
def wl (L:List (List Nat)):Nat→Nat→List Nat→List Nat
 |0,_,t=>t
 | k+1,i,t=>match t[i]? with
   |some v=>wl L k (i+1) (addAll (L[v]?.getD []) t)
   |none=>t
def ZJ (L:List (List Nat)) (l:List Nat):List Nat:=wl L (L.length+1) 0 (addAll l [])
structure Nb (n:Nat) (t:List Nat):Prop where
 nd:t.Nodup
 lt:∀d∈t,d<n
theorem Nb.len {n:Nat} {t:List Nat} (h:Nb n t):t.length≤n:=QA h.nd h.lt
theorem Nb.add {n v:Nat} {t:List Nat} (h:Nb n t) (hv:v<n):Nb n (X3P t v):=by
 unfold X3P;split
 · exact h
 rename_i hm;refine⟨?_,?_⟩
 · rw[List.nodup_append];exact⟨h.nd,by simp,fun a ha b hb=>by rw[List.mem_singleton.1 hb];rintro rfl;exact hm ha⟩
 intro d hd;rcases List.mem_append.1 hd with hd|hd
 · exact h.lt d hd
 rw[List.mem_singleton.1 hd];exact hv
theorem Nb.nil (n:Nat):Nb n []:=⟨by simp,by simp⟩
theorem X8s (t:List Nat) (v:Nat):t.length≤(X3P t v).length:=by
 unfold X3P;split
 · exact Nat.le_refl _
 simp
theorem Xaq (l:List Nat):∀t,t.length≤(addAll l t).length:=by
 induction l with
 |nil=>intro t;exact Nat.le_refl _
 |cons v l ih=>intro t;exact Nat.le_trans (X8s t v) (ih _)
theorem Nb.addAll {n:Nat} (l:List Nat) (hl:∀d∈l,d<n):∀{t},Nb n t→Nb n (addAll l t):=by
 induction l with
 |nil=>intro t h;exact h
 |cons v l ih=>intro t h;exact ih (fun d hd=>hl d (by simp[hd])) (h.add (hl v (by simp)))
def wkO (t:List Nat):List (Nat×Ob):=[(900001,.mp (mpI t)),(900002,.row 3 1 (XB t)),(1000000,.box [.own 900001]),(1000001,.box [.own 900002])]
theorem wk_pin {m:List Nat}:∀n cs,lkp (wkO m) n=some (.box cs)→1000000≤n:=by
 intro n cs h;simp only[wkO,lkp]at h
 repeat' split at h
 all_goals first|omega|cases h
theorem mpI_snoc (m:List Nat) (v:Nat):mpI m++[(.int .i64 v,bC true)]=mpI (m++[v]):=by simp[mpI]
theorem Xcc (m:List Nat) (v:Nat):XB m++[[iC v]]=XB (m++[v]):=by simp
theorem X9L (t:List Nat) (v:Nat) (ht:t.length≤100000):X1k Tryz.prog 81 none (wkO t) [li v,.one (.at_ 1000000 0),.one (.at_ 1000001 0)] (fun _:Unit=>True) (fun _=>.tup []) (fun _=>wkO (X3P t v)):=by
 refine Qs Tryz.func81 rfl (by kernel_rfl) (Nat.le_of_ble_eq_true rfl) wk_pin (fun v h=>by cases h) ?_;simp only[Tryz.f81,wkO];have hf:=X1M v t;unfold X3P;by_cases h:v∈t
 · rw[if_pos h]at hf⊢;refine X2 ?_;refine(Xc rfl (fun h1=>?_) fun h1=>?_)
   · cases h1
   (try simp only[BN]at h1);exact⟨.inl rfl,(),trivial,_,le_refl _,⟨[],rfl,rfl⟩,fun n o h=>h⟩
 rw[if_neg h]at hf⊢;have hs:=mpI_snoc t v;have hroom:Q9 (t.length+1) 8:=Xv (by omega) (by decide);refine X2 ?_;refine(Xc rfl (fun h1=>?_) fun h1=>?_)
 · (try simp only[BN]at h1);refine X2 ?_;refine X1 ?_;exact⟨.inl rfl,(),trivial,⟨⟨14,none⟩,[],wkO (t++[v])⟩,Xu (fun n=>if n=900002 then 13 else n) [] rfl (by simp) (by simp[wkO]) (by simp[wkO]),⟨[],rfl,rfl⟩,fun n o h=>h⟩
 cases h1
theorem wl_end (L:List (List Nat)) (t:List Nat):∀k,wl L k t.length t=t
 |0=>rfl
 |k+1=>by simp[wl]
theorem wl_step {L:List (List Nat)} {t:List Nat} {k i v:Nat} {l:List Nat} (h:t[i]? =some v) (hl:L[v]? =some l):wl L (k+1) i t=wl L k (i+1) (addAll l t):=by simp[wl,h,hl]
def okLk (L:List (List Nat)):Prop:=∀l∈L,l.length≤100000000∧∀d∈l,d<L.length
set_option maxHeartbeats 8000000 in
theorem Z5 (L:List (List Nat)) (l0:List Nat) (hn:L.length≤10000) (hl:okLk L) (h0:l0.length≤100000) (hb:∀d∈l0,d<L.length) (d:Nat):
  Con Tryz.prog 45 false [.one (.c (.sl 1 (Qa L))),.one (.c (.sl 1 (XB l0)))] (.v (.one (.c (.mp (mpI (ZJ L l0)))))) none d:=by
 obtain⟨res,hres⟩:∃x,ZJ L l0=x:=⟨_,rfl⟩;rw[hres];unfold ZJ at hres;refine X5 Tryz.func45 ?_;simp only[Tryz.f45];refine X2 ?_;refine X2 ?_;refine X2 ?_;refine X2 ?_;refine X0<|X0<|X1 ?_;refine X3<|(Xb [0,5,6,7,15,16] (fun(u:Nat×List Nat)=>[(17,.v (li u.1))]) (fun u=>[(5,.box [.own 900001]),(6,.box [.own 900002]),(900001,.mp (mpI u.2)),(900002,.row 3 1 (XB u.2))]) (fun u=>u.1≤l0.length∧wl L (L.length+1) 0 (addAll (l0.drop u.1) u.2)=res∧Nb L.length u.2) (fun u=>l0.length - u.1) (0,[]) ⟨Nat.zero_le _,by simpa using hres,Nb.nil _⟩ ?_ ?_)
 · exact X4 (fun n=>if n=900001 then 13 else n) [900002]
 rintro⟨k,t⟩ ⟨hk,hJ,hN⟩;simp only[upS,X6,Xw]
 try simp only[X6,KN,Nat.reduceBEq,if_true,if_false,ins,Nat.reduceLT]
 simp only at hk hJ hN;clear hres;refine X2 ?_;refine X0<|(X7 rfl (fun h7=>X9 ?_) (fun h7=>?_))
 · (try simp only[BN]at h7);have hlt:k<l0.length:=by simpa using h7
   obtain⟨x,he,hd⟩:=Xo hlt;have hw1:=Xy hlt (by omega);have hk1:k+1≤l0.length:=hlt;have hx:=hb x (List.mem_of_getElem? he);have hxe:(XB l0)[k]? =some [iC x]:=by simp[XB,he]
   have hN2:=hN.add hx;have hNl:=hN.len;have ca:=X9L t x (by omega);rw[hd]at hJ;simp only[addAll]at hJ;obtain⟨t2,ht2⟩:∃y,X3P t x=y:=⟨_,rfl⟩;rw[ht2]at ca hJ hN2;simp only[wkO]at ca;clear hlt h7 hd he hx hb;refine X0<|X3<|X0<|X1 ?_;refine(XP ?_);refine RunsN.cutE 2 [] (by simp;rfl) trivial (le_refl _) ?_;refine RunsN.callA (fun n=>if n=1000000 then 5 else if n=1000001 then 6 else n) (fun n=>if n=1000000 then 5 else if n=1000001 then 6 else if n=900001 then 30 else if n=900002 then 31 else n) ca fun _ _=>?_;refine RunsN.doneE [] rfl trivial ?_;refine Xz (s':=⟨⟨48,none⟩,[(0,.v (.one (.c (.sl 1 (Qa L))))),(5,.v (.one (.at_ 5 0))),(6,.v (.one (.at_ 6 0))),(7,.v (.one (.fn 81 [(5,0),(6,0)]))),(15,.v (.one (.c (.sl 1 (XB l0))))),(16,.v (li l0.length)),(17,.v (li k))],[(5,.box [.own 900001]),(6,.box [.own 900002]),(900001,.mp (mpI t2)),(900002,.row 3 1 (XB t2))]⟩) (Xu (fun n=>if n=900001 then 30 else if n=900002 then 31 else n) [] rfl (by simp[Qj,QQ,del,ins,CV.ren,Ob.ren]) (by simp[Qj,QQ,del,ins,CV.ren,Ob.ren]) (by simp)) ?_;refine X1 ?_;exact⟨(k+1,t2),⟨hk1,hJ,hN2⟩,by simp only;omega,X4 (fun n=>n) []⟩
 try simp only[BN]at h7
 have hkl:k=l0.length:=by
  have:¬k<l0.length:=by simpa using h7
  omega
 subst hkl;simp only[List.drop_length,addAll]at hJ;clear h7;refine(Xf ?_);refine X0<|X0<|X1 ?_;refine X3<|(Xb [0,5,6,7] (fun(u:Nat×List Nat)=>[(10,.v (li u.1))]) (fun u=>[(5,.box [.own 900001]),(6,.box [.own 900002]),(900001,.mp (mpI u.2)),(900002,.row 3 1 (XB u.2))]) (fun u=>u.1≤u.2.length∧wl L (L.length+1 - u.1) u.1 u.2=res∧Nb L.length u.2) (fun u=>L.length+1 - u.1) (0,t) ⟨Nat.zero_le _,hJ,hN⟩ ?_ ?_)
 · exact X4 (fun n=>n) []
 rintro⟨i,t1⟩ ⟨hi,hJ1,hN1⟩;simp only[upS,X6,Xw]
 try simp only[X6,KN,Nat.reduceBEq,if_true,if_false,ins,Nat.reduceLT]
 simp only at hi hJ1 hN1;clear hJ hN;have hNl1:=hN1.len;refine X0<|X0<|X1 ?_;refine(X7 rfl (fun h15=>X9 ?_) (fun h15=>?_))
 · (try simp only[BN]at h15);have hlt:i<t1.length:=by simpa using h15
   obtain⟨v,hv,_⟩:=Xo hlt;have hvn:=hN1.lt v (List.mem_of_getElem? hv);obtain⟨l,hlv,_⟩:=Xo hvn;have hle:=Z3 hlv;have hxe:(XB t1)[i]? =some [iC v]:=by simp[XB,hv]
   obtain⟨hll,hlb⟩:=hl l (List.mem_of_getElem? hlv);have hwi:=Xy hlt (by omega);have hi1:i+1≤t1.length:=hlt;have hkk:L.length+1 - i=(L.length+1 - (i+1))+1:=by omega
   rw[hkk,wl_step hv hlv]at hJ1;have hvb:v+1≤L.length:=hvn;clear hlt h15 hv hvn hlv hkk;refine X0<|X3<|X0<|X1 ?_;refine X3<|(Xb [0,5,6,7,10,37,38] (fun(u:Nat×List Nat)=>[(39,.v (li u.1))]) (fun u=>[(5,.box [.own 900001]),(6,.box [.own 900002]),(900001,.mp (mpI u.2)),(900002,.row 3 1 (XB u.2))]) (fun u=>u.1≤l.length∧wl L (L.length+1 - (i+1)) (i+1) (addAll (l.drop u.1) u.2)=res∧Nb L.length u.2∧i+1≤u.2.length) (fun u=>l.length - u.1) (0,t1) ⟨Nat.zero_le _,by simpa using hJ1,hN1,hi1⟩ ?_ ?_)
   · exact X4 (fun n=>n) []
   rintro⟨k,t⟩ ⟨hk,hJ,hN,hit⟩;simp only[upS,X6,Xw]
   try simp only[X6,KN,Nat.reduceBEq,if_true,if_false,ins,Nat.reduceLT]
   simp only at hk hJ hN hit;clear hJ1 hN1 hi1 hxe;refine X2 ?_;refine X0<|(X7 rfl (fun h19=>X9 ?_) (fun h19=>?_))
   · (try simp only[BN]at h19);have hlt:k<l.length:=by simpa using h19
     obtain⟨x,he,hd⟩:=Xo hlt;have hw1:=Xy hlt (by omega);have hk1:k+1≤l.length:=hlt;have hx:=hlb x (List.mem_of_getElem? he);have hxe:(XB l)[k]? =some [iC x]:=by simp[XB,he]
     have hN2:=hN.add hx;have hNl:=hN.len;have ca:=X9L t x (by omega);have hit2:=Nat.le_trans hit (X8s t x);rw[hd]at hJ;simp only[addAll]at hJ;obtain⟨t2,ht2⟩:∃y,X3P t x=y:=⟨_,rfl⟩;rw[ht2]at ca hJ hN2 hit2;simp only[wkO]at ca;clear hlt h19 hd he hx hl hlb;refine X0<|X3<|X0<|X1 ?_;refine(XP ?_);refine RunsN.cutE 2 [] (by simp;rfl) trivial (le_refl _) ?_;refine RunsN.callA (fun n=>if n=1000000 then 5 else if n=1000001 then 6 else n) (fun n=>if n=1000000 then 5 else if n=1000001 then 6 else if n=900001 then 30 else if n=900002 then 31 else n) ca fun _ _=>?_;refine RunsN.doneE [] rfl trivial ?_;refine Xz (s':=⟨⟨48,none⟩,[(0,.v (.one (.c (.sl 1 (Qa L))))),(5,.v (.one (.at_ 5 0))),(6,.v (.one (.at_ 6 0))),(7,.v (.one (.fn 81 [(5,0),(6,0)]))),(10,.v (li i)),(37,.v (.one (.c (.sl 1 (XB l))))),(38,.v (li l.length)),(39,.v (li k))],[(5,.box [.own 900001]),(6,.box [.own 900002]),(900001,.mp (mpI t2)),(900002,.row 3 1 (XB t2))]⟩) (Xu (fun n=>if n=900001 then 30 else if n=900002 then 31 else n) [] rfl (by simp[Qj,QQ,del,ins,CV.ren,Ob.ren]) (by simp[Qj,QQ,del,ins,CV.ren,Ob.ren]) (by simp)) ?_;refine X1 ?_;exact⟨(k+1,t2),⟨hk1,hJ,hN2,hit2⟩,by simp only;omega,X4 (fun n=>n) []⟩
   try simp only[BN]at h19
   have hkl:k=l.length:=by
    have:¬k<l.length:=by simpa using h19
    omega
   subst hkl;simp only[List.drop_length,addAll]at hJ;have hwi2:i+1≤L.length:=Nat.le_trans hit hN.len;clear h19;refine(Xf ?_);refine X1 ?_;exact⟨(i+1,t),⟨hit,hJ,hN⟩,by simp only;omega,X4 (fun n=>n) []⟩
 try simp only[BN]at h15
 have hkl:i=t1.length:=by
  have:¬i<t1.length:=by simpa using h15
  omega
 subst hkl;rw[wl_end]at hJ1;subst hJ1;clear h15;refine(Xf ?_);refine Xz (XaZ 900001 rfl) ?_;refine X2 ?_;exact XR ⟨.inr rfl,_,le_refl _,⟨⟨_,by simp;rfl,by simp[XK]⟩,by simp,fun h=>by cases h⟩⟩
end Go.Proofs.YtppjennamodfdaaGreat

namespace Go.Proofs.YtppjennamodfdaaGreat
open Go Go.Hl
def X40 (n:Nat) (t:List Nat):List Nat:=(List.range n).filter fun d=>decide (d∈t)
theorem X97 (n:Nat) (t:List Nat):(X40 n t).length≤n:=Nat.le_trans (List.length_filter_le _ _) (by simp)
theorem srt_out {n:Nat} {t out:List Nat} (h:Nb n t) (hout:out.Nodup) (he:∀d,d∈out↔d∈t):Xi ((out.map Int.ofNat).mergeSort fun x y=>decide (x≤y))=XB (X40 n t):=by
 have:=Xad (l:=out) (n:=n) (p:=fun d=>decide (d∈t)) hout fun x=>by
  rw[he];simp only[decide_eq_true_eq];exact⟨fun hx=>⟨h.lt x hx,hx⟩,fun hx=>hx.2⟩
 exact this
theorem pick_inj {α:Type} {t:List α} (h:t.Nodup) {i j:Nat} {d:α} (hi:t[i]? =some d) (hj:t[j]? =some d):i=j:=by
 obtain⟨h1,h2⟩:=List.getElem?_eq_some_iff.1 hi;exact(List.getElem?_inj h1 h).1 (hi.trans hj.symm)
theorem X74 {a b:List Int} (ha:a.Nodup) (hb:b.Nodup) (h:∀d,d∈a↔d∈b):(a.mergeSort fun x y=>decide (x≤y))=b.mergeSort fun x y=>decide (x≤y):=by
 have hp:∀l:List Int,(l.mergeSort fun x y=>decide (x≤y)).Pairwise fun x y=>x≤y:=fun l=>(List.pairwise_mergeSort (le:=fun x y:Int=>decide (x≤y)) (fun a b c h1 h2=>by simp at*;omega) (fun a b=>by simp;omega) l).imp fun h=>by simpa using h
 refine List.Perm.eq_of_pairwise (fun x y _ _ h1 h2=>by omega) (hp a) (hp b) ?_;refine(List.mergeSort_perm a _).trans (List.Perm.trans ?_ (List.mergeSort_perm b _).symm);exact(List.perm_ext_iff_of_nodup ha hb).2 h
set_option maxHeartbeats 4000000 in
theorem X4F (t:List Int) (htl:t.length≤10000000) (hnd:t.Nodup) (d:Nat):
  Con Tryz.prog 44 false [.one (.c (.mp (mpZ t)))] (.v (.one (.c (.sl 1 (Xi (t.mergeSort fun x y=>decide (x≤y))))))) none d:=by
 obtain⟨res,hres⟩:∃x,Xi (t.mergeSort fun x y=>decide (x≤y))=x:=⟨_,rfl⟩;rw[hres];have hfin:∀out:List Int,out.Nodup→(∀d,d∈out↔d∈t)→Xi (out.mergeSort fun x y=>decide (x≤y))=res:=fun out h1 h2=>by rw[X74 h1 hnd h2,hres]
 clear hres;refine X5 Tryz.func44 ?_;simp only[Tryz.f44];refine X2 ?_;refine X2 ?_;refine X0<|X0<|X1 ?_;refine X3<|(Xb [6] (fun(y:List Nat×List Int)=>[(3,.v (.one (.own 1003)))]) (fun y=>[(6,.it (mpZ t) y.1),(1003,.row 3 1 (Xi y.2))]) (fun y=>y.1.Nodup∧X04 y.1 t.length∧(∀d,d∈y.2↔∃j∈y.1,t[j]? =some d)∧y.2.Nodup∧y.2.length≤y.1.length) (fun y=>t.length - y.1.length) ([],[]) ⟨List.nodup_nil,by simp[X04],by simp,List.nodup_nil,Nat.le_refl _⟩ ?_ ?_)
 · exact X4 (fun n=>n) [1003]
 rintro⟨seen,out⟩ ⟨j1,j2,j3,j4,j5⟩;simp only[upS,X6,Xw]
 try simp only[X6,KN,Nat.reduceBEq,if_true,if_false,ins,Nat.reduceLT]
 simp only at j1 j2 j3 j4 j5;refine X1v (fun j k v hj hn=>?_) (fun hall=>?_)
 skip
 · (try simp only[BN]at h5);obtain⟨d,hd,rfl,rfl⟩:=get_mpZ hj;have hjl:j<t.length:=(List.getElem?_eq_some_iff.1 hd).1
   have hnd2:(seen++[j]).Nodup:=by
    rw[List.nodup_append];exact⟨j1,by simp,fun a ha b hb=>by rw[List.mem_singleton.1 hb];exact fun e=>hn (e▸ha)⟩
   have hin:X04 (seen++[j]) t.length:=fun i hi=>by
    rcases List.mem_append.1 hi with h|h
    · exact j2 i h
    rw[List.mem_singleton.1 h];exact hjl
   have hnew:(out++[d]).Nodup:=by
    rw[List.nodup_append];refine⟨j4,by simp,fun a ha b hb=>?_⟩;rw[List.mem_singleton.1 hb];rintro rfl;obtain⟨i,hi,he⟩:=(j3 a).1 ha;exact hn (pick_inj hnd hd he▸hi)
   have hmem:∀x,x∈out++[d]↔∃i∈seen++[j],t[i]? =some x:=by
    intro x;rw[List.mem_append,j3,List.mem_singleton];constructor
    · rintro(⟨i,h1,h2⟩|rfl)
      · exact⟨i,List.mem_append_left _ h1,h2⟩
      exact⟨j,by simp,hd⟩
    rintro⟨i,h1,h2⟩;rcases List.mem_append.1 h1 with h1|h1
    · exact .inl ⟨i,h1,h2⟩
    rw[List.mem_singleton.1 h1,hd]at h2;exact .inr (Option.some.inj h2).symm
   have hsn:Xi [d]=[[iC d]]:=rfl;have hle:=QA hnd2 hin;simp only[List.length_append,List.length_singleton]at hle;have hroom:Q9 (out.length+1) 8:=⟨by unfold maxLen;omega,by omega⟩;clear hjl;refine X3<|X0<|X1 ?_;refine X1 ?_;exact⟨(seen++[j],out++[d]),⟨hnd2,hin,hmem,hnew,by simp only[List.length_append,List.length_singleton];omega⟩,by simp only[List.length_append,List.length_singleton];omega,X4 (fun n=>if n=1003 then 14 else n) []⟩
 try simp only[BN]at h5
 have hout:∀d,d∈out↔d∈t:=by
  intro d;rw[j3];constructor
  · rintro⟨i,_,h⟩;exact List.mem_of_getElem? h
  intro h;obtain⟨i,hi⟩:=List.mem_iff_getElem?.1 h;exact⟨i,hall i (by rw[len_mpZ];exact(List.getElem?_eq_some_iff.1 hi).1),hi⟩
 have hfin:=hfin out j4 hout;have hsl:=QA j1 j2;clear hall j1 j2 j3 hout;refine(Xf ?_);rcases out with _|⟨a0,o⟩
 · refine Xz (XO 1003 rfl) ?_;have hr0:res=[]:=by rw[←hfin];simp[Xi]
   subst hr0;refine Xh [⟨true,.tup [],none⟩] ?_ ?_
   · first|exact X3T _|exact trivial|simpa[*]using X3T _
   refine X2 ?_;exact Xe
 have cs:=X3Y (a0::o) (by simp) (by omega);rw[hfin]at cs;refine X0<|(XP ?_);refine RunsN.cutE 1 [] (by simp;rfl) trivial (le_refl _) ?_;refine RunsN.rowA (by simp[rowAP,X37];exact⟨rfl,rfl⟩) cs ?_;refine RunsN.doneE [] rfl trivial ?_;refine Xz (s':=⟨⟨18,none⟩,[(3,.v (.one (.own 1003)))],[(1003,.row 3 1 res)]⟩) (Xu (fun n=>n) [] rfl (by simp) (by simp) (by simp)) ?_;refine X2 ?_;refine Xz (XO 1003 rfl) ?_;exact Xe
theorem mpI_Z (t:List Nat):mpI t=mpZ (t.map Int.ofNat):=by simp[mpI,mpZ]
theorem X2A (n:Nat) (t:List Nat) (hn:n≤100000) (ht:Nb n t) (d:Nat):
  Con Tryz.prog 44 false [.one (.c (.mp (mpI t)))] (.v (.one (.c (.sl 1 (XB (X40 n t)))))) none d:=by
 have hl:=ht.len;have:=X4F (t.map Int.ofNat) (by simp only[List.length_map];omega) (List.Pairwise.map Int.ofNat (fun a b h e=>h (Int.ofNat.inj e)) ht.nd) d
 rwa [←mpI_Z,srt_out ht ht.nd fun _=>Iff.rfl]at this
end Go.Proofs.YtppjennamodfdaaGreat

namespace Go.Proofs.YtppjennamodfdaaGreat
open Go Go.Hl
def inB (n:Nat) (q:List Int):Bool:=q.all fun d=>decide (0≤d∧d<n)
def X4U (n:Nat) (qs:List (List Int)):Bool:=qs.all (inB n)
def Wk (f:Fl) (qs:List (List Int)):Int:=if Qf f=0 then(if X4U (flL f.body).length qs=true then 0 else 3)else Qf f
noncomputable def askT (f:Fl) (qs:List (List Int)):CD:=if Wk f qs=0 then X5I f else .lit (.pointer none)
def X3O (qs:List (List Int)):List (List CD):=qs.map fun q=>[.sl 1 (Xi q)]
@[simp] theorem len_encQ (qs:List (List Int)):(X3O qs).length=qs.length:=by simp[X3O]
theorem X5Q {qs:List (List Int)} {i:Nat} {q:List Int} (h:qs[i]? =some q):(X3O qs)[i]? =some [.sl 1 (Xi q)]:=by simp[X3O,h]
theorem X23 {q:List Int} {i:Nat} {x:Int} (h:q[i]? =some x):(Xi q)[i]? =some [iC x]:=by simp[Xi,h]
theorem X9u {n:Nat} {qs:List (List Int)} {q:List Int} {x:Int} (h:q∈qs) (hx:x∈q) (hb:¬(0≤x∧x<n)):X4U n qs=false:=by
 unfold X4U inB;rw[List.all_eq_false];refine⟨q,h,?_⟩;rw[Bool.not_eq_true,List.all_eq_false];exact⟨x,hx,by simpa using hb⟩
set_option maxHeartbeats 8000000 in
theorem ZV (f:Fl) (h:Sm f) (qs:List (List Int)) (hq:qs.length≤100) (hql:∀q∈qs,q.length≤1000000) (d:Nat):
  Con Tryz.prog 43 false [aF f,.one (.c (.sl 1 (X3O qs)))] (.tup [.one (.c (askT f qs)),li (Wk f qs)]) none d:=by
 have cn:=X7M f h;have hsl:=XT f.body;have hsz:=h.sz;unfold askT Wk;obtain⟨C,hC⟩:∃x,Qf f=x:=⟨_,rfl⟩;rw[hC]at cn⊢;by_cases hz:C=0
 · subst hz;simp only[if_true]at cn⊢;have hTab:X5I f=ZG f (flL f.body) (arL f.body (-1) 0) (rdT f):=rfl;rw[hTab]at cn⊢;obtain⟨S,hS⟩:∃x,flL f.body=x:=⟨_,rfl⟩;obtain⟨A,hA⟩:∃x,arL f.body (-1) 0=x:=⟨_,rfl⟩;obtain⟨D,hD⟩:∃x,rdT f=x:=⟨_,rfl⟩;rw[hS,hA,hD]at cn;rw[hS,hA,hD];rw[hS]at hsl;have hSl:S.length≤1000000:=by omega
   obtain⟨vars,hats,body⟩:=f;simp only[aF,Fl.enc,List.map_cons,List.map_nil]at cn⊢;have hall:(∀q∈qs,inB S.length q=true)→X4U S.length qs=true:=fun h=>List.all_eq_true.2 h;have hbad:=fun q x=>@X9u S.length qs q x;obtain⟨Z,hZ⟩:∃x,X4U S.length qs=x:=⟨_,rfl⟩;rw[hZ]at hall⊢;simp only[hZ]at hbad;clear h hC hTab hS hA hD hsl hsz hZ;refine X5 Tryz.func43 ?_;simp only[Tryz.f43];refine X2 ?_;refine Xh [⟨false,.tup [.one (.c (ZG ⟨vars,hats,body⟩ S A D)),li 0],none⟩] ?_ ?_
   · first|exact cn _|exact trivial|simpa[*]using cn _
   refine X0<|X0<|X1 ?_;refine(Xc rfl (fun h3=>?_) fun h3=>?_)
   · exact absurd h3 (by simp)
   (try simp only[BN]at h3);refine X0<|X0<|X1 ?_;refine X3<|(Xb [6,20,21] (fun(u:Nat)=>[(22,.v (li u))]) (fun u=>[]) (fun u=>u≤qs.length∧∀q∈qs.take u,inB S.length q=true) (fun u=>qs.length - u) (0:Nat) ⟨Nat.zero_le _,by simp⟩ ?_ ?_)
   · exact X4 (fun n=>n) []
   rintro k ⟨hk,hJ⟩;simp only[upS,X6,Xw]
   try simp only[X6,KN,Nat.reduceBEq,if_true,if_false,ins,Nat.reduceLT]
   refine X2 ?_;refine X0<|(X7 rfl (fun h9=>X9 ?_) (fun h9=>?_))
   · (try simp only[BN]at h9);have hlt:k<qs.length:=by simpa using h9
     obtain⟨q,he,_⟩:=Xo hlt;have hmem:=List.mem_of_getElem? he;have hqn:=hql q hmem;have hw1:=Xy hlt (by omega);have hk1:k+1≤qs.length:=hlt;have hqe:=X5Q he;have hbq:=fun x=>hbad q x hmem
     have hJ2:inB S.length q=true→∀q∈qs.take (k+1),inB S.length q=true:=by
      intro hi q' hq';rw[List.take_add_one,he]at hq';rcases List.mem_append.1 hq' with h|h
      · exact hJ q' h
      simp only[Option.toList,List.mem_singleton]at h;rw[h];exact hi
     clear hlt h9 he hmem hql hbad hall hJ;refine X0<|X3<|X0<|X1 ?_;refine X2 ?_;refine X3<|(Xb [6,20,21,22,26,27] (fun(u:Nat)=>[(28,.v (li u))]) (fun u=>[]) (fun u=>u≤q.length∧∀x∈q.take u,(0≤x∧x<S.length)) (fun u=>q.length - u) (0:Nat) ⟨Nat.zero_le _,by simp⟩ ?_ ?_)
     · exact X4 (fun n=>n) []
     rintro j ⟨hj,hJj⟩;simp only[upS,X6,Xw]
     try simp only[X6,KN,Nat.reduceBEq,if_true,if_false,ins,Nat.reduceLT]
     refine X2 ?_;refine X0<|(X7 rfl (fun h14=>X9 ?_) (fun h14=>?_))
     · (try simp only[BN]at h14);have hlt:j<q.length:=by simpa using h14
       obtain⟨x,he,_⟩:=Xo hlt;have hmem:=List.mem_of_getElem? he;have hwj:=Xy hlt (by omega);have hj1:j+1≤q.length:=hlt;have hxe:=X23 he;have hbx:=hbq x hmem
       have hJj2:0≤x∧x<S.length→∀y∈q.take (j+1),(0≤y∧y<S.length):=by
        intro hi y hy;rw[List.take_add_one,he]at hy;rcases List.mem_append.1 hy with h|h
        · exact hJj y h
        simp only[Option.toList,List.mem_singleton]at h;rw[h];exact hi
       clear hlt h14 he hmem hbq hJj;refine X0<|X3<|X0<|X1 ?_;refine XL [6,20,21,22,26,27,28] (fun(z:Bool)=>[(42,.v (lb z))]) (fun(z:Bool)=>[]) (fun(z:Bool)=>z=decide (¬(0≤x∧x<S.length))) ?_ ?_
       · by_cases hx:x<0
         · refine Xl (by simp[*];rfl) ?_;exact⟨_,rfl,Xu (fun n=>n) [] rfl (by simp[upS,X6];omega) (by simp[upS]) (by simp[upS])⟩
         refine Xl (by simp[*];rfl) ?_;exact⟨_,rfl,Xu (fun n=>n) [] rfl (by simp[upS,X6];omega) (by simp[upS]) (by simp[upS])⟩
       rintro z hz;simp only[upS,X6,Xw]
       try simp only[X6,KN,Nat.reduceBEq,if_true,if_false,ins,Nat.reduceLT]
       refine(Xc rfl (fun h17=>?_) fun h17=>?_)
       · (try simp only[BN]at h17);have hzt:z=true:=by simpa using h17
         have hr:=hbx (of_decide_eq_true (hz.symm.trans hzt));subst hr;clear hz h17 hbx hJj2 hJ2;refine X2 ?_;exact Xe
       (try simp only[BN]at h17);have hzt:z=false:=by simpa using h17
       have hx:=hJj2 (by rw[hzt]at hz;simpa using hz.symm);clear hz h17 hbx hJj2;refine X1 ?_;exact⟨j+1,⟨hj1,hx⟩,by omega,X4 (fun n=>n) []⟩
     try simp only[BN]at h14
     have hjl:j=q.length:=by
      have:¬j<q.length:=by simpa using h14
      omega
     subst hjl;rw[List.take_length]at hJj;have hJ2:=hJ2 (List.all_eq_true.2 fun x hx=>by simpa using hJj x hx);clear h14 hJj;refine(Xf ?_);refine X1 ?_;exact⟨k+1,⟨hk1,hJ2⟩,by omega,X4 (fun n=>n) []⟩
   try simp only[BN]at h9
   have hkl:k=qs.length:=by
    have:¬k<qs.length:=by simpa using h9
    omega
   subst hkl;rw[List.take_length]at hJ;have hr:=hall hJ;subst hr;clear h9 hJ;refine(Xf ?_);refine X2 ?_;exact Xe
 simp only[if_neg hz]at cn⊢;obtain⟨vars,hats,body⟩:=f;simp only[aF,Fl.enc,List.map_cons,List.map_nil]at cn⊢;clear h hC hsl hsz;refine X5 Tryz.func43 ?_;simp only[Tryz.f43];refine X2 ?_;refine Xh [⟨false,.tup [.one (.c (.lit (.pointer none))),li C],none⟩] ?_ ?_
 · first|exact cn _|exact trivial|simpa[*]using cn _
 refine X0<|X0<|X1 ?_;refine(Xc rfl (fun h3=>?_) fun h3=>?_)
 · (try simp only[BN]at h3);refine X2 ?_;exact Xe
 exact absurd h3 (by simp[hz])
end Go.Proofs.YtppjennamodfdaaGreat

namespace Go.Proofs.YtppjennamodfdaaGreat
open Go Go.Hl
mutual
theorem Xcl:∀(s:St),∀q∈flS s,q.term.nodes≤s.nodes
 | .mk o c v n t a b bs,q,h=>by
   simp only[flS,List.mem_cons,List.mem_append]at h;simp only[St.nodes];rcases h with rfl|h|h
   · simp only[St.term];omega
   · have:=X1X a q h;omega
   have:=X1X b q h;omega
theorem X1X:∀(l:List St),∀q∈flL l,q.term.nodes≤Xj l
 |[],q,h=>by simp[flL]at h
 | s::l,q,h=>by
   simp only[flL,List.mem_append]at h;simp only[Xj];rcases h with h|h
   · have:=Xcl s q h;omega
   have:=X1X l q h;omega
end
mutual
theorem arS_in:∀(s:St) (o:Int) (p:Nat),-1≤o→∀a∈arS s o p,-1≤a∧(a=o∨a<p+szS s)
 | .mk _ _ _ _ _ x y _,o,p,ho,a,h=>by
   simp only[arS,List.mem_cons,List.mem_append]at h;simp only[szS];rcases h with rfl|h|h
   · exact⟨ho,.inl rfl⟩
   · have:=X60 x p (p+1) (by omega) a h;refine⟨this.1,.inr ?_⟩;rcases this.2 with h|h<;>omega
   have:=X60 y p (p+1+szL x) (by omega) a h;refine⟨this.1,.inr ?_⟩;rcases this.2 with h|h<;>omega
theorem X60:∀(l:List St) (o:Int) (p:Nat),-1≤o→∀a∈arL l o p,-1≤a∧(a=o∨a<p+szL l)
 |[],o,p,_,a,h=>by simp[arL]at h
 | s ::l,o,p,ho,a,h=>by
   simp only[arL,List.mem_append]at h;simp only[szL];rcases h with h|h
   · have:=arS_in s o p ho a h;refine⟨this.1,?_⟩;rcases this.2 with h|h
     · exact .inl h
     exact .inr (by omega)
   have:=X60 l o (p+szS s) ho a h;refine⟨this.1,?_⟩;rcases this.2 with h|h
   · exact .inl h
   exact .inr (by omega)
end
theorem Xbu {P:List Nat→Prop} (h0:P []) (n:Nat) (l:List (Nd×List Nat)) (h:∀p∈l,P p.2):∀r∈rdF n l,P r:=by
 unfold rdF
 have :∀(l:List (Nd×List Nat)) (rd:List (List Nat)),(∀p∈l,P p.2)→(∀r∈rd,P r)→∀r∈l.foldl (fun rd p=>if rdB p.1=true then rd.set p.1.a.toNat p.2 else rd) rd,P r:=by
  intro l
  induction l with
  |nil=>exact fun rd _ h=>h
  | cons p l ih=>
    intro rd hl hr;rw[List.foldl_cons];refine ih _ (fun q hq=>hl q (by simp[hq])) ?_;split
    · intro r hr';rcases List.mem_or_eq_of_mem_set hr' with h|rfl
      · exact hr r h
      exact hl p (by simp)
    exact hr
 exact this l _ h fun r hr=>by rw[(List.mem_replicate.1 hr).2];exact h0
theorem rcL_rows {N:List Nd} {steps:List St} {nv:Nat}:∀r∈rcL N steps nv,r.length≤steps.length+nv∧(∀d∈r,d<steps.length+nv)∧r.Nodup:=by
 intro r hr;simp only[rcL,List.mem_map]at hr;obtain⟨to,_,rfl⟩:=hr;refine⟨Nat.le_trans (List.length_filter_le _ _) (by simp),fun d hd=>?_,List.Pairwise.filter _ List.nodup_range⟩;simpa using(List.mem_filter.1 hd).1
theorem XaY (f:Fl):∀r∈rdT f,r.length≤(flL f.body).length+f.vars.length∧(∀d∈r,d<(flL f.body).length+f.vars.length)∧r.Nodup:=
 Xbu (P:=fun r=>r.length≤(flL f.body).length+f.vars.length∧(∀d∈r,d<(flL f.body).length+f.vars.length)∧r.Nodup) ⟨by simp,by simp,by simp⟩ _ _ fun p hp=>rcL_rows p.2 (List.of_mem_zip hp).2
theorem WP {f:Fl} (h:Sm f):TabOK (flL f.body) (arL f.body (-1) 0) (rdT f) where
 hn:=by rw[XT];exact h.sz
 har:=by rw[XT,Z7]
 hrd:=by rw[XT];exact X3J _ _
 nod s hs:=by have:=X1X f.body s hs;have:=h.nodes;omega
 rdl r hr:=by
  have:=XaY f r hr;have h1:=h.sz;have h2:=h.vars;rw[XT]at this;exact⟨by omega,fun d hd=>by have:=this.2.1 d hd;omega⟩
noncomputable def Q3 (f:Fl):List (List Nat):=X2G (flL f.body) (arL f.body (-1) 0) (rdT f)
theorem QL (f:Fl):(Q3 f).length=(flL f.body).length:=by simp[Q3,X2G]
theorem Za {f:Fl} (h:Sm f):∀l∈Q3 f,l.length≤6000∧∀d∈l,d<(Q3 f).length:=by
 intro l hl;rw[QL];simp only[Q3,X2G,List.mem_map]at hl;obtain⟨s,_,rfl⟩:=hl;have hT:=WP h;unfold X6S;split
 · rename_i q a r hq ha hr;have h1:=(hT.rdl r (List.mem_of_getElem? hr)).1;have h2:=X60 f.body (-1) 0 (by omega) a (List.mem_of_getElem? ha);have h3:∀p:Nat→Bool,((X2t (flL f.body) q r).filter p).length≤5000:=fun p=>Nat.le_trans (List.length_filter_le _ _) (Nat.le_trans (List.length_filter_le _ _) h1);refine⟨?_,?_⟩
   · rw[List.length_append];have:=h3 fun d=>decide (d<(flL f.body).length);split
     · simp only[List.length_singleton];omega
     simp only[List.length_nil];omega
   intro d hd;rcases List.mem_append.1 hd with hd|hd
   · split at hd
     · rename_i h0;rw[List.mem_singleton.1 hd];have hl:=XT f.body;rcases h2.2 with h|h<;>omega
     cases hd
   exact of_decide_eq_true (List.mem_filter.1 hd).2
 exact⟨by simp,by simp⟩
theorem X44 {f:Fl} (h:Sm f):okLk (Q3 f):=fun l hl=>⟨by have:=(Za h l hl).1;omega,(Za h l hl).2⟩
theorem X49 (s:Nat):∀(l:List Nat) (M:List (List Nat)),(X0M s l M).length=M.length
 |[],_=>rfl
 |d::l,M=>by simp[X0M,X49 s l]
theorem X8l:∀(L:List (List Nat)) (s:Nat) (M:List (List Nat)),(X38 L s M).length=M.length
 |[],_,_=>rfl
 |l::L,s,M=>by rw[X38,X8l,X49]
@[simp] theorem X0J (L:List (List Nat)):(X0R L).length=L.length:=by simp[X0R,X8l]
theorem X7h (s:Nat):∀(l:List Nat) (M:List (List Nat)),(∀d∈l,d<M.length)→∀(x y:Nat),y∈(X0M s l M)[x]?.getD []↔y∈M[x]?.getD []∨(y=s∧x∈l)
 |[],M,_,x,y=>by simp[X0M]
 | d :: l,M,h,x,y=>by
   rw[X0M,X7h s l _ (fun z hz=>by rw[List.length_set];exact h z (by simp[hz])),List.getElem?_set];by_cases hx:d=x
   · subst hx;have:=h d (by simp);simp only[if_true,this,Option.getD_some,List.mem_append,List.mem_cons,true_or,and_true,List.mem_singleton];constructor
     · rintro((h|h)|⟨h,_⟩)
       · exact .inl h
       · rcases h with h|h
         · exact .inr h
         cases h
       exact .inr h
     rintro(h|h)
     · exact .inl (.inl h)
     exact .inl (.inr (.inl h))
   simp only[hx,if_false,List.mem_cons];constructor
   · rintro(h|⟨h1,h2⟩)
     · exact .inl h
     exact .inr ⟨h1,.inr h2⟩
   rintro(h|⟨h1,rfl|h2⟩)
   · exact .inl h
   · exact absurd rfl hx
   exact .inr ⟨h1,h2⟩
theorem X8B:∀(L:List (List Nat)) (s:Nat) (M:List (List Nat)),(∀l∈L,∀d∈l,d<M.length)→∀(x y:Nat),y∈(X38 L s M)[x]?.getD []↔y∈M[x]?.getD []∨(s≤y∧x∈L[y - s]?.getD [])
 |[],s,M,_,x,y=>by simp[X38]
 | l ::L,s,M,h,x,y=>by
   rw[X38,X8B L (s+1) _ (fun l' hl' d hd=>by rw[X49];exact h l' (by simp[hl']) d hd),X7h s l M (fun d hd=>h l (by simp) d hd)];by_cases hy:y=s
   · subst hy;have:¬y+1≤y:=by omega
     simp[this]
   by_cases hs:s+1≤y
   · obtain⟨k,rfl⟩:∃k,y=s+1+k:=⟨y - (s+1),by omega⟩;have e1:s+1+k - s=k+1:=by omega
     have e2:s+1+k - (s+1)=k:=by omega
     have e3:s≤s+1+k:=by omega
     simp[e1,e2,e3,hy]
   have e3:¬s≤y:=by omega
   simp[hs,e3,hy]
theorem X6f {L:List (List Nat)} (h:∀l∈L,∀d∈l,d<L.length) (x y:Nat):y∈(X0R L)[x]?.getD []↔x∈L[y]?.getD []:=by
 rw[X0R,X8B L 0 _ (by simpa using h)]
 have:((List.replicate L.length ([]:List Nat))[x]?.getD [])=[]:=by
  rw[List.getElem?_replicate];split<;>rfl
 rw[this];simp
theorem Xbw (s:Nat):∀(l:List Nat) (M:List (List Nat)) (b:Nat),lenB M b→lenB (X0M s l M) (b+l.length)
 |[],M,b,h=>by simpa[X0M]using h
 | d ::l,M,b,h=>by
   rw[X0M]
   have:lenB (M.set d (M[d]?.getD []++[s])) (b+1):=by
    by_cases hd:d<M.length
    · have he:M[d]? =some M[d]:=by simp[hd]
      have:=h.set he s;rw[he];exact this
    rw[List.set_eq_of_length_le (by omega)];exact fun m hm=>by have:=h m hm;omega
   have h2:=Xbw s l _ _ this;simp only[List.length_cons]
   rwa [Nat.add_assoc,Nat.add_comm 1]at h2
theorem lenB_L:∀(L:List (List Nat)) (s:Nat) (M:List (List Nat)) (b:Nat),(∀l∈L,l.length≤6000)→lenB M b→lenB (X38 L s M) (b+6000*L.length)
 |[],s,M,b,_,h=>by simpa[X38]using h
 | l::L,s,M,b,hl,h=>by
   rw[X38];have h1:=lenB_L L (s+1) _ _ (fun l' hl'=>hl l' (by simp[hl'])) (Xbw s l M b h);have h2:=hl l (by simp);intro m hm;have:=h1 m hm;simp only[List.length_cons];omega
theorem X8a {L:List (List Nat)} (hn:L.length≤1000) (h:∀l∈L,l.length≤6000∧∀d∈l,d<L.length):okLk (X0R L):=by
 intro l hl;refine⟨?_,?_⟩
 · have:=lenB_L L 0 (List.replicate L.length []) 0 (fun l hl=>(h l hl).1) (fun m hm=>by rw[(List.mem_replicate.1 hm).2];exact Nat.zero_le _) l hl;omega
 intro d hd;obtain⟨x,hx⟩:=List.mem_iff_getElem?.1 hl;have h1:d∈(X0R L)[x]?.getD []:=by rw[hx];exact hd
 rw[X6f (fun l hl=>(h l hl).2)]at h1;rw[X0J];by_cases hdl:d<L.length
 · exact hdl
 rw[List.getElem?_eq_none (by omega)]at h1;cases h1
end Go.Proofs.YtppjennamodfdaaGreat

namespace Go.Proofs.YtppjennamodfdaaGreat
open Go Go.Hl
inductive Cl (L:List (List Nat)) (l:List Nat):Nat→Prop where
 |base {d:Nat}:d∈l→Cl L l d
 |step {x d:Nat}:Cl L l x→d∈L[x]?.getD []→Cl L l d
theorem addN_mem (t:List Nat) (v d:Nat):d∈X3P t v↔d∈t∨d=v:=by
 unfold X3P;split
 · rename_i h;constructor
   · exact .inl
   rintro(h1|rfl)
   · exact h1
   exact h
 simp
theorem X0h (l:List Nat):∀(t:List Nat) (d:Nat),d∈addAll l t↔d∈t∨d∈l:=by
 induction l with
 |nil=>intro t d;simp[addAll]
 |cons v l ih=>intro t d;rw[addAll,ih,addN_mem,List.mem_cons,or_assoc]
theorem addN_pre (t:List Nat) (v:Nat):t<+:X3P t v:=by
 unfold X3P;split
 · exact List.prefix_refl _
 exact List.prefix_append _ _
theorem X9W (l:List Nat):∀t,t<+:addAll l t:=by
 induction l with
 |nil=>intro t;exact List.prefix_refl _
 |cons v l ih=>intro t;exact(addN_pre t v).trans (ih _)
theorem Xb0 {a b:List Nat} (h:a<+:b) {i v:Nat} (hi:a[i]? =some v):b[i]? =some v:=by
 obtain⟨c,rfl⟩:=h;rw[List.getElem?_append_left (List.getElem?_eq_some_iff.1 hi).1];exact hi
theorem Xbg {L:List (List Nat)} {n:Nat} {l0:List Nat} (hL:∀l∈L,∀d∈l,d<n):∀(k i:Nat) (t:List Nat),k+i=n+1→i≤t.length→Nb n t→
  (∀j v,j<i→t[j]? =some v→∀d∈L[v]?.getD [],d∈t)→(∀d∈t,Cl L l0 d)→(∀d∈l0,d∈t)→
  Nb n (wl L k i t)∧∀d,d∈wl L k i t↔Cl L l0 d
 |0,i,t,hk,hi,hN,_,_,_=>by have:=hN.len;omega
 | k + 1,i,t,hk,hi,hN,hc,hs,hl=>by
   unfold wl;split
   · rename_i v hv
     have hlv:∀d∈L[v]?.getD [],d<n:=by
      intro d hd;cases e:L[v]? with
      |none=>rw[e]at hd;cases hd
      |some l=>rw[e]at hd;exact hL l (List.mem_of_getElem? e) d hd
     have hp:=X9W (L[v]?.getD []) t;have hil:i<t.length:=(List.getElem?_eq_some_iff.1 hv).1;have hle:=Xaq (L[v]?.getD []) t;refine Xbg hL k (i+1) _ (by omega) (by omega) (Nb.addAll _ hlv hN) ?_ ?_ fun d hd=>(X0h _ _ _).2 (.inl (hl d hd))
     · intro j u hj hu d hd;rw[X0h];by_cases hji:j=i
       · subst hji;rw[Xb0 hp hv]at hu;cases hu;exact .inr hd
       refine .inl (hc j u (by omega) ?_ d hd);have:t[j]? =some t[j]:=by rw[List.getElem?_eq_getElem (by omega)]
       rw[Xb0 hp this]at hu;rw[this,hu]
     intro d hd;rcases(X0h _ _ _).1 hd with h|h
     · exact hs d h
     exact .step (hs v (List.mem_of_getElem? hv)) h
   rename_i hv
   have hil:t.length≤i:=by
    by_cases h:i<t.length
    · rw[List.getElem?_eq_getElem h]at hv;cases hv
    omega
   refine⟨hN,fun d=>⟨hs d,fun h=>?_⟩⟩
   induction h with
   |base h=>exact hl _ h
   | step _ h ih=>
     obtain⟨j,hj⟩:=List.mem_iff_getElem?.1 ih;exact hc j _ (by have:=(List.getElem?_eq_some_iff.1 hj).1;omega) hj _ h
theorem WJ {L:List (List Nat)} {l0:List Nat} (hL:okLk L) (h0:∀d∈l0,d<L.length):Nb L.length (ZJ L l0)∧∀d,d∈ZJ L l0↔Cl L l0 d:=by
 unfold ZJ;refine Xbg (fun l hl=>(hL l hl).2) _ _ _ rfl (Nat.zero_le _) (Nb.addAll _ h0 (Nb.nil _)) (fun j v hj=>absurd hj (by omega)) (fun d hd=>?_) fun d hd=>(X0h _ _ _).2 (.inr hd);rcases(X0h _ _ _).1 hd with h|h
 · cases h
 exact .base h
def QT (q:List Int):List Nat:=q.map Int.toNat
theorem ZR {q:List Int} (h:∀x∈q,0≤x):Xi q=XB (QT q):=by
 unfold Xi XB QT;rw[List.map_map];refine List.map_congr_left fun x hx=>?_;have:=h x hx;simp only[Function.comp,iC];rw[Int.toNat_of_nonneg this]
theorem X5i {f:Fl} {qs:List (List Int)} (h:Wk f qs=0):Qf f=0∧∀q∈qs,∀x∈q,0≤x∧x<(flL f.body).length:=by
 unfold Wk at h;split at h
 · rename_i hc;split at h
   · rename_i hb;refine⟨hc,fun q hq x hx=>?_⟩;have:=List.all_eq_true.1 (List.all_eq_true.1 hb q hq) x hx;simpa using this
   exact absurd h (by decide)
 rename_i hc;exact absurd h hc
theorem X4j {f:Fl} {qs:List (List Int)} (h:Wk f qs=0) {q:List Int} (hq:q∈qs):(∀x∈q,0≤x)∧∀d∈QT q,d<(Q3 f).length:=by
 have:=(X5i h).2 q hq;refine⟨fun x hx=>(this x hx).1,fun d hd=>?_⟩;obtain⟨x,hx,rfl⟩:=List.mem_map.1 hd;have:=this x hx;rw[QL];omega
noncomputable def bwL (f:Fl) (q:List Int):List Nat:=X40 (Q3 f).length (ZJ (Q3 f) (QT q))
noncomputable def fwL (f:Fl) (q:List Int):List Nat:=X40 (Q3 f).length (ZJ (X0R (Q3 f)) (QT q))
noncomputable def slR (C:Int) (l:List Nat):RV:=.tup [.one (.c (if C=0 then .sl 1 (XB l)else .lit XU)),li C]
set_option maxHeartbeats 8000000 in
theorem X34 (f:Fl) (h:Sm f) (q:List Int) (hq:q.length≤100000) (d:Nat):Con Tryz.prog 12 false [aF f,.one (.c (.sl 1 (Xi q)))] (slR (Wk f [q]) (bwL f q)) none d:=by
 have ca:=ZV f h [q] (by simp) (fun q' hq'=>by rw[List.mem_singleton.1 hq'];omega);have cd:=X08 f _ _ _ (WP h);have hd0:X2G (flL f.body) (arL f.body (-1) 0) (rdT f)=Q3 f:=rfl;rw[hd0]at cd;have hok:=X44 h;have hDl:(Q3 f).length≤1000:=by rw[QL];exact(WP h).hn
 obtain⟨C,hC⟩:∃x,Wk f [q]=x:=⟨_,rfl⟩;have hask:=fun hz=>@X4j f [q] (hC.trans hz) q (by simp);unfold askT at ca;simp only[X3O,List.map_cons,List.map_nil]at ca;unfold slR bwL;rw[hC]at ca⊢;obtain⟨R,hR⟩:∃x,X40 (Q3 f).length (ZJ (Q3 f) (QT q))=x:=⟨_,rfl⟩;rw[hR];obtain⟨T,hT⟩:∃x,X5I f=x:=⟨_,rfl⟩;have hT2:ZG f (flL f.body) (arL f.body (-1) 0) (rdT f)=T:=hT;rw[hT]at ca;rw[hT2]at cd;obtain⟨D,hD⟩:∃x,Q3 f=x:=⟨_,rfl⟩;rw[hD]at cd hok hDl hask hR;clear h hC hT hT2 hd0 hD;by_cases hz:C=0
 · subst hz;obtain⟨h0,hlt⟩:=hask rfl;have cc:=Z5 D (QT q) (by omega) hok (by simp only[QT,List.length_map];omega) hlt;have hN:=(WJ hok hlt).1;have cs:=X2A D.length _ (by omega) hN;rw[hR]at cs;rw[ZR h0]at ca⊢;simp only[if_true]at ca⊢;clear hask hR h0 hlt hN hok;obtain⟨vars,hats,body⟩:=f;simp only[aF,Fl.enc,List.map_cons,List.map_nil]at ca⊢;refine X5 Tryz.func12 ?_;simp only[Tryz.f12];refine X2 ?_;refine X0<|(QN 3 [] [⟨false,.tup [.one (.c T),li 0],none⟩] (by simp[*];rfl) trivial (XO 11 rfl) (by simp[*];first|exact⟨rfl,Iff.rfl⟩|exact⟨rfl,trivial⟩|rfl) ?_ ?_)
   · first|exact ca _|simpa using ca _
   refine X0<|X0<|X1 ?_;refine(Xc rfl (fun h3=>?_) fun h3=>?_)
   · exact absurd h3 (by simp)
   (try simp only[BN]at h3);refine Xh [⟨false,.v (.one (.c (.sl 1 (Qa D)))),none⟩,⟨false,.v (.one (.c (.mp (mpI (ZJ D (QT q)))))),none⟩,⟨false,.v (.one (.c (.sl 1 (XB R)))),none⟩] ?_ ?_
   · first|exact⟨cd _,cc _,cs _⟩|exact trivial|(repeat' first|exact trivial|exact cd _|exact cc _|exact cs _|apply And.intro)
   exact Xe
 simp only[if_neg hz]at ca⊢;clear hask hok hR cd;obtain⟨vars,hats,body⟩:=f;simp only[aF,Fl.enc,List.map_cons,List.map_nil]at ca⊢;refine X5 Tryz.func12 ?_;simp only[Tryz.f12];refine X2 ?_;refine X0<|(QN 3 [] [⟨false,.tup [.one (.c (.lit (.pointer none))),li C],none⟩] (by simp[*];rfl) trivial (XO 11 rfl) (by simp[*];first|exact⟨rfl,Iff.rfl⟩|exact⟨rfl,trivial⟩|rfl) ?_ ?_)
 · first|exact ca _|simpa using ca _
 refine X0<|X0<|X1 ?_;refine(Xc rfl (fun h3=>?_) fun h3=>?_)
 · (try simp only[BN]at h3);refine X2 ?_;exact Xe
 exact absurd h3 (by simp[hz])
end Go.Proofs.YtppjennamodfdaaGreat

namespace Go.Proofs.YtppjennamodfdaaGreat
open Go Go.Hl
set_option maxHeartbeats 8000000 in
theorem X4P (f:Fl) (h:Sm f) (q:List Int) (hq:q.length≤100000) (d:Nat):Con Tryz.prog 13 false [aF f,.one (.c (.sl 1 (Xi q)))] (slR (Wk f [q]) (fwL f q)) none d:=by
 have ca:=ZV f h [q] (by simp) (fun q' hq'=>by rw[List.mem_singleton.1 hq'];omega);have cd:=X08 f _ _ _ (WP h);have hd0:X2G (flL f.body) (arL f.body (-1) 0) (rdT f)=Q3 f:=rfl;rw[hd0]at cd;have hrow:=Za h;have hDl:(Q3 f).length≤1000:=by rw[QL];exact(WP h).hn
 obtain⟨C,hC⟩:∃x,Wk f [q]=x:=⟨_,rfl⟩;have hask:=fun hz=>@X4j f [q] (hC.trans hz) q (by simp);unfold askT at ca;simp only[X3O,List.map_cons,List.map_nil]at ca;unfold slR fwL;rw[hC]at ca⊢;obtain⟨R,hR⟩:∃x,X40 (Q3 f).length (ZJ (X0R (Q3 f)) (QT q))=x:=⟨_,rfl⟩;rw[hR];obtain⟨T,hT⟩:∃x,X5I f=x:=⟨_,rfl⟩;have hT2:ZG f (flL f.body) (arL f.body (-1) 0) (rdT f)=T:=hT;rw[hT]at ca;rw[hT2]at cd;obtain⟨D,hD⟩:∃x,Q3 f=x:=⟨_,rfl⟩;rw[hD]at cd hrow hDl hask hR;have cv:=X3x D hDl hrow;have hok:=X8a hDl hrow;have hEl:=X0J D;obtain⟨E,hE⟩:∃x,X0R D=x:=⟨_,rfl⟩;rw[hE]at cv hok hEl hR;clear h hC hT hT2 hd0 hD hrow hE;rw[←hEl]at hask hR;by_cases hz:C=0
 · subst hz;obtain⟨h0,hlt⟩:=hask rfl;have cc:=Z5 E (QT q) (by omega) hok (by simp only[QT,List.length_map];omega) hlt;have hN:=(WJ hok hlt).1;have cs:=X2A E.length _ (by omega) hN;rw[hR]at cs;rw[ZR h0]at ca⊢;simp only[if_true]at ca⊢;clear hask hR h0 hlt hN hok;obtain⟨vars,hats,body⟩:=f;simp only[aF,Fl.enc,List.map_cons,List.map_nil]at ca⊢;refine X5 Tryz.func13 ?_;simp only[Tryz.f13];refine X2 ?_;refine X0<|(QN 3 [] [⟨false,.tup [.one (.c T),li 0],none⟩] (by simp[*];rfl) trivial (XO 11 rfl) (by simp[*];first|exact⟨rfl,Iff.rfl⟩|exact⟨rfl,trivial⟩|rfl) ?_ ?_)
   · first|exact ca _|simpa using ca _
   refine X0<|X0<|X1 ?_;refine(Xc rfl (fun h3=>?_) fun h3=>?_)
   · exact absurd h3 (by simp)
   (try simp only[BN]at h3);refine Xh [⟨false,.v (.one (.c (.sl 1 (Qa D)))),none⟩,⟨false,.v (.one (.c (.sl 1 (Qa E)))),none⟩,⟨false,.v (.one (.c (.mp (mpI (ZJ E (QT q)))))),none⟩,⟨false,.v (.one (.c (.sl 1 (XB R)))),none⟩] ?_ ?_
   · first|exact⟨cd _,cv _,cc _,cs _⟩|exact trivial|(repeat' first|exact trivial|exact cd _|exact cv _|exact cc _|exact cs _|apply And.intro)
   exact Xe
 simp only[if_neg hz]at ca⊢;clear hask hok hR cd cv;obtain⟨vars,hats,body⟩:=f;simp only[aF,Fl.enc,List.map_cons,List.map_nil]at ca⊢;refine X5 Tryz.func13 ?_;simp only[Tryz.f13];refine X2 ?_;refine X0<|(QN 3 [] [⟨false,.tup [.one (.c (.lit (.pointer none))),li C],none⟩] (by simp[*];rfl) trivial (XO 11 rfl) (by simp[*];first|exact⟨rfl,Iff.rfl⟩|exact⟨rfl,trivial⟩|rfl) ?_ ?_)
 · first|exact ca _|simpa using ca _
 refine X0<|X0<|X1 ?_;refine(Xc rfl (fun h3=>?_) fun h3=>?_)
 · (try simp only[BN]at h3);refine X2 ?_;exact Xe
 exact absurd h3 (by simp[hz])
end Go.Proofs.YtppjennamodfdaaGreat

namespace Go.Proofs.YtppjennamodfdaaGreat
open Go Go.Hl
noncomputable def chL (f:Fl) (a b:List Int):List Nat:=(fwL f a).filter fun d=>decide (d∈ZJ (Q3 f) (QT b))
set_option maxHeartbeats 8000000 in
theorem X9J (f:Fl) (h:Sm f) (q q2:List Int) (hq:q.length≤100000) (hq2:q2.length≤100000) (d:Nat):Con Tryz.prog 14 false [aF f,.one (.c (.sl 1 (Xi q))),.one (.c (.sl 1 (Xi q2)))] (slR (Wk f [q,q2]) (chL f q q2)) none d:=by
 have ca:=ZV f h [q,q2] (by simp) (fun q' hq'=>by
  simp only[List.mem_cons,List.not_mem_nil,or_false]at hq'
  rcases hq' with rfl|rfl<;>omega)
 have cd:=X08 f _ _ _ (WP h);have hd0:X2G (flL f.body) (arL f.body (-1) 0) (rdT f)=Q3 f:=rfl;rw[hd0]at cd;have hrow:=Za h;have hok1:=X44 h;have hDl:(Q3 f).length≤1000:=by rw[QL];exact(WP h).hn
 obtain⟨C,hC⟩:∃x,Wk f [q,q2]=x:=⟨_,rfl⟩;have hask:=fun hz=>@X4j f [q,q2] (hC.trans hz) q (by simp);have hask2:=fun hz=>@X4j f [q,q2] (hC.trans hz) q2 (by simp);unfold askT at ca;simp only[X3O,List.map_cons,List.map_nil]at ca;unfold slR chL fwL;rw[hC]at ca⊢;obtain⟨R,hR⟩:∃x,X40 (Q3 f).length (ZJ (X0R (Q3 f)) (QT q))=x:=⟨_,rfl⟩;rw[hR];obtain⟨T,hT⟩:∃x,X5I f=x:=⟨_,rfl⟩;have hT2:ZG f (flL f.body) (arL f.body (-1) 0) (rdT f)=T:=hT;rw[hT]at ca;rw[hT2]at cd;obtain⟨D,hD⟩:∃x,Q3 f=x:=⟨_,rfl⟩;rw[hD]at cd hrow hDl hask hask2 hR hok1⊢;have cv:=X3x D hDl hrow;have hok:=X8a hDl hrow;have hEl:=X0J D;obtain⟨E,hE⟩:∃x,X0R D=x:=⟨_,rfl⟩;rw[hE]at cv hok hEl hR;clear h hC hT hT2 hd0 hD hrow hE;rw[←hEl]at hask hR;have hRl:=X97 E.length (ZJ E (QT q));rw[hR]at hRl;by_cases hz:C=0
 · subst hz;obtain⟨h0,hlt⟩:=hask rfl;obtain⟨h02,hlt2⟩:=hask2 rfl;have cc:=Z5 E (QT q) (by omega) hok (by simp only[QT,List.length_map];omega) hlt;have cc2:=Z5 D (QT q2) (by omega) hok1 (by simp only[QT,List.length_map];omega) hlt2;have hN:=(WJ hok hlt).1;have cs:=X2A E.length _ (by omega) hN;rw[hR]at cs;rw[ZR h0,ZR h02]at ca⊢;simp only[if_true]at ca⊢;clear hask hask2 hR h0 hlt hN hok hok1 h02 hlt2;obtain⟨W,hW⟩:∃x,ZJ D (QT q2)=x:=⟨_,rfl⟩;rw[hW]at cc2⊢;obtain⟨res,hres⟩:∃x,R.filter (fun d=>decide (d∈W))=x:=⟨_,rfl⟩;rw[hres];clear hW;obtain⟨vars,hats,body⟩:=f;simp only[aF,Fl.enc,List.map_cons,List.map_nil]at ca⊢;refine X5 Tryz.func14 ?_;simp only[Tryz.f14];refine X2 ?_;refine X0<|(QN 4 [] [⟨false,.tup [.one (.c T),li 0],none⟩] (by simp[*];rfl) trivial (XO 19 rfl) (by simp[*];first|exact⟨rfl,Iff.rfl⟩|exact⟨rfl,trivial⟩|rfl) ?_ ?_)
   · first|exact ca _|simpa using ca _
   refine X0<|X0<|X1 ?_;refine(Xc rfl (fun h3=>?_) fun h3=>?_)
   · exact absurd h3 (by simp)
   (try simp only[BN]at h3);refine Xh [⟨false,.v (.one (.c (.sl 1 (Qa D)))),none⟩] ?_ ?_
   · first|exact cd _|exact trivial|simpa[*]using cd _
   refine Xh [⟨false,.v (.one (.c (.mp (mpI W)))),none⟩] ?_ ?_
   · first|exact cc2 _|exact trivial|simpa[*]using cc2 _
   refine X2 ?_;refine X0<|X0<|(Xm [⟨false,.v (.one (.c (.sl 1 (Qa E)))),none⟩,⟨false,.v (.one (.c (.mp (mpI (ZJ E (QT q)))))),none⟩,⟨false,.v (.one (.c (.sl 1 (XB R)))),none⟩] ?_ ?_)
   · first|exact⟨cv _,cc _,cs _⟩|exact trivial|(repeat' first|exact trivial|exact cv _|exact cc _|exact cs _|apply And.intro)
   refine X3<|(Xb [11,35,36] (fun(u:Nat×List Nat)=>[(12,.v (.one (.own 1012))),(37,.v (li u.1))]) (fun u=>[(1012,.row 3 1 (XB u.2))]) (fun u=>u.1≤R.length∧u.2++(R.drop u.1).filter (fun d=>decide (d∈W))=res∧u.2.length≤u.1) (fun u=>R.length - u.1) (0,[]) ⟨Nat.zero_le _,by simpa using hres,Nat.le_refl _⟩ ?_ ?_)
   · exact X4 (fun n=>n) [1012]
   rintro⟨k,out⟩ ⟨hk,hJ,hol⟩;simp only[upS,X6,Xw]
   try simp only[X6,KN,Nat.reduceBEq,if_true,if_false,ins,Nat.reduceLT]
   simp only at hk hJ hol;clear hres ca cd cv cc cc2 cs;refine X2 ?_;refine X0<|(X7 rfl (fun h12=>X9 ?_) (fun h12=>?_))
   · (try simp only[BN]at h12);have hlt:k<R.length:=by simpa using h12
     obtain⟨x,he,hd⟩:=Xo hlt;have hw1:=Xy hlt (by omega);have hk1:k+1≤R.length:=hlt;have hxe:(XB R)[k]? =some [iC x]:=by simp[XB,he]
     have hf:=X1M x W;have hroom:Q9 (out.length+1) 8:=Xv (by omega) (by decide);rw[hd]at hJ;clear hlt h12 he hd;refine X0<|X3<|X0<|X1 ?_;rcases Classical.em (x∈W)with hx|hx
     · rw[if_pos hx]at hf;rw[List.filter_cons,if_pos (by simpa using hx)]at hJ;refine X2 ?_;refine(Xc rfl (fun h15=>?_) fun h15=>?_)
       · (try simp only[BN]at h15);refine X1 ?_;refine X1 ?_;exact⟨(k+1,out++[x]),⟨hk1,by simpa using hJ,by simp;omega⟩,by simp only;omega,X4 (fun n=>if n=1012 then 47 else n) []⟩
       cases h15
     rw[if_neg hx]at hf;rw[List.filter_cons,if_neg (by simpa using hx)]at hJ;refine X2 ?_;refine(Xc rfl (fun h15=>?_) fun h15=>?_)
     · cases h15
     (try simp only[BN]at h15);refine X1 ?_;exact⟨(k+1,out),⟨hk1,hJ,by simp only;omega⟩,by simp only;omega,X4 (fun n=>n) []⟩
   try simp only[BN]at h12
   have hkl:k=R.length:=by
    have:¬k<R.length:=by simpa using h12
    omega
   subst hkl;simp only[List.drop_length,List.filter_nil,List.append_nil]at hJ;subst hJ;clear h12;refine(Xf ?_);refine Xz (XO 1012 rfl) ?_;refine X2 ?_;exact Xe
 simp only[if_neg hz]at ca⊢;clear hask hask2 hok hok1 hR hRl cd cv;obtain⟨vars,hats,body⟩:=f;simp only[aF,Fl.enc,List.map_cons,List.map_nil]at ca⊢;refine X5 Tryz.func14 ?_;simp only[Tryz.f14];refine X2 ?_;refine X0<|(QN 4 [] [⟨false,.tup [.one (.c (.lit (.pointer none))),li C],none⟩] (by simp[*];rfl) trivial (XO 19 rfl) (by simp[*];first|exact⟨rfl,Iff.rfl⟩|exact⟨rfl,trivial⟩|rfl) ?_ ?_)
 · first|exact ca _|simpa using ca _
 refine X0<|X0<|X1 ?_;refine(Xc rfl (fun h3=>?_) fun h3=>?_)
 · (try simp only[BN]at h3);refine X2 ?_;exact Xe
 exact absurd h3 (by simp[hz])
end Go.Proofs.YtppjennamodfdaaGreat

namespace Go.Proofs.YtppjennamodfdaaGreat
open Go Go.Hl
theorem eqG2 (a b:List Int) (h:a.length=b.length) (hall:∀k:Nat,k<a.length→a[k]? =b[k]?):a=b:=by
 apply List.ext_getElem?;intro k;by_cases hk:k<a.length
 · exact hall k hk
 rw[List.getElem?_eq_none (by omega),List.getElem?_eq_none (by omega)]
theorem X0E (a b:List Int) (ha:a.length≤1000000000) (hb:b.length≤1000000000) (d:Nat):Con Tryz.prog 19 true [lI a,lI b] (.v (lb (decide (a=b)))) none d:=by
 obtain⟨res,hres⟩:∃r,decide (a=b)=r:=⟨_,rfl⟩;rw[hres];refine X5 Tryz.func19 ?_;simp only[Tryz.f19];refine X2 ?_;refine X0<|X0<|X1 ?_;refine(Xc rfl (fun h2=>?_) fun h2=>?_)
 · try simp only[BN]at h2
   have hz:res=false:=by
    rw[←hres,decide_eq_false_iff_not];intro h;subst h;simp at h2
   subst hz;refine X2 ?_;exact Xe
 (try simp only[BN]at h2);have hle:a.length=b.length:=by omega
 clear h2;refine X0<|X0<|X1 ?_;refine X3<|(Xb [0,1,12] (fun(z:Nat)=>[(13,.v (li z))]) (fun z=>[]) (fun z=>z≤a.length∧∀k:Nat,k<z→a[k]? =b[k]?) (fun z=>a.length - z) (0:Nat) ⟨Nat.zero_le _,fun k hk=>absurd hk (Nat.not_lt_zero k)⟩ ?_ ?_)
 · exact X4 (fun n=>n) []
 rintro k ⟨hk,hall⟩;simp only[upS,X6,Xw]
 try simp only[X6,KN,Nat.reduceBEq,if_true,if_false,ins,Nat.reduceLT]
 refine X2 ?_;refine X0<|(X7 rfl (fun h8=>X9 ?_) (fun h8=>?_))
 · (try simp only[BN]at h8);have hlt:k<a.length:=by omega
   obtain⟨x,he,_⟩:=Xo hlt;obtain⟨y,hey,_⟩:=Xo (show k<b.length by omega);have hw1:=Xy hlt (by omega);have hk1:k+1≤a.length:=hlt;clear hlt h8;refine X0<|X3<|X0<|X1 ?_;refine X0<|(Q4 (by kernel_rfl) (by kernel_rfl) (by rfl) (by simp[*];rfl) ?_);refine(Xc rfl (fun h11=>?_) fun h11=>?_)
   · try simp only[BN]at h11
     have hz:res=false:=by
      rw[←hres,decide_eq_false_iff_not];intro h;subst h;rw[he]at hey;cases hey;simp at h11
     subst hz;refine X2 ?_;exact Xe
   (try simp only[BN]at h11);refine X1 ?_
   exact⟨k+1,⟨hk1,fun j hj=>by
    rcases Nat.lt_or_eq_of_le (Nat.le_of_lt_succ hj)with h|h
    · exact hall j h
    rw[h,he,hey];have:x=y:=by simpa using h11
    rw[this]⟩,by omega,X4 (fun n=>n) []⟩
 try simp only[BN]at h8
 have hz:res=true:=by
  rw[←hres,decide_eq_true_eq];exact eqG2 a b hle fun j hj=>hall j (by omega)
 subst hz;refine(Xf ?_);refine X2 ?_;exact Xe
end Go.Proofs.YtppjennamodfdaaGreat

namespace Go.Proofs.YtppjennamodfdaaGreat
open Go Go.Hl
def X45:List Int→Int→Nat→Int
 |[],_,_=>-1
 |y::l,x,k=>if x=y then k else X45 l x (k+1)
theorem X9M:∀(l:List Int) (x:Int) (k:Nat),x∈l→0≤X45 l x k
 |[],_,_,h=>by cases h
 | y::l,x,k,h=>by
   simp only[X45];split
   · omega
   rename_i hne;rcases List.mem_cons.1 h with h|h
   · exact absurd h hne
   exact X9M l x _ h
theorem XbL (l:List Int) (x:Int) (hl:l.length≤1000000000) (d:Nat):Con Tryz.prog 52 true [lI l,li x] (.v (li (X45 l x 0))) none d:=by
 obtain⟨res,hres⟩:∃r,X45 l x 0=r:=⟨_,rfl⟩;rw[hres];refine X5 Tryz.func52 ?_;simp only[Tryz.f52];refine X2 ?_;refine X0<|X0<|X1 ?_;refine X3<|(Xb [0,1,7] (fun(z:Nat)=>[(8,.v (li z))]) (fun z=>[]) (fun z=>z≤l.length∧X45 (l.drop z) x z=res) (fun z=>l.length - z) (0:Nat) ⟨Nat.zero_le _,hres⟩ ?_ ?_)
 · exact X4 (fun n=>n) []
 rintro k ⟨hk,hJ⟩;simp only[upS,X6,Xw]
 try simp only[X6,KN,Nat.reduceBEq,if_true,if_false,ins,Nat.reduceLT]
 clear hres;refine X2 ?_;refine X0<|(X7 rfl (fun h4=>X9 ?_) (fun h4=>?_))
 · (try simp only[BN]at h4);have hlt:k<l.length:=by omega
   obtain⟨b,he,hd⟩:=Xo hlt;have hw1:=Xy hlt (by omega);have hk1:k+1≤l.length:=hlt;rw[hd]at hJ;simp only[X45]at hJ;clear hlt h4 hd;refine X0<|X3<|X0<|X1 ?_;refine X2 ?_;refine(Xc rfl (fun h7=>?_) fun h7=>?_)
   · (try simp only[BN]at h7);rw[if_pos (by simpa using h7)]at hJ;subst hJ;refine X2 ?_;exact Xe
   (try simp only[BN]at h7);rw[if_neg (by simpa using h7)]at hJ;refine X1 ?_;exact⟨k+1,⟨hk1,hJ⟩,by omega,X4 (fun n=>n) []⟩
 (try simp only[BN]at h4);have hkl:k=l.length:=by omega
 rw[hkl,List.drop_length]at hJ;simp only[X45]at hJ;subst hJ;refine(Xf ?_);refine X2 ?_;exact Xe
theorem X88 (l:List Int) (x:Int) (hl:l.length≤1000000000) (d:Nat):Con Tryz.prog 18 true [lI l,li x] (.v (lb (decide (0≤X45 l x 0)))) none d:=by
 have ci:=XbL l x hl;obtain⟨res,hres⟩:∃r,X45 l x 0=r:=⟨_,rfl⟩;rw[hres]at ci⊢;clear hres;refine X5 Tryz.func18 ?_;simp only[Tryz.f18];refine X2 ?_;refine Xh [⟨true,.v (li res),none⟩] ?_ ?_
 · first|exact ci _|exact trivial|simpa[*]using ci _
 exact Xe
end Go.Proofs.YtppjennamodfdaaGreat
