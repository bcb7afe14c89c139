/- Part 3: contracts of functions of the program and of the reference, and plain facts about what they compute; used by the proof of the claimed statement. Conditions: as each theorem states. -/
import Derived.Test.YtdajceakaakdoaaGreatI1
import Derived.Test.YtdajceakaakdoaaGreatHmZI
import Derived.Test.YtdajceakaakdoaaGreatHmZJ
set_option linter.unusedSimpArgs false
set_option linter.unusedVariables false
set_option linter.unnecessarySimpa false
set_option maxRecDepth 100000
set_option maxHeartbeats 2000000
namespace Go.Proofs.YtdajceakaakdoaaGreat
open Go Go.Hl
abbrev Wm (rows:List (List CD)) (d:Int):List (Nat×Ob):=[(900001,.row 195 4 rows),(1000000,.box [.own 900001,.c (iC d)])]
theorem X19 {rows:List (List CD)} {d:Int}:∀n cs,lkp (Wm rows d) n=some (.box cs)→1000000≤n:=by
 intro n cs h;simp only[lkp]at h;split at h
 · cases h
 split at h
 · omega
 cases h
theorem X7z {rows:List (List CD)} {d:Int} {pv:Option Value}:∀v,pv=some v→∃cs,lkp (Wm rows d) 1000000=some (.box cs):=fun _ _=>⟨_,rfl⟩
abbrev atB:RV:=.v (.one (.at_ 1000000 0))
def nxB (v:Value) (rows rows':List (List CD)) (d k:Int) (m c:Nat) (x:RV) (R:List Nat):HS:=
 {trS ⟨⟨12,some v⟩,QL 0 [.one (.c (iC k)),.one (.c (.ptr [.lit v])),.one (.c (.ptr [iC m]))],[]⟩ [(0,4,x),(1,5,atB),(2,6,atB),(3,7,.v (.one (.own 900001))),(4,8,lit (.int .i64 m)),(5,9,lit (.int .i64 k)),(6,10,.v (.one (.el 900001 4 m 0))),(7,11,.v (.one (.el 900001 4 m c)))] R with objs:=if R.isEmpty then Wm rows' d else Wm rows d}
def stpB:List (List Nat×Nat):=[([0,1,2,3,4,5,6,7,8],0),([0,1,2,3,4,5,6,7,8],4),([0,1,2,3,4,5,6,7,8],5),([1,2,3,4,5,6,7,8],1),([1,2,3,4,5,6,7,8],4),([1,2,3,4,5,6,7,8],5),([0,1,2,3,5,6,7,8],0),([0,1,2,3,5,6,7,8],5),([0,1,2,3,4,6,7,8],0),([0,1,2,3,4,6,7,8],4),([2,3,4,5,6,7,8],2),([2,3,4,5,6,7,8],4),([2,3,4,5,6,7,8],5),([1,2,3,5,6,7,8],1),([1,2,3,5,6,7,8],5),([1,2,3,4,6,7,8],1),([1,2,3,4,6,7,8],4),([0,1,2,3,6,7,8],0),([3,4,5,6,7,8],3),([3,4,5,6,7,8],4),([3,4,5,6,7,8],5),([2,3,5,6,7,8],2),([2,3,5,6,7,8],5),([2,3,4,6,7,8],2),([2,3,4,6,7,8],4),([1,2,3,6,7,8],1),([4,5,6,7,8],4),([4,5,6,7,8],5),([3,5,6,7,8],3),([3,5,6,7,8],5),([3,4,6,7,8],3),([3,4,6,7,8],4),([2,3,6,7,8],2),([5,6,7,8],5),([4,6,7,8],4),([3,6,7,8],3),([6,7,8],6),([7,8],7),([8],8)]
theorem XbJ (v:Value) (rows:List (List CD)) (d k:Int) (m:Nat) (r:List CD) (hr:rows[m]? =some r) (hl:r.length=4):
  X1g Tryz.prog 228 (some v) (Wm rows d) [.one (.c (iC k)),.one (.c (.ptr [.lit v])),.one (.c (.ptr [iC m]))] (fun _:Unit=>True) (fun _=>.tup []) (fun _=>Wm (setRow rows m 2 [iC k]) d):=by
 have hin:inR rows m=true:=by simp[inR,(List.getElem?_eq_some_iff.1 hr).1]
 have hlen:m<rows.length:=(List.getElem?_eq_some_iff.1 hr).1;refine Qq Tryz.func228 rfl (by kernel_rfl) (Nat.le_of_ble_eq_true rfl) ?_ ?_ ?_
 · exact X19
 · intro v' h;exact⟨_,rfl⟩
 simp only[Tryz.f228];refine X6O (nxB v rows (setRow rows m 2 [iC k]) d k m 2 atB) stpB rfl (by kernel_rfl) (by kernel_rfl) (by kernel_rfl) rfl ?_ ?_
 · simp only[stpB,List.forall_mem_cons,List.not_mem_nil,false_implies,implies_true,and_true];refine⟨?_,?_,?_,?_,?_,?_,?_,?_,?_,?_,?_,?_,?_,?_,?_,?_,?_,?_,?_,?_,?_,?_,?_,?_,?_,?_,?_,?_,?_,?_,?_,?_,?_,?_,?_,?_,?_,?_,?_⟩
   all_goals first
    |(refine XX.evE rfl ?_;simp[evc,evs,nxB,trS,QL,ins,WI,Qj,hin,hlen];done)
    | (refine XX.evN (nxB v rows (setRow rows m 2 [iC k]) d k m 2 (.v (.one (.c (.lit v))))) rfl ?_ ?_
       · simp[evc,nxB,trS,QL,ins,WI,Qj]
       refine Xa2 (v:=v) (cs:=[.own 900001,.c (iC d)]) rfl rfl rfl ?_ ?_<;>simp[nxB,trS,QL,ins,Qj,Zb,pnR,pnC,pnO,pnL,lkp])
 refine⟨.inl rfl,(),trivial,_,le_refl _,⟨[],rfl,rfl⟩,?_⟩;intro n o h;simpa[nxB]using h
theorem Xa9 (v:Value) (rows:List (List CD)) (d k:Int) (m:Nat) (r:List CD) (hr:rows[m]? =some r) (hl:r.length=4):
  X1g Tryz.prog 265 (some v) (Wm rows d) [.one (.c (iC k)),.one (.c (.ptr [.lit v])),.one (.c (.ptr [iC m]))] (fun _:Unit=>True) (fun _=>.tup []) (fun _=>Wm (setRow rows m 3 [iC k]) d):=by
 have hin:inR rows m=true:=by simp[inR,(List.getElem?_eq_some_iff.1 hr).1]
 have hlen:m<rows.length:=(List.getElem?_eq_some_iff.1 hr).1;refine Qq Tryz.func265 rfl (by kernel_rfl) (Nat.le_of_ble_eq_true rfl) ?_ ?_ ?_
 · exact X19
 · intro v' h;exact⟨_,rfl⟩
 simp only[Tryz.f265];refine X6O (nxB v rows (setRow rows m 3 [iC k]) d k m 3 atB) stpB rfl (by kernel_rfl) (by kernel_rfl) (by kernel_rfl) rfl ?_ ?_
 · simp only[stpB,List.forall_mem_cons,List.not_mem_nil,false_implies,implies_true,and_true];refine⟨?_,?_,?_,?_,?_,?_,?_,?_,?_,?_,?_,?_,?_,?_,?_,?_,?_,?_,?_,?_,?_,?_,?_,?_,?_,?_,?_,?_,?_,?_,?_,?_,?_,?_,?_,?_,?_,?_,?_⟩
   all_goals first
    |(refine XX.evE rfl ?_;simp[evc,evs,nxB,trS,QL,ins,WI,Qj,hin,hlen];done)
    | (refine XX.evN (nxB v rows (setRow rows m 3 [iC k]) d k m 3 (.v (.one (.c (.lit v))))) rfl ?_ ?_
       · simp[evc,nxB,trS,QL,ins,WI,Qj]
       refine Xa2 (v:=v) (cs:=[.own 900001,.c (iC d)]) rfl rfl rfl ?_ ?_<;>simp[nxB,trS,QL,ins,Qj,Zb,pnR,pnC,pnO,pnL,lkp])
 refine⟨.inl rfl,(),trivial,_,le_refl _,⟨[],rfl,rfl⟩,?_⟩;intro n o h;simpa[nxB]using h
end Go.Proofs.YtdajceakaakdoaaGreat

namespace Go.Proofs.YtdajceakaakdoaaGreat
open Go Go.Hl
abbrev pV (b:Nat):Value:=.pointer (some ⟨b,0,none⟩)
abbrev nxC (b m:Nat):CD:=.fn 228 [.ptr [.lit (pV b)],.ptr [iC m]]
abbrev otC (b m:Nat):CD:=.fn 265 [.ptr [.lit (pV b)],.ptr [iC m]]
theorem X1C (b m:Nat) (d:Nat):Con Tryz.prog 189 false [.one (.c (.lit (pV b))),.one (.c (iC m))] (.v (.one (.c (nxC b m)))) none d:=by
 refine X5 Tryz.func189 ?_;simp only[Tryz.f189];refine X1 ?_;refine X1 ?_;exact XaJ (fun h=>⟨.inr rfl,h⟩) (regs:=[(4,.v (.one (.c (nxC b m))))]) (Xb0 (by simp[Zb,X1B,X1t,Zj,lkp])) (by simp;rfl) rfl
theorem X47 (b m:Nat) (d:Nat):Con Tryz.prog 251 false [.one (.c (.lit (pV b))),.one (.c (iC m))] (.v (.one (.c (otC b m)))) none d:=by
 refine X5 Tryz.func251 ?_;simp only[Tryz.f251];refine X1 ?_;refine X1 ?_;exact XaJ (fun h=>⟨.inr rfl,h⟩) (regs:=[(4,.v (.one (.c (otC b m))))]) (Xb0 (by simp[Zb,X1B,X1t,Zj,lkp])) (by simp;rfl) rfl
end Go.Proofs.YtdajceakaakdoaaGreat

namespace Go.Proofs.YtdajceakaakdoaaGreat
open Go Go.Hl
@[simp] theorem take_encV (l:List Vr) (i:Nat):(Xu l).take i=Xu (l.take i):=by simp[Xu]
@[simp] theorem encV_snoc (l:List Vr) (v:Vr):Xu (l++[v])=Xu l++[v.enc]:=by simp[Xu]
theorem X0L {α:Type} {l:List α} {k:Nat} {x:α} (h:l[k]? =some x):l.take (k+1)=l.take k++[x]:=by
 rw[List.take_add_one,h];rfl
theorem X2e (s:ByteArray) (d:Nat):Con Tryz.prog 50 true [sv s] (.v (lb (ZJ s))) none d:=by
 refine X5 Tryz.func50 ?_;simp only[Tryz.f50];refine X1 ?_;refine X0<|X0<|X2 ?_;refine(Xc rfl (fun h2=>?_) fun h2=>?_)
 · try simp only[BN]at h2
   have hz:ZJ s=false:=by
    unfold ZJ;rw[Bool.and_eq_false_iff,Bool.and_eq_false_iff];simp only[decide_eq_false_iff_not];omega
   refine X1 ?_;exact Xe
 (try simp only[BN]at h2);have h1:1≤s.size:=by omega
 have h40:s.size≤40:=by omega
 refine X0<|X0<|X2 ?_;refine X3<|(Xf [0] (fun(x:Nat)=>[(3,.v (li x))]) (fun x=>[]) (fun x=>x≤s.size∧∀j:Nat,j<x→X3S s j=true) (fun x=>s.size - x) (0:Nat) ⟨Nat.zero_le _,fun j hj=>absurd hj (Nat.not_lt_zero j)⟩ ?_ ?_)
 · exact X4 (fun n=>n) []
 rintro k ⟨hk,hall⟩;simp only[upS,X6,XB]
 try simp only[X6,KN,Nat.reduceBEq,if_true,if_false,ins,Nat.reduceLT]
 refine X0<|X0<|X2 ?_;refine(X7 rfl (fun h8=>Xb ?_) (fun h8=>?_))
 · (try simp only[BN]at h8);have hlt:k<s.size:=by omega
   obtain⟨b,hb⟩:=X6K hlt;have hw:=XE hlt (by omega);have hk1:k+1≤s.size:=hlt;clear hlt h8;refine X0<|X3<|X0<|X2 ?_;refine X1 ?_;refine X1 ?_;refine X1 ?_;refine(Xc rfl (fun h13=>?_) fun h13=>?_)
   · try simp only[BN]at h13
     have hbad:X3S s k=false:=by
      unfold X3S;rw[hb];simp only[Bool.or_eq_false_iff,Bool.and_eq_false_iff,decide_eq_false_iff_not];omega
     have hz:=X68 hk1 hbad;refine X1 ?_;exact Xe
   try simp only[BN]at h13
   have hgood:X3S s k=true:=by
    unfold X3S;rw[hb];simp only[Bool.or_eq_true,Bool.and_eq_true,decide_eq_true_eq];omega
   refine X2 ?_;exact⟨k+1,⟨by omega,fun j hj=>(Nat.lt_succ_iff_lt_or_eq.1 hj).elim (hall j) (fun e=>e▸hgood)⟩,by omega,X4 (fun n=>n) []⟩
 (try simp only[BN]at h8);have hz:=X5u h1 h40 (fun j hj=>hall j (by omega));refine(Xg ?_);refine X1 ?_;exact Xe
def sz (v:Vr):Int:=v.high - v.low+1
def prV:List Vr→Int→Int
 |[],n=>n
 |v::l,n=>if 4096<n*sz v then 4097 else prV l (n*sz v)
def spc (vars:List Vr) (kind:Int):Int:=prV (vars.filter fun v=>decide (v.kind=kind)) 1
def X1S (vars:List Vr):Prop:=∀v∈vars,v.low≤v.high∧-1048576≤v.low∧v.high≤1048576
theorem sz_in {vars:List Vr} (h:X1S vars) {v:Vr} (hv:v∈vars):1≤sz v∧sz v≤2097153:=by
 have:=h v hv;unfold sz;omega
theorem Xai {n s:Int} (h1:1≤n∧n≤4096) (h2:1≤s∧s≤2097153):1≤n*s∧n*s≤8589938688:=by
 have h3:n.natAbs*s.natAbs≤4096*2097153:=Nat.mul_le_mul (by omega) (by omega);have h4:1*1≤n.natAbs*s.natAbs:=Nat.mul_le_mul (by omega) (by omega);rw[←Int.natAbs_mul]at h3 h4;have h5:0≤n*s:=Int.mul_nonneg (by omega) (by omega);omega
theorem prV_in {vars:List Vr} (h:X1S vars):∀(l:List Vr) (n:Int),(∀v∈l,v∈vars)→1≤n∧n≤4096→1≤prV l n∧prV l n≤4097
 |[],n,_,hn=>by simp only[prV];omega
 | v::l,n,hl,hn=>by
   simp only[prV];have:=Xai hn (sz_in h (hl v (by simp)));split
   · omega
   exact prV_in h l _ (fun w hw=>hl w (List.mem_cons_of_mem _ hw)) (by omega)
theorem X2H (vars:List Vr) (kind:Int) (hv:X1S vars) (hl:vars.length≤1000000000) (d:Nat):Con Tryz.prog 95 true [lV vars,li kind] (.v (li (spc vars kind))) none d:=by
 obtain⟨res,hres⟩:∃r,spc vars kind=r:=⟨_,rfl⟩;rw[hres];unfold spc at hres;refine X5 Tryz.func95 ?_;simp only[Tryz.f95];refine X1 ?_;refine X1 ?_;refine X0<|X0<|X2 ?_;refine X3<|(Xf [0,1] (fun(x:Nat×Int)=>[(5,.v (li x.2)),(6,.v (li x.1))]) (fun x=>[]) (fun x=>x.1≤vars.length∧prV ((vars.drop x.1).filter fun v=>decide (v.kind=kind)) x.2=res∧1≤x.2∧x.2≤4096) (fun x=>vars.length - x.1) (0,1) ⟨Nat.zero_le _,hres,by decide,by decide⟩ ?_ ?_)
 · exact X4 (fun n=>n) []
 rintro⟨k,n⟩ ⟨hk,hJ,hn1,hn2⟩;simp only[upS,X6,XB]
 try simp only[X6,KN,Nat.reduceBEq,if_true,if_false,ins,Nat.reduceLT]
 simp only at hk hJ hn1 hn2;clear hres;refine X0<|X0<|X2 ?_;refine(X7 rfl (fun h5=>Xb ?_) (fun h5=>?_))
 · (try simp only[BN]at h5);have hlt:k<vars.length:=by omega
   obtain⟨v,he,hd⟩:=Xt hlt;have hw1:=XE hlt (by omega);have hk1:k+1≤vars.length:=hlt;have hmem:v∈vars:=List.mem_of_getElem? he;have hs:=sz_in hv hmem;have hm:=Xai ⟨hn1,hn2⟩ hs;have hb:=hv v hmem;have hw2:IntKind.i64.wrap (v.high - v.low)=v.high - v.low:=Xa (by omega) (by omega);have hw3:IntKind.i64.wrap (v.high - v.low+1)=sz v:=by rw[Xa (by omega) (by omega)];rfl
   have hw4:IntKind.i64.wrap (n*sz v)=n*sz v:=Xa (by omega) (by omega);rw[hd]at hJ;clear hlt h5 hv;refine X0<|X3<|X0<|X0<|X2 ?_;refine(Xc rfl (fun h7=>?_) fun h7=>?_)
   · (try simp only[BN]at h7);rw[List.filter_cons_of_neg (by simpa using h7)]at hJ;refine(Xg ?_);refine X2 ?_;exact⟨(k+1,n),⟨hk1,hJ,hn1,hn2⟩,by simp only;omega,X4 (fun n=>n) []⟩
   (try simp only[BN]at h7);rw[List.filter_cons_of_pos (by simpa using h7)]at hJ;simp only[prV]at hJ;refine X0<|(Qe (by kernel_rfl) (by kernel_rfl) (by rfl) (by simp[*];rfl) ?_);refine X1 ?_;refine(Xc rfl (fun h12=>?_) fun h12=>?_)
   · (try simp only[BN]at h12);rw[if_pos h12]at hJ;subst hJ;refine X1 ?_;exact Xe
   (try simp only[BN]at h12);rw[if_neg h12]at hJ;refine X2 ?_;exact⟨(k+1,n*sz v),⟨hk1,hJ,hm.1,by simp only;omega⟩,by simp only;omega,X4 (fun n=>n) []⟩
 (try simp only[BN]at h5);have hkl:k=vars.length:=by omega
 rw[hkl,List.drop_length]at hJ;simp only[List.filter_nil,prV]at hJ;refine(Xg ?_);refine X1 ?_;exact(Xh (fun h=>⟨.inr rfl,h⟩) _ (by simp[*];rfl) (by subst hJ;rfl) (by simp))
theorem X6R (v:Vr) (hv:-1048576≤v.low∧v.low≤v.high∧v.high≤1048576) (d:Nat):Con Tryz.prog 247 true [aV v] (.v (li (sz v))) none d:=by
 have hw2:IntKind.i64.wrap (v.high - v.low)=v.high - v.low:=Xa (by omega) (by omega);have hw3:IntKind.i64.wrap (v.high - v.low+1)=sz v:=by rw[Xa (by omega) (by omega)];rfl
 refine X5 Tryz.func247 ?_;simp only[Tryz.f247];refine X1 ?_;refine X1 ?_;exact Xe
def chR (vars:List Vr) (kind:Int):RV:=if spc vars kind≤4096 then .tup [.one (.c (.sl 5 (Xu (vars.filter fun v=>decide (v.kind=kind))))),li (spc vars kind),li 0] else .tup [.one (.c (.lit XW)),li 0,li 4]
theorem Xad (vars:List Vr) (kind:Int) (hkd:1≤kind∧kind≤3) (hv:X1S vars) (hl:vars.length≤1000000) (d:Nat):Con Tryz.prog 219 false [lV vars,li kind] (chR vars kind) none d:=by
 obtain⟨S,hS⟩:∃S,vars.filter (fun v=>decide (v.kind=kind))=S:=⟨_,rfl⟩;obtain⟨res,hres⟩:∃r,spc vars kind=r:=⟨_,rfl⟩;unfold chR;rw[hres,hS];unfold spc at hres;rw[hS]at hres;refine X5 Tryz.func219 ?_;simp only[Tryz.f219];refine X1 ?_;refine(XV [0,1] (fun(z:Unit)=>[]) (fun(z:Unit)=>[]) (fun(z:Unit)=>True) ?_ ?_)
 ·
  refine X1 ?_;refine X3<|(XV [0,1] (fun(z:Bool)=>[(14,.v (lb z))]) (fun(z:Bool)=>[]) (fun(z:Bool)=>z=true) ?_ ?_)
  ·
   refine X1 ?_;refine(X7 rfl (fun h5=>Xb ?_) (fun h5=>?_))
   · (try simp only[BN]at h5);exact⟨true,rfl,X4 (fun n=>n) []⟩
   (try simp only[BN]at h5);refine X1 ?_;refine(X7 rfl (fun h8=>Xb ?_) (fun h8=>?_))
   · (try simp only[BN]at h8);exact⟨true,rfl,X4 (fun n=>n) []⟩
   (try simp only[BN]at h8);refine X1 ?_;refine(X7 rfl (fun h11=>Xb ?_) (fun h11=>?_))
   · (try simp only[BN]at h11);exact⟨true,rfl,X4 (fun n=>n) []⟩
   (try simp only[BN]at h11);refine X2 ?_;have hz:decide (kind=3)=true:=by rw[decide_eq_true_eq];omega
   exact⟨true,rfl,X4 (fun n=>n) []⟩
  rintro _ rfl;simp only[upS,X6,XB]
  try simp only[X6,KN,Nat.reduceBEq,if_true,if_false,ins,Nat.reduceLT]
  refine(X7 rfl (fun h15=>Xb ?_) (fun h15=>?_))
  · (try simp only[BN]at h15);exact⟨(),trivial,X4 (fun n=>n) []⟩
  exact absurd h15 (by simp)
 rintro z hz;simp only[upS,X6,XB]
 try simp only[X6,KN,Nat.reduceBEq,if_true,if_false,ins,Nat.reduceLT]
 refine X1 ?_;refine X0<|X0<|X2 ?_;refine X3<|(Xf [1,19,20] (fun(x:Nat×List Vr)=>[(7,.v (.one (.own 1007))),(21,.v (li x.1))]) (fun x=>[(1007,.row 89 5 (Xu x.2))]) (fun x=>x.1≤vars.length∧x.2=(vars.take x.1).filter fun v=>decide (v.kind=kind)) (fun x=>vars.length - x.1) (0,[]) ⟨Nat.zero_le _,by simp⟩ ?_ ?_)
 · exact Xx (fun n=>n) [1007] rfl (by simp[upS,X6]) (by simp[upS,Xu]) (by simp[upS])
 rintro⟨k,acc⟩ ⟨hk,hJ⟩;simp only[upS,X6,XB]
 try simp only[X6,KN,Nat.reduceBEq,if_true,if_false,ins,Nat.reduceLT]
 simp only at hk hJ;replace hJ:=hJ.symm;refine X1 ?_;refine X0<|(X7 rfl (fun h23=>Xb ?_) (fun h23=>?_))
 · (try simp only[BN]at h23);have hlt:k<vars.length:=by omega
   obtain⟨v,he,hd⟩:=Xt hlt;have hw1:=XE hlt (by omega);have hk1:k+1≤vars.length:=hlt;have hmem:v∈vars:=List.mem_of_getElem? he;have hb:=hv v hmem;have ht:=X0L he;generalize hT:(vars.take k).filter (fun v=>decide (v.kind=kind))=T at hJ
   have hal:acc.length≤k:=by
    rw[←hJ,←hT];exact Nat.le_trans (List.length_filter_le _ _) (by rw[List.length_take];omega)
   have hroom:Wa (acc.length+1) 48:=Qc (by omega) (by omega);clear hlt h23 hv;refine X0<|X3<|X0<|X2 ?_;refine X0<|X0<|X2 ?_;refine(Xc rfl (fun h26=>?_) fun h26=>?_)
   · (try simp only[BN]at h26);have hf:(vars.take (k+1)).filter (fun v=>decide (v.kind=kind))=acc:=by rw[ht,List.filter_append,hT,hJ,List.filter_cons_of_neg (by simpa using h26)];simp
     clear hS;refine(Xg ?_);refine X2 ?_;exact⟨(k+1,acc),⟨hk1,hf.symm⟩,by simp only;omega,X4 (fun n=>n) []⟩
   (try simp only[BN]at h26);have hf:(vars.take (k+1)).filter (fun v=>decide (v.kind=kind))=acc++[v]:=by rw[ht,List.filter_append,hT,hJ,List.filter_cons_of_pos (by simpa using h26)];simp
   clear hS;refine X0<|X0<|X2 ?_;refine(Xc rfl (fun h30=>?_) fun h30=>?_)
   · exfalso;simp only[Bool.or_eq_true,decide_eq_true_eq]at h30;omega
   (try simp only[BN]at h30);refine X2 ?_;refine X2 ?_;exact⟨(k+1,acc++[v]),⟨hk1,hf.symm⟩,by simp only;omega,X4 (fun n=>if n=1007 then 47 else n) []⟩
 (try simp only[BN]at h23);have hkl:k=vars.length:=by omega
 rw[hkl,List.take_length,hS]at hJ;subst hJ;have hSl:S.length≤1000000:=by rw[←hS];exact Nat.le_trans (List.length_filter_le _ _) hl
 have hSv:∀v∈S,v.low≤v.high∧-1048576≤v.low∧v.high≤1048576:=fun v h=>hv v (by rw[←hS]at h;exact(List.mem_filter.1 h).1);clear hS hv hk hl h23 hkl;refine(Xg ?_);refine X1 ?_;refine X0<|X0<|X2 ?_;refine X3<|(Xf [7,49,50] (fun(x:Nat×Int)=>[(10,.v (li x.2)),(51,.v (li x.1))]) (fun x=>[(1007,.row 89 5 (Xu S))]) (fun x=>x.1≤S.length∧prV (S.drop x.1) x.2=res∧1≤x.2∧x.2≤4096) (fun x=>S.length - x.1) (0,1) ⟨Nat.zero_le _,hres,by decide,by decide⟩ ?_ ?_)
 · exact X4 (fun n=>n) []
 rintro⟨k2,n⟩ ⟨hk2,hJ,hn1,hn2⟩;simp only[upS,X6,XB]
 try simp only[X6,KN,Nat.reduceBEq,if_true,if_false,ins,Nat.reduceLT]
 simp only at hk2 hJ hn1 hn2;clear hres;refine X1 ?_;refine X0<|(X7 rfl (fun h40=>Xb ?_) (fun h40=>?_))
 · (try simp only[BN]at h40);have hlt:k2<S.length:=by omega
   obtain⟨v,he,hd⟩:=Xt hlt;have hw1:=XE hlt (by omega);have hk1:k2+1≤S.length:=hlt;have hb:=hSv v (List.mem_of_getElem? he);have hs:1≤sz v∧sz v≤2097153:=by unfold sz;omega
   have hm:=Xai ⟨hn1,hn2⟩ hs;have hw4:IntKind.i64.wrap (n*sz v)=n*sz v:=Xa (by omega) (by omega);rw[hd]at hJ;simp only[prV]at hJ;clear hlt h40;refine X0<|X3<|X0<|X2 ?_;refine Xm [⟨true,.v (li (sz v)),none⟩] ?_ ?_
   · first|exact X6R v ⟨hb.2.1,hb.1,hb.2.2⟩ _|exact trivial|simpa[*]using X6R v ⟨hb.2.1,hb.1,hb.2.2⟩ _
   refine X1 ?_;refine(Xc rfl (fun h44=>?_) fun h44=>?_)
   · (try simp only[BN]at h44);rw[if_pos h44]at hJ;subst hJ;refine X1 ?_;exact Qm ⟨.inr rfl,_,le_refl _,⟨⟨_,by simp;rfl,by simp[XK]⟩,by simp,fun h=>by cases h⟩⟩
   (try simp only[BN]at h44);rw[if_neg h44]at hJ;refine X2 ?_;exact⟨(k2+1,n*sz v),⟨hk1,hJ,hm.1,by simp only;omega⟩,by simp only;omega,X4 (fun n=>n) []⟩
 (try simp only[BN]at h40);have hkl:k2=S.length:=by omega
 rw[hkl,List.drop_length]at hJ;simp only[prV]at hJ;subst hJ;refine(Xg ?_);refine X1 ?_;exact Qm ⟨.inr rfl,_,QQ 1007 rfl,⟨⟨_,by simp;rfl,by simp[XK,hn2]⟩,by simp,fun h=>by cases h⟩⟩
theorem X9R (vars:List Vr) (kind:Int) (hkd:1≤kind∧kind≤3) (hv:X1S vars) (hl:vars.length≤1000000) (d:Nat):Con Tryz.prog 182 true [lV vars,li kind]
  (.tup [li (if spc vars kind≤4096 then spc vars kind else 0),li (if spc vars kind≤4096 then 0 else 4)]) none d:=by
 have c:=Xad vars kind hkd hv hl;unfold chR at c;obtain⟨res,hres⟩:∃r,spc vars kind=r:=⟨_,rfl⟩;rw[hres]at c⊢;clear hres;by_cases h:res≤4096
 · rw[if_pos h]at c;rw[if_pos h,if_pos h];refine X5 Tryz.func182 ?_;simp only[Tryz.f182];refine X1 ?_;refine Xm [⟨false,.tup [.one (.c (.sl 5 (Xu (vars.filter fun v=>decide (v.kind=kind))))),li res,li 0],none⟩] ?_ ?_
   · first|exact c _|exact trivial|simpa[*]using c _
   refine X1 ?_;exact Xe
 rw[if_neg h]at c;rw[if_neg h,if_neg h];refine X5 Tryz.func182 ?_;simp only[Tryz.f182];refine X1 ?_;refine Xm [⟨false,.tup [.one (.c (.lit XW)),li 0,li 4],none⟩] ?_ ?_
 · first|exact c _|exact trivial|simpa[*]using c _
 refine X1 ?_;exact Xe
end Go.Proofs.YtdajceakaakdoaaGreat

namespace Go.Proofs.YtdajceakaakdoaaGreat
open Go Go.Hl
theorem idxV_con (l:List Vr) (g:FuncId) (cap:List CD) (p:Vr→Bool) (hl:l.length≤1000000000) (hp:∀v∈l,∀d,Con Tryz.prog g true (aV v::cap.map fun c=>.one (.c c)) (.v (lb (p v))) none d) (d:Nat):
  ∃r:Int,(∀d,Con Tryz.prog 218 true [lV l,.one (.c (.fn g cap))] (.v (li r)) none d)∧(0≤r↔l.any p=true):=by
 let rec_:List Vr→Int→Int:=fun l k=>match l.findIdx? p with
  |some i=>k+i
  |none=>-1
 refine⟨(match l.findIdx? p with|some i=>(i:Int)|none=>-1),fun d=>?_,?_⟩
 · have hstep:∀k:Nat,(∀j:Nat,j<k→∀v,l[j]? =some v→p v=false)→∀v,l[k]? =some v→p v=true→l.findIdx? p=some k:=by
    intro k hno v hv hpv;rw[List.findIdx?_eq_some_iff_getElem];have hk:k<l.length:=(List.getElem?_eq_some_iff.1 hv).1;refine⟨hk,?_,fun j hj=>?_⟩
    · simp only[List.getElem?_eq_getElem hk,Option.some.injEq]at hv;rw[hv];exact hpv
    have:=hno j hj l[j] (by simp);simp[this]
   have hnone:(∀j:Nat,j<l.length→∀v,l[j]? =some v→p v=false)→l.findIdx? p=none:=by
    intro hno;rw[List.findIdx?_eq_none_iff];intro v hv;obtain⟨j,hj⟩:=List.mem_iff_getElem?.1 hv;exact hno j (List.getElem?_eq_some_iff.1 hj).1 v hj
   clear rec_;refine X5 Tryz.func218 ?_;simp only[Tryz.f218];refine X1 ?_;refine X0<|X0<|X2 ?_;refine X3<|(Xf [0,1,7] (fun(x:Nat)=>[(8,.v (li x))]) (fun x=>[]) (fun x=>x≤l.length∧∀j:Nat,j<x→∀v,l[j]? =some v→p v=false) (fun x=>l.length - x) (0:Nat) ⟨Nat.zero_le _,fun j hj=>absurd hj (Nat.not_lt_zero j)⟩ ?_ ?_)
   · exact X4 (fun n=>n) []
   rintro k ⟨hk,hJ⟩;simp only[upS,X6,XB]
   try simp only[X6,KN,Nat.reduceBEq,if_true,if_false,ins,Nat.reduceLT]
   refine X1 ?_;refine X0<|(X7 rfl (fun h4=>Xb ?_) (fun h4=>?_))
   · (try simp only[BN]at h4);have hlt:k<l.length:=by omega
     obtain⟨v,he,hd⟩:=Xt hlt;have hw1:=XE hlt (by omega);have hk1:k+1≤l.length:=hlt;have hpv:=hp v (List.mem_of_getElem? he);have hs:=hstep k hJ v he;clear hlt h4 hstep hnone hp;refine X0<|X3<|X0<|X2 ?_;refine Xm [⟨true,.v (lb (p v)),none⟩] ?_ ?_
     · first|exact hpv _|exact trivial|simpa[*]using hpv _
     refine(Xc rfl (fun h7=>?_) fun h7=>?_)
     · (try simp only[BN]at h7);rw[hs h7];refine X1 ?_;exact Xe
     (try simp only[BN]at h7);refine X2 ?_;exact⟨k+1,⟨hk1,fun j hj w hw=>(Nat.lt_succ_iff_lt_or_eq.1 hj).elim (fun h=>hJ j h w hw) (fun e=>by subst e;rw[he]at hw;cases hw;exact h7)⟩,by omega,X4 (fun n=>n) []⟩
   (try simp only[BN]at h4);rw[hnone fun j hj=>hJ j (by omega)];refine(Xg ?_);refine X1 ?_;exact Xe
 rw[List.any_eq];cases h:l.findIdx? p with
 | none=>
   rw[List.findIdx?_eq_none_iff]at h;simp only[decide_eq_true_eq];constructor
   · intro h;omega
   rintro⟨v,hv,hpv⟩;have:=h v hv;rw[hpv]at this;cases this
 | some i=>
   rw[List.findIdx?_eq_some_iff_getElem]at h;obtain⟨hi,hpi,_⟩:=h;simp only[decide_eq_true_eq];exact⟨fun _=>⟨l[i],List.getElem_mem _,hpi⟩,fun _=>by omega⟩
theorem X7Z (l:List Vr) (g:FuncId) (cap:List CD) (p:Vr→Bool) (hl:l.length≤1000000000) (hp:∀v∈l,∀d,Con Tryz.prog g true (aV v::cap.map fun c=>.one (.c c)) (.v (lb (p v))) none d) (d:Nat):
  Con Tryz.prog 180 true [lV l,.one (.c (.fn g cap))] (.v (lb (l.any p))) none d:=by
 obtain⟨r,hr,hi⟩:=idxV_con l g cap p hl hp 0;have hd:decide (0≤r)=l.any p:=by rw[Bool.eq_iff_iff,decide_eq_true_eq];exact hi
 clear hi hp;refine X5 Tryz.func180 ?_;simp only[Tryz.f180];refine X1 ?_;refine Xm [⟨true,.v (li r),none⟩] ?_ ?_
 · first|exact hr _|exact trivial|simpa[*]using hr _
 exact Xe
theorem X6x (w v:Vr) (d:Nat):Con Tryz.prog 178 true [aV w,.one (.c (.ptr v.enc))] (.v (lb (decide (w.name=v.name)))) none d:=by
 refine X5 Tryz.func178 ?_;simp only[Tryz.f178];refine X1 ?_;refine X1 ?_;exact Xe
end Go.Proofs.YtdajceakaakdoaaGreat

namespace Go.Proofs.YtdajceakaakdoaaGreat
open Go Go.Hl
theorem St.lists {P:List St→Prop} (h:∀l,(∀s∈l,P s.then_∧P s.else_)→P l):∀l,P l:=by
 have key:∀s:St,P s.then_∧P s.else_:=by
  intro s
  induction s using St.ind with
  |h d c v n t a b bs iha ihb=>exact⟨h a iha,h b ihb⟩
 exact fun l=>h l fun s _=>key s
theorem QT {l:List St} {s:St} (hs:s∈l):1+s.term.nodes+Xl s.then_+Xl s.else_≤Xl l:=by
 induction l with
 |nil=>cases hs
 | cons x l ih=>
   simp only[Xl];rcases List.mem_cons.1 hs with rfl|h
   · obtain⟨d,c,v,n,t,a,b,bs⟩:=s;simp only[St.nodes,St.term,St.then_,St.else_];omega
   have:=ih h;omega
def W3 (n lo hi:Int):Int:=if n<lo then lo else if hi<n then hi else n
theorem X6p (n lo hi:Int) (h:lo≤hi) (d:Nat):Con Tryz.prog 229 true [li n,li lo,li hi] (.v (li (W3 n lo hi))) none d:=by
 have hz:W3 n lo hi=if hi<(if n<lo then lo else n)then hi else(if n<lo then lo else n):=by
  unfold W3
  (repeat' split)<;>omega
 refine X5 Tryz.func229 ?_;simp only[Tryz.f229];refine X1 ?_;refine X1 ?_;exact Xe
theorem X4Y {n lo hi:Int} (h:lo≤hi):lo≤W3 n lo hi∧W3 n lo hi≤hi:=by
 unfold W3
 (repeat' split)<;>omega
def X3c (m c:Int):Int:=if 0<m then c else 0
mutual
def spS:St→Int×Int
 | .mk d c _ n (.mk o tn _) a b _=>
   if d=3 then(W3 c 0 67108865+mn (spL a (0,0)).1 (spL b (0,0)).1,W3 c 0 67108865+mx (spL a (0,0)).2 (spL b (0,0)).2)
   else if d=4 then
    (if o≠0 then(X3c (W3 n 0 4096) (W3 c 0 67108865),W3 n 0 4096*(W3 c 0 67108865+(spL a (0,0)).2))
     else if tn≠0 then(W3 n 0 4096*(W3 c 0 67108865+(spL a (0,0)).1),W3 n 0 4096*(W3 c 0 67108865+(spL a (0,0)).2))
     else(X3c (W3 n 0 4096) (W3 c 0 67108865),X3c (W3 n 0 4096) (W3 c 0 67108865)))
   else(W3 c 0 67108865,W3 c 0 67108865)
def spL:List St→Int×Int→Int×Int
 |[],p=>p
 |s::l,p=>spL l (mn (p.1+(spS s).1) 67108865,mn (p.2+(spS s).2) 67108865)
end
theorem mulT {m z:Int} (hm:0≤m∧m≤4096) (hz:0≤z∧z≤134217730):0≤m*z∧m*z≤549755822080:=by
 have h1:m.natAbs*z.natAbs≤4096*134217730:=Nat.mul_le_mul (by omega) (by omega);rw[←Int.natAbs_mul]at h1;have h2:=Int.mul_nonneg hm.1 hz.1;omega
def inT (p:Int×Int):Prop:=0≤p.1∧p.1≤67108865∧0≤p.2∧p.2≤67108865
def inU (p:Int×Int):Prop:=0≤p.1∧p.1≤549755822080∧0≤p.2∧p.2≤549755822080
theorem inT0:inT (0,0):=⟨by decide,by decide,by decide,by decide⟩
theorem Xaq {m c:Int} (hc:0≤c∧c≤67108865):0≤X3c m c∧X3c m c≤67108865:=by
 unfold X3c;split<;>omega
theorem mn_in {a:Int} (h:0≤a):0≤mn a 67108865∧mn a 67108865≤67108865:=by
 unfold mn;split<;>omega
mutual
theorem spS_in:∀s:St,inU (spS s)
 | .mk d c v n (.mk o tn ks) a b bs=>by
   have ha:=X5m a (0,0) inT0;have hb:=X5m b (0,0) inT0;have hc:=X4Y (n:=c) (lo:=0) (hi:=67108865) (by decide);have hn:=X4Y (n:=n) (lo:=0) (hi:=4096) (by decide);have ho:=Xaq (m:=W3 n 0 4096) hc;unfold inT at ha hb;have h1:=mulT hn (z:=W3 c 0 67108865+(spL a (0,0)).1) (by omega);have h2:=mulT hn (z:=W3 c 0 67108865+(spL a (0,0)).2) (by omega);unfold inU;simp only[spS];split
   · simp only[mn,mx]
     (repeat' split)<;>omega
   split
   · split
     · simp only;omega
     split
     · simp only;omega
     simp only;omega
   simp only;omega
theorem X5m:∀(l:List St) (p:Int×Int),inT p→inT (spL l p)
 |[],p,h=>h
 | s::l,p,h=>by
   have hs:=spS_in s;simp only[spL];refine X5m l _ ?_;unfold inT inU at*;have h1:=mn_in (a:=p.1+(spS s).1) (by omega);have h2:=mn_in (a:=p.2+(spS s).2) (by omega);simp only;omega
end
theorem XbB (l:List St):Xl l≤1000000000→∀d:Nat,Con Tryz.prog 192 true [lS l] (.tup [li (spL l (0,0)).1,li (spL l (0,0)).2]) none d:=by
 revert l
 apply St.lists;intro l ih hn d;have hlen:=Qx l;obtain⟨res,hres⟩:∃r,spL l (0,0)=r:=⟨_,rfl⟩;rw[hres];refine X5 Tryz.func192 ?_;simp only[Tryz.f192];refine X1 ?_;refine X0<|X0<|X2 ?_;refine X3<|(Xf [17,18] (fun(x:Nat×Int×Int)=>[(2,.v (li x.2.1)),(3,.v (li x.2.2)),(19,.v (li x.1))]) (fun x=>[]) (fun x=>x.1≤l.length∧spL (l.drop x.1) x.2=res∧inT x.2) (fun x=>l.length - x.1) (0,0,0) ⟨Nat.zero_le _,hres,inT0⟩ ?_ ?_)
 · exact X4 (fun n=>n) []
 rintro⟨k,m,q⟩ ⟨hk,hJ,hin⟩;simp only[upS,X6,XB]
 try simp only[X6,KN,Nat.reduceBEq,if_true,if_false,ins,Nat.reduceLT]
 simp only at hk hJ;unfold inT at hin;simp only at hin;clear hres;refine X1 ?_;refine X0<|(X7 rfl (fun h4=>Xb ?_) (fun h4=>?_))
 · (try simp only[BN]at h4);have hlt:k<l.length:=by omega
   obtain⟨s,he,hd⟩:=Xt hlt;have hmem:s∈l:=List.mem_of_getElem? he;have hnm:=QT hmem;have iha:=fun h=>(ih s hmem).1 h;have ihb:=fun h=>(ih s hmem).2 h;have hw1:=XE hlt (by omega);have hk1:k+1≤l.length:=hlt;rw[hd]at hJ;simp only[spL]at hJ;have hsin:=spS_in s;obtain⟨pq,hpq⟩:∃pq,spS s=pq:=⟨_,rfl⟩;rw[hpq]at hJ hsin;obtain⟨sd,sc,sv,sn,⟨so,stn,sks⟩,sa,sb,sbs⟩:=s;simp only[St.then_,St.else_,St.term]at iha ihb hnm;have ca:=iha (by omega);have cb:=ihb (by omega);have he':=Q5 he;simp only[St.enc,Tm.enc,List.cons_append,List.nil_append]at he';simp only[spS]at hpq;have hxa:=X5m sa (0,0) inT0;have hxb:=X5m sb (0,0) inT0;obtain⟨xa,hxa'⟩:∃x,spL sa (0,0)=x:=⟨_,rfl⟩;obtain⟨xb,hxb'⟩:∃x,spL sb (0,0)=x:=⟨_,rfl⟩;have hci:=X4Y (n:=sc) (lo:=0) (hi:=67108865) (by decide);have hni:=X4Y (n:=sn) (lo:=0) (hi:=4096) (by decide);obtain⟨cc,hcc⟩:∃x,W3 sc 0 67108865=x:=⟨_,rfl⟩;obtain⟨nn,hnn⟩:∃x,W3 sn 0 4096=x:=⟨_,rfl⟩;have c1:=X6p sc 0 67108865 (by decide);have c2:=X6p sn 0 4096 (by decide);rw[hxa']at ca hxa hpq;rw[hxb']at cb hxb hpq;rw[hcc]at c1 hci hpq;rw[hnn]at c2 hni hpq;unfold inT at hxa hxb;unfold inU at hsin;clear hlt h4 iha ihb ih hxa' hxb' hcc hnn hmem hnm hd he;refine X0<|X3<|X0<|X2 ?_;refine X0<|(QH [⟨true,.v (li cc),none⟩,⟨true,.v (li nn),none⟩] (by kernel_rfl) (by kernel_rfl) (by rfl) (by simp[*];first|exact⟨rfl,Iff.rfl⟩|exact⟨rfl,trivial⟩|rfl) ?_ ?_)
   · first|exact⟨c1 _,c2 _⟩|exact trivial|(repeat' first|exact trivial|exact c1 _|exact c2 _|apply And.intro)
   refine X1 ?_;refine(XV [2,3,17,18,19] (fun(z:Unit)=>[(8,.v (li pq.1)),(9,.v (li pq.2))]) (fun(z:Unit)=>[]) (fun(z:Unit)=>True) ?_ ?_)
   ·
    refine X1 ?_;refine X3<|X0<|X2 ?_;refine(X7 rfl (fun h11=>?_) (fun h11=>?_))
    · (try simp only[BN]at h11);rw[if_pos h11]at hpq;subst hpq;have hmn:(if xb.1<xa.1 then xb.1 else xa.1)=mn xa.1 xb.1:=rfl;have hmx:(if xa.2<xb.2 then xb.2 else xa.2)=mx xa.2 xb.2:=rfl;have hw2:IntKind.i64.wrap (cc+mn xa.1 xb.1)=cc+mn xa.1 xb.1:=Xa (by simp only at hsin;omega) (by simp only at hsin;omega);have hw3:IntKind.i64.wrap (cc+mx xa.2 xb.2)=cc+mx xa.2 xb.2:=Xa (by simp only at hsin;omega) (by simp only at hsin;omega);clear hsin;refine Xm [⟨true,.tup [li xa.1,li xa.2],none⟩] ?_ ?_
      · first|exact ca _|exact trivial|simpa[*]using ca _
      refine Xm [⟨true,.tup [li xb.1,li xb.2],none⟩] ?_ ?_
      · first|exact cb _|exact trivial|simpa[*]using cb _
      refine X2 ?_;exact⟨(),trivial,X4 (fun n=>n) []⟩
    (try simp only[BN]at h11);rw[if_neg h11]at hpq;refine X1 ?_;refine(Xc rfl (fun h17=>?_) fun h17=>?_)
    · (try simp only[BN]at h17);rw[if_pos h17]at hpq
      have hon:IntKind.i64.wrap ((if 1<nn then 1 else nn)*cc)=X3c nn cc:=by
       have:(if 1<nn then 1 else nn)*cc=X3c nn cc:=by
        unfold X3c;by_cases h:0<nn
        · rw[if_pos h];have:(if 1<nn then 1 else nn)=1:=by split<;>omega
          rw[this,Int.one_mul]
        rw[if_neg h];have:(if 1<nn then 1 else nn)=0:=by split<;>omega
        rw[this,Int.zero_mul]
       rw[this];have:=Xaq (m:=nn) hci;exact Xa (by omega) (by omega)
      have hm1:=mulT hni (z:=cc+xa.1) (by omega);have hm2:=mulT hni (z:=cc+xa.2) (by omega);have hw2:IntKind.i64.wrap (cc+xa.1)=cc+xa.1:=Xa (by omega) (by omega);have hw3:IntKind.i64.wrap (cc+xa.2)=cc+xa.2:=Xa (by omega) (by omega);have hw4:IntKind.i64.wrap (nn*(cc+xa.1))=nn*(cc+xa.1):=Xa (by omega) (by omega);have hw5:IntKind.i64.wrap (nn*(cc+xa.2))=nn*(cc+xa.2):=Xa (by omega) (by omega);clear hm1 hm2;refine Xm [⟨true,.tup [li xa.1,li xa.2],none⟩] ?_ ?_
      · first|exact ca _|exact trivial|simpa[*]using ca _
      refine X1 ?_;refine X3<|X0<|X2 ?_;refine(X7 rfl (fun h21=>?_) (fun h21=>?_))
      · (try simp only[BN]at h21);rw[if_pos h21]at hpq;subst hpq;refine X2 ?_;exact⟨(),trivial,X4 (fun n=>n) []⟩
      (try simp only[BN]at h21);rw[if_neg (fun h=>h h21)]at hpq;refine X1 ?_;refine(X7 rfl (fun h25=>?_) (fun h25=>?_))
      · (try simp only[BN]at h25);rw[if_pos h25]at hpq;subst hpq;refine X2 ?_;exact⟨(),trivial,X4 (fun n=>n) []⟩
      (try simp only[BN]at h25);rw[if_neg (fun h=>h h25)]at hpq;subst hpq;refine X2 ?_;exact⟨(),trivial,X4 (fun n=>n) []⟩
    (try simp only[BN]at h17);rw[if_neg h17]at hpq;subst hpq;exact⟨(),trivial,X4 (fun n=>n) []⟩
   rintro z hz;simp only[upS,X6,XB]
   try simp only[X6,KN,Nat.reduceBEq,if_true,if_false,ins,Nat.reduceLT]
   clear hpq ca cb c1 c2 hci hni hxa hxb;have hw2:IntKind.i64.wrap (m+pq.1)=m+pq.1:=Xa (by omega) (by omega);have hw3:IntKind.i64.wrap (q+pq.2)=q+pq.2:=Xa (by omega) (by omega);have hm1:=mn_in (a:=m+pq.1) (by omega);have hm2:=mn_in (a:=q+pq.2) (by omega);have hmn1:(if 67108865<m+pq.1 then 67108865 else m+pq.1)=mn (m+pq.1) 67108865:=rfl;have hmn2:(if 67108865<q+pq.2 then 67108865 else q+pq.2)=mn (q+pq.2) 67108865:=rfl;refine X2 ?_;refine X2 ?_;exact⟨(k+1,mn (m+pq.1) 67108865,mn (q+pq.2) 67108865),⟨hk1,hJ,hm1.1,hm1.2,hm2.1,hm2.2⟩,by simp only;omega,X4 (fun n=>n) []⟩
 (try simp only[BN]at h4);have hkl:k=l.length:=by omega
 rw[hkl,List.drop_length]at hJ;simp only[spL]at hJ;subst hJ;refine(Xg ?_);refine X1 ?_;exact Xe
end Go.Proofs.YtdajceakaakdoaaGreat

namespace Go.Proofs.YtdajceakaakdoaaGreat
open Go Go.Hl
def X2m (l:List Int) (i:Nat):Bool:=
 match l[i]?,l[i+1]? with
 |some a,some b=>decide (a<b)
 |_,_=>true
def X4c (l:List Int):Bool:=(List.range l.length).all (X2m l)
theorem XaE {l:List Int} {i:Nat} (hi:i<l.length) (h:X2m l i=false):X4c l=false:=by
 unfold X4c;rw[List.all_eq_false];exact⟨i,by simpa using hi,by simp[h]⟩
theorem X9i {l:List Int} (h:∀i:Nat,i+1<l.length→X2m l i=true):X4c l=true:=by
 unfold X4c;rw[List.all_eq_true];intro i hi;simp only[List.mem_range]at hi;by_cases h2:i+1<l.length
 · exact h i h2
 unfold X2m;rw[List.getElem?_eq_none (i:=i+1) (by omega)];cases l[i]? <;>rfl
theorem X6l {l:List Int} {k:Nat} (h:k<l.length):∃b,l[k]? =some b:=⟨l[k],by simp[h]⟩
theorem X8h (l:List Int) (hl:l.length≤1000000000) (d:Nat):Con Tryz.prog 226 true [lI l] (.v (lb (X4c l))) none d:=by
 refine X5 Tryz.func226 ?_;simp only[Tryz.f226];refine X1 ?_;refine X0<|X0<|X2 ?_;refine X3<|(Xf [0,5] (fun(x:Nat)=>[(6,.v (li x))]) (fun x=>[]) (fun x=>x≤l.length∧∀j:Nat,j+1<x→X2m l j=true) (fun x=>l.length - x) (0:Nat) ⟨Nat.zero_le _,fun j hj=>absurd hj (by omega)⟩ ?_ ?_)
 · exact X4 (fun n=>n) []
 rintro k ⟨hk,hJ⟩;simp only[upS,X6,XB]
 try simp only[X6,KN,Nat.reduceBEq,if_true,if_false,ins,Nat.reduceLT]
 refine X1 ?_;refine X0<|(X7 rfl (fun h4=>Xb ?_) (fun h4=>?_))
 · (try simp only[BN]at h4);have hlt:k<l.length:=by omega
   obtain⟨b,hb⟩:=X6l hlt;have hw:=XE hlt hl;have hk1:k+1≤l.length:=hlt;have hk9:k≤1000000000:=by omega
   clear hlt h4;refine X0<|X3<|X0<|X2 ?_;rcases k with _|j
   · have hw1:IntKind.i64.wrap 1=1:=Xa (by omega) (by omega);refine X0<|(Qe (by kernel_rfl) (by kernel_rfl) (by rfl) (by simp[*];rfl) ?_);refine(Xc rfl (fun h7=>?_) fun h7=>?_)
     · exact absurd h7 (by simp)
     (try simp only[BN]at h7);refine X2 ?_;exact⟨1,⟨hk1,fun j hj=>absurd hj (by omega)⟩,by omega,X4 (fun n=>n) []⟩
   have hw1:IntKind.i64.wrap ((j:Int)+1+1)=(j:Int)+1+1:=Xa (by omega) (by omega);obtain⟨a,ha⟩:=X6l (show j<l.length by omega);have hwj:IntKind.i64.wrap (j:Int)=j:=Xa (by omega) (by omega);have hri:X2m l j=decide (a<b):=by unfold X2m;rw[ha,hb]
   have hj0:(0:Int)<(j:Int)+1:=by omega
   have hj1:0≤(j:Int)+1:=by omega
   have hj2:((j:Int)+1).toNat=j+1:=by omega
   refine X0<|(Qe (by kernel_rfl) (by kernel_rfl) (by rfl) (by simp[*];rfl) ?_);refine(Xc rfl (fun h7=>?_) fun h7=>?_)
   · (try simp only[BN]at h7);have hz:X4c l=false:=XaE (i:=j) (by omega) (by rw[hri];simpa using h7);refine X1 ?_;exact Xe
   (try simp only[BN]at h7);refine X2 ?_
   exact⟨j+1+1,⟨hk1,fun i hi=>by
    rcases Nat.lt_or_eq_of_le (Nat.le_of_lt_succ hi)with h|h
    · exact hJ i (by omega)
    have:i=j:=by omega
    rw[this,hri]
    simpa using h7⟩,by omega,X4 (fun n=>n) []⟩
 (try simp only[BN]at h4);have hz:X4c l=true:=X9i fun i hi=>hJ i (by omega);refine(Xg ?_);refine X1 ?_;exact Xe
def X4y (l:List Int):Bool:=
 match l[0]? with
 |some b=>decide (0≤b)
 |none=>false
def ZA (l:List Int):Bool:=(decide (1≤l.length)&&(decide (l.length≤32)&&X4y l))&&X4c l
theorem X9M (l:List Int):l=[]∨∃b0,l[0]? =some b0:=by
 cases l with
 |nil=>exact .inl rfl
 |cons b r=>exact .inr ⟨b,rfl⟩
theorem X9c (l:List Int) (hl:l.length≤1000000000) (d:Nat):Con Tryz.prog 164 true [lI l] (.v (lb (ZA l))) none d:=by
 obtain⟨res,hres⟩:∃r,ZA l=r:=⟨_,rfl⟩;rw[hres];refine X5 Tryz.func164 ?_;simp only[Tryz.f164];refine X1 ?_;rcases X9M l with h0|⟨b0,hb0⟩
 · subst h0;replace hres:false=res:=hres;refine X0<|X0<|X2 ?_;refine(Xc rfl (fun h2=>?_) fun h2=>?_)
   · (try simp only[BN]at h2);subst hres;refine X1 ?_;exact Xe
   exact absurd h2 (by simp)
 have hh:X4y l=decide (0≤b0):=by unfold X4y;rw[hb0]
 have hpos:1≤l.length:=(List.getElem?_eq_some_iff.1 hb0).1;refine X0<|X0<|X2 ?_;refine(Xc rfl (fun h2=>?_) fun h2=>?_)
 · try simp only[BN]at h2
   have hz:ZA l=false:=by
    unfold ZA;rw[hh];simp only[Bool.and_eq_false_iff,decide_eq_false_iff_not];omega
   rw[hz]at hres;subst hres;refine X1 ?_;exact Xe
 try simp only[BN]at h2
 have hz:ZA l=X4c l:=by
  unfold ZA;rw[hh];rw[decide_eq_true (by omega),decide_eq_true (by omega),decide_eq_true (by omega)];rfl
 rw[hz]at hres;have hl32:l.length≤32:=by omega
 clear hz hh h2 hb0;refine X0<|X0<|X2 ?_;refine X3<|(Xf [0] (fun(x:Nat)=>[(3,.v (li ((x:Int)+1)))]) (fun x=>[]) (fun x=>x+1≤l.length∧∀j:Nat,j<x→X2m l j=true) (fun x=>l.length - x) (0:Nat) ⟨hpos,fun j hj=>absurd hj (Nat.not_lt_zero j)⟩ ?_ ?_)
 · exact X4 (fun n=>n) []
 rintro k ⟨hk,hJ⟩;simp only[upS,X6,XB]
 try simp only[X6,KN,Nat.reduceBEq,if_true,if_false,ins,Nat.reduceLT]
 refine X0<|X0<|X2 ?_;refine(X7 rfl (fun h8=>Xb ?_) (fun h8=>?_))
 · (try simp only[BN]at h8);have hlt:k+1<l.length:=by omega
   obtain⟨b,hb⟩:=X6l hlt;obtain⟨a,ha⟩:=X6l (show k<l.length by omega);have hw:IntKind.i64.wrap ((k:Int)+1+1)=(k:Int)+1+1:=Xa (by omega) (by omega);have hwj:IntKind.i64.wrap (k:Int)=k:=Xa (by omega) (by omega);have hri:X2m l k=decide (a<b):=by unfold X2m;rw[ha,hb]
   have hj1:0≤(k:Int)+1:=by omega
   have hj2:((k:Int)+1).toNat=k+1:=by omega
   have hk1:k+1+1≤l.length:=hlt;clear hlt h8;refine X0<|X3<|X0<|(Qe (by kernel_rfl) (by kernel_rfl) (by rfl) (by simp[*];rfl) ?_);refine(Xc rfl (fun h10=>?_) fun h10=>?_)
   · (try simp only[BN]at h10);have hz:X4c l=false:=XaE (i:=k) (by omega) (by rw[hri];simpa using h10);refine X1 ?_;exact Xe
   (try simp only[BN]at h10);refine X2 ?_
   exact⟨k+1,⟨hk1,fun i hi=>by
    rcases Nat.lt_or_eq_of_le (Nat.le_of_lt_succ hi)with h|h
    · exact hJ i h
    rw[h,hri]
    simpa using h10⟩,by omega,X4 (fun n=>n) []⟩
 (try simp only[BN]at h8);have hz:X4c l=true:=X9i fun i hi=>hJ i (by omega);refine(Xg ?_);refine X1 ?_;exact Xe
end Go.Proofs.YtdajceakaakdoaaGreat

namespace Go.Proofs.YtdajceakaakdoaaGreat
open Go Go.Hl
def WA:Tm→Bool
 | .mk o n ks=>decide (o=0)&&(decide (n=0)&&decide (ks.length=0))
theorem X9w (t:Tm) (d:Nat):Con Tryz.prog 163 true [aT t] (.v (lb (WA t))) none d:=by
 obtain⟨o,n,ks⟩:=t;refine X5 Tryz.func163 ?_;simp only[Tryz.f163];simp only[aT,Tm.enc];refine X1 ?_;refine X1 ?_;exact(Xh (fun h=>⟨.inr rfl,h⟩) _ (by simp[*];rfl) (by first|rfl|(simp[*,WA,Bool.and_assoc];done)|(simp only[XK,WA,Bool.and_assoc];(repeat' split)<;>first|rfl|(exfalso;omega)|simp_all)) (by simp))
theorem Xaj (t:Tm) (d:Nat):Con Tryz.prog 225 true [aT t] (.v (lb (WA t))) none d:=by
 obtain⟨o,n,ks⟩:=t;refine X5 Tryz.func225 ?_;simp only[Tryz.f225];simp only[aT,Tm.enc];refine X1 ?_;refine X1 ?_;exact(Xh (fun h=>⟨.inr rfl,h⟩) _ (by simp[*];rfl) (by first|rfl|(simp[*,WA,Bool.and_assoc];done)|(simp only[XK,WA,Bool.and_assoc];(repeat' split)<;>first|rfl|(exfalso;omega)|simp_all)) (by simp))
def uVB (d:Int):Bool:=decide (d=0)||decide (d=5)
def uNB (d:Int):Bool:=decide (d=4)||decide (d=5)
def uTB (d:Int):Bool:=decide (d=0)||(decide (d=1)||(decide (d=3)||decide (d=4)))
theorem uV_con (a:Int) (d:Nat):Con Tryz.prog 222 true [li a] (.v (lb (uVB a))) none d:=by
 refine X5 Tryz.func222 ?_;simp only[Tryz.f222];refine X1 ?_;refine X1 ?_;exact(Xh (fun h=>⟨.inr rfl,h⟩) _ (by simp[*];rfl) (by first|rfl|(simp[*,uVB];done)|(simp only[XK,uVB];(repeat' split)<;>first|rfl|(exfalso;omega)|simp_all)) (by simp))
theorem uN_con (a:Int) (d:Nat):Con Tryz.prog 223 true [li a] (.v (lb (uNB a))) none d:=by
 refine X5 Tryz.func223 ?_;simp only[Tryz.f223];refine X1 ?_;refine X1 ?_;exact(Xh (fun h=>⟨.inr rfl,h⟩) _ (by simp[*];rfl) (by first|rfl|(simp[*,uNB];done)|(simp only[XK,uNB];(repeat' split)<;>first|rfl|(exfalso;omega)|simp_all)) (by simp))
theorem uT_con (a:Int) (d:Nat):Con Tryz.prog 224 true [li a] (.v (lb (uTB a))) none d:=by
 refine X5 Tryz.func224 ?_;simp only[Tryz.f224];refine X1 ?_;refine X1 ?_;exact(Xh (fun h=>⟨.inr rfl,h⟩) _ (by simp[*];rfl) (by first|rfl|(simp[*,uTB,Bool.or_assoc];done)|(simp only[XK,uTB,Bool.or_assoc];(repeat' split)<;>first|rfl|(exfalso;omega)|simp_all)) (by simp))
def QR (vars:List Vr) (v:Int):Bool:=decide (0≤v)&&(match vars[v.toNat]? with|some w=>decide (w.kind=0)|none=>false)
def shB (vars:List Vr) (nh:Nat) (d v n:Int) (t:Tm) (la lb_:Nat) (bs:List Int) (last:Bool):Bool:=
 if d=0 then((decide (la=0)&&decide (lb_=0))&&QR vars v&&decide (n=0))&&decide (bs.length=0)
 else if d=1 then((decide (la=0)&&decide (lb_=0))&&decide (v=0)&&decide (n=0))&&decide (bs.length=0)
 else if d=2 then(((decide (la=0)&&decide (lb_=0))&&decide (v=0)&&decide (n=0))&&decide (bs.length=0))&&WA t
 else if d=3 then(decide (v=0)&&decide (n=0))&&decide (bs.length=0)
 else if d=4 then(decide (v=0)&&decide (lb_=0))&&decide (bs.length=0)
 else if d=5 then((((decide (la=0)&&decide (lb_=0))&&QR vars v&&decide (0≤n))&&decide (n<nh))&&decide (bs.length=0))&&WA t
 else if d=6 then((((decide (la=0)&&decide (lb_=0))&&last&&decide (v=0))&&decide (n=0))&&WA t)&&ZA bs
 else false
theorem X8F (f:Fl) (s:St) (last:Bool) (hv:f.vars.length≤1000000000) (hb:s.bounds.length≤1000000000) (e:Nat):
  Con Tryz.prog 98 true [aF f,aS s,lb last] (.v (lb (shB f.vars f.hats.length s.do_ s.var s.n s.term s.then_.length s.else_.length s.bounds last))) none e:=by
 obtain⟨vars,hats,body⟩:=f;obtain⟨d,c,v,n,t,a,b,bs⟩:=s;simp only[St.do_,St.var,St.n,St.term,St.then_,St.else_,St.bounds]at hb⊢;simp only at hv;have c1:=X9w t;have c2:=X9c bs hb;obtain⟨P,hP⟩:∃p,WA t=p:=⟨_,rfl⟩;obtain⟨R,hR⟩:∃p,ZA bs=p:=⟨_,rfl⟩;obtain⟨la,hla⟩:∃k,a.length=k:=⟨_,rfl⟩;obtain⟨lc,hlc⟩:∃k,b.length=k:=⟨_,rfl⟩;obtain⟨nb,hnb⟩:∃k,bs.length=k:=⟨_,rfl⟩;obtain⟨nv,hnv⟩:∃k,vars.length=k:=⟨_,rfl⟩;obtain⟨nh,hnh⟩:∃k,hats.length=k:=⟨_,rfl⟩;obtain⟨res,hres⟩:∃r,shB vars hats.length d v n t a.length b.length bs last=r:=⟨_,rfl⟩;rw[hres];simp only[shB,hP,hR,hla,hlc,hnb,hnh]at hres;rw[hP]at c1;rw[hR]at c2;obtain⟨o,tn,ks⟩:=t;clear hP hR;simp only[aT,Tm.enc,List.map_cons,List.map_nil]at c1;refine X5 Tryz.func98 ?_;simp only[Tryz.f98];simp only[aF,aS,Fl.enc,St.enc,Tm.enc,List.map_cons,List.map_nil,List.cons_append,List.nil_append];refine X1 ?_;refine X1 ?_;refine XV [2,3,4,7] (fun(z:Bool)=>[(8,.v (lb z))]) (fun(z:Bool)=>[(3,.box [.c (.sl 5 (Xu vars)),.c (.sl 6 (Xv hats)),.c (.sl 10 (X8 body))]),(4,.box [.c (iC d),.c (iC c),.c (iC v),.c (iC n),.c (iC o),.c (iC tn),.c (.sl 3 (XI ks)),.c (.sl 10 (X8 a)),.c (.sl 10 (X8 b)),.c (.sl 1 (Xi bs))])]) (fun(z:Bool)=>z=QR vars v) ?_ ?_
 · by_cases h0:0≤v
   · by_cases h1:v<vars.length
     · obtain⟨w,hw⟩:=X3k ⟨h0,h1⟩;have h2:decide (v<(nv:Int))=true:=decide_eq_true (by omega);have hz:QR vars v=decide (w.kind=0):=by unfold QR;rw[hw];simp[h0]
       clear h1;refine Xq (by simp[*];rfl) ?_;exact⟨decide (w.kind=0),hz.symm,X4 (fun n=>n) []⟩
     have hw:=X0Q h0 h1;have h2:¬v<(nv:Int):=by omega
     have hz:QR vars v=false:=by unfold QR;rw[hw];simp
     clear h1;refine Xq (by simp[*];rfl) ?_;exact⟨false,hz.symm,X4 (fun n=>n) []⟩
   have hz:QR vars v=false:=by unfold QR;simp[h0]
   refine Xq (by simp[*];rfl) ?_;exact⟨false,hz.symm,X4 (fun n=>n) []⟩
 rintro LO hLO;simp only[upS,X6,XB]
 try simp only[X6,KN,Nat.reduceBEq,if_true,if_false,ins,Nat.reduceLT]
 rw[←hLO]at hres;clear hLO;refine X0<|X0<|X2 ?_;refine X3<|X0<|X2 ?_;refine(X7 rfl (fun h5=>?_) (fun h5=>?_))
 · (try simp only[BN]at h5);refine X1 ?_;exact(Xh (fun h=>⟨.inr rfl,h⟩) _ (by simp[*];rfl) (by rw[←hres];simp[*,XK,Bool.and_assoc]) (by simp))
 (try simp only[BN]at h5);refine X1 ?_;refine(X7 rfl (fun h9=>?_) (fun h9=>?_))
 · (try simp only[BN]at h9);refine X1 ?_;exact(Xh (fun h=>⟨.inr rfl,h⟩) _ (by simp[*];rfl) (by rw[←hres];simp[*,XK,Bool.and_assoc]) (by simp))
 (try simp only[BN]at h9);refine X1 ?_;refine(X7 rfl (fun h13=>?_) (fun h13=>?_))
 · (try simp only[BN]at h13);by_cases hg:(la=0∧lc=0)∧v=0∧n=0∧nb=0
   · obtain⟨⟨g1,g2⟩,g3,g4,g5⟩:=hg;refine Xm [⟨true,.v (lb P),none⟩] ?_ ?_
     · first|exact c1 _|exact trivial|simpa[*]using c1 _
     exact(Xh (fun h=>⟨.inr rfl,h⟩) _ (by simp[*];rfl) (by rw[←hres];simp[*,XK,Bool.and_assoc]) (by simp))
   have hgb:(decide (la=0)&&decide (lc=0)&&decide (v=0)&&decide (n=0)&&decide (nb=0))=false:=by simp only[Bool.and_eq_false_iff,decide_eq_false_iff_not];omega
   clear hg
   have hr:false=res:=by
    rw[←hres,if_neg h5,if_neg h9,if_pos h13];rw[hgb];rfl
   subst hr;refine X0<|(X0F [none] (by simp[*];first|exact⟨rfl,trivial⟩|exact⟨rfl,Iff.rfl⟩|rfl) ?_ ?_)
   · trivial
   exact(Xh (fun h=>⟨.inr rfl,h⟩) _ (by simp[*];rfl) (by rfl) (by simp))
 (try simp only[BN]at h13);refine X1 ?_;refine(X7 rfl (fun h17=>?_) (fun h17=>?_))
 · (try simp only[BN]at h17);refine X1 ?_;exact(Xh (fun h=>⟨.inr rfl,h⟩) _ (by simp[*];rfl) (by rw[←hres];simp[*,XK,Bool.and_assoc]) (by simp))
 (try simp only[BN]at h17);refine X1 ?_;refine(X7 rfl (fun h21=>?_) (fun h21=>?_))
 · (try simp only[BN]at h21);refine X1 ?_;exact(Xh (fun h=>⟨.inr rfl,h⟩) _ (by simp[*];rfl) (by rw[←hres];simp[*,XK,Bool.and_assoc]) (by simp))
 (try simp only[BN]at h21);refine X1 ?_;refine(X7 rfl (fun h25=>?_) (fun h25=>?_))
 · (try simp only[BN]at h25);by_cases hg:(la=0∧lc=0)∧LO=true∧0≤n∧n<nh∧nb=0
   · obtain⟨⟨g1,g2⟩,g3,g4,g5,g6⟩:=hg;refine Xm [⟨true,.v (lb P),none⟩] ?_ ?_
     · first|exact c1 _|exact trivial|simpa[*]using c1 _
     exact(Xh (fun h=>⟨.inr rfl,h⟩) _ (by simp[*];rfl) (by rw[←hres];simp[*,XK,Bool.and_assoc]) (by simp))
   have hgb:(decide (la=0)&&decide (lc=0)&&LO&&decide (0≤n)&&decide (n<(nh:Int))&&decide (nb=0))=false:=by
    cases LO
    · simp
    simp only[Bool.and_eq_false_iff,decide_eq_false_iff_not];simp only[true_and]at hg;omega
   clear hg
   have hr:false=res:=by
    rw[←hres,if_neg h5,if_neg h9,if_neg h13,if_neg h17,if_neg h21,if_pos h25];rw[hgb];rfl
   subst hr;refine X0<|(X0F [none] (by simp[*];first|exact⟨rfl,trivial⟩|exact⟨rfl,Iff.rfl⟩|rfl) ?_ ?_)
   · trivial
   exact(Xh (fun h=>⟨.inr rfl,h⟩) _ (by simp[*];rfl) (by rfl) (by simp))
 (try simp only[BN]at h25);refine X1 ?_;refine(Xc rfl (fun h29=>?_) fun h29=>?_)
 · (try simp only[BN]at h29);by_cases hg:(la=0∧lc=0)∧last=true∧v=0∧n=0
   · obtain⟨⟨g1,g2⟩,g3,g4,g5⟩:=hg;refine Xm [⟨true,.v (lb P),none⟩,⟨true,.v (lb R),none⟩] ?_ ?_
     · first|exact⟨c1 _,c2 _⟩|exact trivial|(repeat' first|exact trivial|exact c1 _|exact c2 _|apply And.intro)
     exact(Xh (fun h=>⟨.inr rfl,h⟩) _ (by simp[*];rfl) (by rw[←hres];simp[*,XK,Bool.and_assoc]) (by simp))
   have hgb:(decide (la=0)&&decide (lc=0)&&last&&decide (v=0)&&decide (n=0))=false:=by
    cases last
    · simp
    simp only[Bool.and_eq_false_iff,decide_eq_false_iff_not];simp only[true_and]at hg;omega
   clear hg
   have hr:false=res:=by
    rw[←hres,if_neg h5,if_neg h9,if_neg h13,if_neg h17,if_neg h21,if_neg h25,if_pos h29];rw[hgb];rfl
   subst hr;refine X0<|(X0F [none,none] (by simp[*];first|exact⟨rfl,trivial⟩|exact⟨rfl,Iff.rfl⟩|rfl) ?_ ?_)
   · trivial
   exact(Xh (fun h=>⟨.inr rfl,h⟩) _ (by simp[*];rfl) (by rfl) (by simp))
 (try simp only[BN]at h29);refine X1 ?_;exact(Xh (fun h=>⟨.inr rfl,h⟩) _ (by simp[*];rfl) (by rw[←hres];simp[*,XK,Bool.and_assoc]) (by simp))
end Go.Proofs.YtdajceakaakdoaaGreat
