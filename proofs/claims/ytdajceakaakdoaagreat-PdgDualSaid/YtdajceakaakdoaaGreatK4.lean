/- Part 4: contracts of functions of the program and of the reference, and plain facts about what they compute; used by the proof of the claimed statement. Conditions: as each theorem states. -/
import Derived.Test.YtdajceakaakdoaaGreatK1
set_option linter.unusedSimpArgs false
set_option linter.unusedVariables false
set_option linter.unnecessarySimpa false
set_option maxRecDepth 100000
set_option maxHeartbeats 2000000
namespace Go.Proofs.YtdajceakaakdoaaGreat
open Go Go.Hl
@[simp] theorem take_encV (l:List Vr) (i:Nat):(Xt l).take i=Xt (l.take i):=by simp[Xt]
@[simp] theorem encV_snoc (l:List Vr) (v:Vr):Xt (l++[v])=Xt l++[v.enc]:=by simp[Xt]
theorem X3J {α:Type} {l:List α} {k:Nat} {x:α} (h:l[k]? =some x):l.take (k+1)=l.take k++[x]:=by
 rw[List.take_add_one,h];rfl
def sz (v:Vr):Int:=v.high - v.low+1
def prV:List Vr→Int→Int
 |[],n=>n
 |v::l,n=>if 4096<n*sz v then 4097 else prV l (n*sz v)
def spc (vars:List Vr) (kind:Int):Int:=prV (vars.filter fun v=>decide (v.kind=kind)) 1
def X3a (vars:List Vr):Prop:=∀v∈vars,v.low≤v.high∧-1048576≤v.low∧v.high≤1048576
theorem sz_in {vars:List Vr} (h:X3a vars) {v:Vr} (hv:v∈vars):1≤sz v∧sz v≤2097153:=by
 have:=h v hv;unfold sz;omega
theorem mul_in {n s:Int} (h1:1≤n∧n≤4096) (h2:1≤s∧s≤2097153):1≤n*s∧n*s≤8589938688:=by
 have h3:n.natAbs*s.natAbs≤4096*2097153:=Nat.mul_le_mul (by omega) (by omega);have h4:1*1≤n.natAbs*s.natAbs:=Nat.mul_le_mul (by omega) (by omega);rw[←Int.natAbs_mul]at h3 h4;have h5:0≤n*s:=Int.mul_nonneg (by omega) (by omega);omega
theorem prV_in {vars:List Vr} (h:X3a vars):∀(l:List Vr) (n:Int),(∀v∈l,v∈vars)→1≤n∧n≤4096→1≤prV l n∧prV l n≤4097
 |[],n,_,hn=>by simp only[prV];omega
 | v::l,n,hl,hn=>by
   simp only[prV];have:=mul_in hn (sz_in h (hl v (by simp)));split
   · omega
   exact prV_in h l _ (fun w hw=>hl w (List.mem_cons_of_mem _ hw)) (by omega)
theorem X6a (v:Vr) (hv:-1048576≤v.low∧v.low≤v.high∧v.high≤1048576) (d:Nat):Con Tryz.prog 247 true [aV v] (.v (li (sz v))) none d:=by
 have hw2:IntKind.i64.wrap (v.high - v.low)=v.high - v.low:=Xc (by omega) (by omega);have hw3:IntKind.i64.wrap (v.high - v.low+1)=sz v:=by rw[Xc (by omega) (by omega)];rfl
 refine X4 Tryz.func247 ?_;simp only[Tryz.f247];refine X2 ?_;refine X2 ?_;exact Xf
def chR (vars:List Vr) (kind:Int):RV:=if spc vars kind≤4096 then .tup [.one (.c (.sl 5 (Xt (vars.filter fun v=>decide (v.kind=kind))))),li (spc vars kind),li 0] else .tup [.one (.c (.lit XO)),li 0,li 4]
theorem X8K (vars:List Vr) (kind:Int) (hkd:1≤kind∧kind≤3) (hv:X3a vars) (hl:vars.length≤1000000) (d:Nat):Con Tryz.prog 219 false [lV vars,li kind] (chR vars kind) none d:=by
 obtain⟨S,hS⟩:∃S,vars.filter (fun v=>decide (v.kind=kind))=S:=⟨_,rfl⟩;obtain⟨res,hres⟩:∃r,spc vars kind=r:=⟨_,rfl⟩;unfold chR;rw[hres,hS];unfold spc at hres;rw[hS]at hres;refine X4 Tryz.func219 ?_;simp only[Tryz.f219];refine X2 ?_;refine(Qe [0,1] (fun(z:Unit)=>[]) (fun(z:Unit)=>[]) (fun(z:Unit)=>True) ?_ ?_)
 ·
  refine X2 ?_;refine X3<|(Qe [0,1] (fun(z:Bool)=>[(14,.v (lb z))]) (fun(z:Bool)=>[]) (fun(z:Bool)=>z=true) ?_ ?_)
  ·
   refine X2 ?_;refine(X9 rfl (fun h5=>Xd ?_) (fun h5=>?_))
   · (try simp only[BN]at h5);exact⟨true,rfl,X5 (fun n=>n) []⟩
   (try simp only[BN]at h5);refine X2 ?_;refine(X9 rfl (fun h8=>Xd ?_) (fun h8=>?_))
   · (try simp only[BN]at h8);exact⟨true,rfl,X5 (fun n=>n) []⟩
   (try simp only[BN]at h8);refine X2 ?_;refine(X9 rfl (fun h11=>Xd ?_) (fun h11=>?_))
   · (try simp only[BN]at h11);exact⟨true,rfl,X5 (fun n=>n) []⟩
   (try simp only[BN]at h11);refine X1 ?_;have hz:decide (kind=3)=true:=by rw[decide_eq_true_eq];omega
   exact⟨true,rfl,X5 (fun n=>n) []⟩
  rintro _ rfl;simp only[upS,X6,XL]
  try simp only[X6,KN,Nat.reduceBEq,if_true,if_false,ins,Nat.reduceLT]
  refine(X9 rfl (fun h15=>Xd ?_) (fun h15=>?_))
  · (try simp only[BN]at h15);exact⟨(),trivial,X5 (fun n=>n) []⟩
  exact absurd h15 (by simp)
 rintro z hz;simp only[upS,X6,XL]
 try simp only[X6,KN,Nat.reduceBEq,if_true,if_false,ins,Nat.reduceLT]
 refine X2 ?_;refine X0<|X0<|X1 ?_;refine X3<|(Xe [1,19,20] (fun(x:Nat×List Vr)=>[(7,.v (.one (.own 1007))),(21,.v (li x.1))]) (fun x=>[(1007,.row 89 5 (Xt x.2))]) (fun x=>x.1≤vars.length∧x.2=(vars.take x.1).filter fun v=>decide (v.kind=kind)) (fun x=>vars.length - x.1) (0,[]) ⟨Nat.zero_le _,by simp⟩ ?_ ?_)
 · exact Xy (fun n=>n) [1007] rfl (by simp[upS,X6]) (by simp[upS,Xt]) (by simp[upS])
 rintro⟨k,acc⟩ ⟨hk,hJ⟩;simp only[upS,X6,XL]
 try simp only[X6,KN,Nat.reduceBEq,if_true,if_false,ins,Nat.reduceLT]
 simp only at hk hJ;replace hJ:=hJ.symm;refine X2 ?_;refine X0<|(X9 rfl (fun h23=>Xd ?_) (fun h23=>?_))
 · (try simp only[BN]at h23);have hlt:k<vars.length:=by omega
   obtain⟨v,he,hd⟩:=Xr hlt;have hw1:=XN hlt (by omega);have hk1:k+1≤vars.length:=hlt;have hmem:v∈vars:=List.mem_of_getElem? he;have hb:=hv v hmem;have ht:=X3J he;generalize hT:(vars.take k).filter (fun v=>decide (v.kind=kind))=T at hJ
   have hal:acc.length≤k:=by
    rw[←hJ,←hT];exact Nat.le_trans (List.length_filter_le _ _) (by rw[List.length_take];omega)
   have hroom:QV (acc.length+1) 48:=Qa (by omega) (by omega);clear hlt h23 hv;refine X0<|X3<|X0<|X1 ?_;refine X0<|X0<|X1 ?_;refine(Xb rfl (fun h26=>?_) fun h26=>?_)
   · (try simp only[BN]at h26);have hf:(vars.take (k+1)).filter (fun v=>decide (v.kind=kind))=acc:=by rw[ht,List.filter_append,hT,hJ,List.filter_cons_of_neg (by simpa using h26)];simp
     clear hS;refine(Xi ?_);refine X1 ?_;exact⟨(k+1,acc),⟨hk1,hf.symm⟩,by simp only;omega,X5 (fun n=>n) []⟩
   (try simp only[BN]at h26);have hf:(vars.take (k+1)).filter (fun v=>decide (v.kind=kind))=acc++[v]:=by rw[ht,List.filter_append,hT,hJ,List.filter_cons_of_pos (by simpa using h26)];simp
   clear hS;refine X0<|X0<|X1 ?_;refine(Xb rfl (fun h30=>?_) fun h30=>?_)
   · exfalso;simp only[Bool.or_eq_true,decide_eq_true_eq]at h30;omega
   (try simp only[BN]at h30);refine X1 ?_;refine X1 ?_;exact⟨(k+1,acc++[v]),⟨hk1,hf.symm⟩,by simp only;omega,X5 (fun n=>if n=1007 then 47 else n) []⟩
 (try simp only[BN]at h23);have hkl:k=vars.length:=by omega
 rw[hkl,List.take_length,hS]at hJ;subst hJ;have hSl:S.length≤1000000:=by rw[←hS];exact Nat.le_trans (List.length_filter_le _ _) hl
 have hSv:∀v∈S,v.low≤v.high∧-1048576≤v.low∧v.high≤1048576:=fun v h=>hv v (by rw[←hS]at h;exact(List.mem_filter.1 h).1);clear hS hv hk hl h23 hkl;refine(Xi ?_);refine X2 ?_;refine X0<|X0<|X1 ?_;refine X3<|(Xe [7,49,50] (fun(x:Nat×Int)=>[(10,.v (li x.2)),(51,.v (li x.1))]) (fun x=>[(1007,.row 89 5 (Xt S))]) (fun x=>x.1≤S.length∧prV (S.drop x.1) x.2=res∧1≤x.2∧x.2≤4096) (fun x=>S.length - x.1) (0,1) ⟨Nat.zero_le _,hres,by decide,by decide⟩ ?_ ?_)
 · exact X5 (fun n=>n) []
 rintro⟨k2,n⟩ ⟨hk2,hJ,hn1,hn2⟩;simp only[upS,X6,XL]
 try simp only[X6,KN,Nat.reduceBEq,if_true,if_false,ins,Nat.reduceLT]
 simp only at hk2 hJ hn1 hn2;clear hres;refine X2 ?_;refine X0<|(X9 rfl (fun h40=>Xd ?_) (fun h40=>?_))
 · (try simp only[BN]at h40);have hlt:k2<S.length:=by omega
   obtain⟨v,he,hd⟩:=Xr hlt;have hw1:=XN hlt (by omega);have hk1:k2+1≤S.length:=hlt;have hb:=hSv v (List.mem_of_getElem? he);have hs:1≤sz v∧sz v≤2097153:=by unfold sz;omega
   have hm:=mul_in ⟨hn1,hn2⟩ hs;have hw4:IntKind.i64.wrap (n*sz v)=n*sz v:=Xc (by omega) (by omega);rw[hd]at hJ;simp only[prV]at hJ;clear hlt h40;refine X0<|X3<|X0<|X1 ?_;refine Xp [⟨true,.v (li (sz v)),none⟩] ?_ ?_
   · first|exact X6a v ⟨hb.2.1,hb.1,hb.2.2⟩ _|exact trivial|simpa[*]using X6a v ⟨hb.2.1,hb.1,hb.2.2⟩ _
   refine X2 ?_;refine(Xb rfl (fun h44=>?_) fun h44=>?_)
   · (try simp only[BN]at h44);rw[if_pos h44]at hJ;subst hJ;refine X2 ?_;exact Qf ⟨.inr rfl,_,le_refl _,⟨⟨_,by simp;rfl,by simp[XY]⟩,by simp,fun h=>by cases h⟩⟩
   (try simp only[BN]at h44);rw[if_neg h44]at hJ;refine X1 ?_;exact⟨(k2+1,n*sz v),⟨hk1,hJ,hm.1,by simp only;omega⟩,by simp only;omega,X5 (fun n=>n) []⟩
 (try simp only[BN]at h40);have hkl:k2=S.length:=by omega
 rw[hkl,List.drop_length]at hJ;simp only[prV]at hJ;subst hJ;refine(Xi ?_);refine X2 ?_;exact Qf ⟨.inr rfl,_,Qr 1007 rfl,⟨⟨_,by simp;rfl,by simp[XY,hn2]⟩,by simp,fun h=>by cases h⟩⟩
theorem X9l (vars:List Vr) (kind:Int) (hkd:1≤kind∧kind≤3) (hv:X3a vars) (hl:vars.length≤1000000) (d:Nat):Con Tryz.prog 182 true [lV vars,li kind]
  (.tup [li (if spc vars kind≤4096 then spc vars kind else 0),li (if spc vars kind≤4096 then 0 else 4)]) none d:=by
 have c:=X8K vars kind hkd hv hl;unfold chR at c;obtain⟨res,hres⟩:∃r,spc vars kind=r:=⟨_,rfl⟩;rw[hres]at c⊢;clear hres;by_cases h:res≤4096
 · rw[if_pos h]at c;rw[if_pos h,if_pos h];refine X4 Tryz.func182 ?_;simp only[Tryz.f182];refine X2 ?_;refine Xp [⟨false,.tup [.one (.c (.sl 5 (Xt (vars.filter fun v=>decide (v.kind=kind))))),li res,li 0],none⟩] ?_ ?_
   · first|exact c _|exact trivial|simpa[*]using c _
   refine X2 ?_;exact Xf
 rw[if_neg h]at c;rw[if_neg h,if_neg h];refine X4 Tryz.func182 ?_;simp only[Tryz.f182];refine X2 ?_;refine Xp [⟨false,.tup [.one (.c (.lit XO)),li 0,li 4],none⟩] ?_ ?_
 · first|exact c _|exact trivial|simpa[*]using c _
 refine X2 ?_;exact Xf
end Go.Proofs.YtdajceakaakdoaaGreat

namespace Go.Proofs.YtdajceakaakdoaaGreat
open Go Go.Hl
theorem idxV_con (l:List Vr) (g:FuncId) (cap:List CD) (p:Vr→Bool) (hl:l.length≤1000000000) (hp:∀v∈l,∀d,Con Tryz.prog g true (aV v::cap.map fun c=>.one (.c c)) (.v (lb (p v))) none d) (d:Nat):
  ∃r:Int,(∀d,Con Tryz.prog 218 true [lV l,.one (.c (.fn g cap))] (.v (li r)) none d)∧(0≤r↔l.any p=true):=by
 let rec_:List Vr→Int→Int:=fun l k=>match l.findIdx? p with
  |some i=>k+i
  |none=>-1
 refine⟨(match l.findIdx? p with|some i=>(i:Int)|none=>-1),fun d=>?_,?_⟩
 · have hstep:∀k:Nat,(∀j:Nat,j<k→∀v,l[j]? =some v→p v=false)→∀v,l[k]? =some v→p v=true→l.findIdx? p=some k:=by
    intro k hno v hv hpv;rw[List.findIdx?_eq_some_iff_getElem];have hk:k<l.length:=(List.getElem?_eq_some_iff.1 hv).1;refine⟨hk,?_,fun j hj=>?_⟩
    · simp only[List.getElem?_eq_getElem hk,Option.some.injEq]at hv;rw[hv];exact hpv
    have:=hno j hj l[j] (by simp);simp[this]
   have hnone:(∀j:Nat,j<l.length→∀v,l[j]? =some v→p v=false)→l.findIdx? p=none:=by
    intro hno;rw[List.findIdx?_eq_none_iff];intro v hv;obtain⟨j,hj⟩:=List.mem_iff_getElem?.1 hv;exact hno j (List.getElem?_eq_some_iff.1 hj).1 v hj
   clear rec_;refine X4 Tryz.func218 ?_;simp only[Tryz.f218];refine X2 ?_;refine X0<|X0<|X1 ?_;refine X3<|(Xe [0,1,7] (fun(x:Nat)=>[(8,.v (li x))]) (fun x=>[]) (fun x=>x≤l.length∧∀j:Nat,j<x→∀v,l[j]? =some v→p v=false) (fun x=>l.length - x) (0:Nat) ⟨Nat.zero_le _,fun j hj=>absurd hj (Nat.not_lt_zero j)⟩ ?_ ?_)
   · exact X5 (fun n=>n) []
   rintro k ⟨hk,hJ⟩;simp only[upS,X6,XL]
   try simp only[X6,KN,Nat.reduceBEq,if_true,if_false,ins,Nat.reduceLT]
   refine X2 ?_;refine X0<|(X9 rfl (fun h4=>Xd ?_) (fun h4=>?_))
   · (try simp only[BN]at h4);have hlt:k<l.length:=by omega
     obtain⟨v,he,hd⟩:=Xr hlt;have hw1:=XN hlt (by omega);have hk1:k+1≤l.length:=hlt;have hpv:=hp v (List.mem_of_getElem? he);have hs:=hstep k hJ v he;clear hlt h4 hstep hnone hp;refine X0<|X3<|X0<|X1 ?_;refine Xp [⟨true,.v (lb (p v)),none⟩] ?_ ?_
     · first|exact hpv _|exact trivial|simpa[*]using hpv _
     refine(Xb rfl (fun h7=>?_) fun h7=>?_)
     · (try simp only[BN]at h7);rw[hs h7];refine X2 ?_;exact Xf
     (try simp only[BN]at h7);refine X1 ?_;exact⟨k+1,⟨hk1,fun j hj w hw=>(Nat.lt_succ_iff_lt_or_eq.1 hj).elim (fun h=>hJ j h w hw) (fun e=>by subst e;rw[he]at hw;cases hw;exact h7)⟩,by omega,X5 (fun n=>n) []⟩
   (try simp only[BN]at h4);rw[hnone fun j hj=>hJ j (by omega)];refine(Xi ?_);refine X2 ?_;exact Xf
 rw[List.any_eq];cases h:l.findIdx? p with
 | none=>
   rw[List.findIdx?_eq_none_iff]at h;simp only[decide_eq_true_eq];constructor
   · intro h;omega
   rintro⟨v,hv,hpv⟩;have:=h v hv;rw[hpv]at this;cases this
 | some i=>
   rw[List.findIdx?_eq_some_iff_getElem]at h;obtain⟨hi,hpi,_⟩:=h;simp only[decide_eq_true_eq];exact⟨fun _=>⟨l[i],List.getElem_mem _,hpi⟩,fun _=>by omega⟩
theorem X7r (l:List Vr) (g:FuncId) (cap:List CD) (p:Vr→Bool) (hl:l.length≤1000000000) (hp:∀v∈l,∀d,Con Tryz.prog g true (aV v::cap.map fun c=>.one (.c c)) (.v (lb (p v))) none d) (d:Nat):
  Con Tryz.prog 180 true [lV l,.one (.c (.fn g cap))] (.v (lb (l.any p))) none d:=by
 obtain⟨r,hr,hi⟩:=idxV_con l g cap p hl hp 0;have hd:decide (0≤r)=l.any p:=by rw[Bool.eq_iff_iff,decide_eq_true_eq];exact hi
 clear hi hp;refine X4 Tryz.func180 ?_;simp only[Tryz.f180];refine X2 ?_;refine Xp [⟨true,.v (li r),none⟩] ?_ ?_
 · first|exact hr _|exact trivial|simpa[*]using hr _
 exact Xf
theorem X5F (w v:Vr) (d:Nat):Con Tryz.prog 178 true [aV w,.one (.c (.ptr v.enc))] (.v (lb (decide (w.name=v.name)))) none d:=by
 refine X4 Tryz.func178 ?_;simp only[Tryz.f178];refine X2 ?_;refine X2 ?_;exact Xf
end Go.Proofs.YtdajceakaakdoaaGreat

namespace Go.Proofs.YtdajceakaakdoaaGreat
open Go Go.Hl
def X5s (l:List Int) (i:Nat):Bool:=
 match l[i]?,l[i+1]? with
 |some a,some b=>decide (a<b)
 |_,_=>true
def risB (l:List Int):Bool:=(List.range l.length).all (X5s l)
theorem ris_bad {l:List Int} {i:Nat} (hi:i<l.length) (h:X5s l i=false):risB l=false:=by
 unfold risB;rw[List.all_eq_false];exact⟨i,by simpa using hi,by simp[h]⟩
theorem ris_good {l:List Int} (h:∀i:Nat,i+1<l.length→X5s l i=true):risB l=true:=by
 unfold risB;rw[List.all_eq_true];intro i hi;simp only[List.mem_range]at hi;by_cases h2:i+1<l.length
 · exact h i h2
 unfold X5s;rw[List.getElem?_eq_none (i:=i+1) (by omega)];cases l[i]? <;>rfl
theorem get_I {l:List Int} {k:Nat} (h:k<l.length):∃b,l[k]? =some b:=⟨l[k],by simp[h]⟩
theorem X7f (l:List Int) (hl:l.length≤1000000000) (d:Nat):Con Tryz.prog 226 true [lI l] (.v (lb (risB l))) none d:=by
 refine X4 Tryz.func226 ?_;simp only[Tryz.f226];refine X2 ?_;refine X0<|X0<|X1 ?_;refine X3<|(Xe [0,5] (fun(x:Nat)=>[(6,.v (li x))]) (fun x=>[]) (fun x=>x≤l.length∧∀j:Nat,j+1<x→X5s l j=true) (fun x=>l.length - x) (0:Nat) ⟨Nat.zero_le _,fun j hj=>absurd hj (by omega)⟩ ?_ ?_)
 · exact X5 (fun n=>n) []
 rintro k ⟨hk,hJ⟩;simp only[upS,X6,XL]
 try simp only[X6,KN,Nat.reduceBEq,if_true,if_false,ins,Nat.reduceLT]
 refine X2 ?_;refine X0<|(X9 rfl (fun h4=>Xd ?_) (fun h4=>?_))
 · (try simp only[BN]at h4);have hlt:k<l.length:=by omega
   obtain⟨b,hb⟩:=get_I hlt;have hw:=XN hlt hl;have hk1:k+1≤l.length:=hlt;have hk9:k≤1000000000:=by omega
   clear hlt h4;refine X0<|X3<|X0<|X1 ?_;rcases k with _|j
   · have hw1:IntKind.i64.wrap 1=1:=Xc (by omega) (by omega);refine X0<|(QH (by kernel_rfl) (by kernel_rfl) (by rfl) (by simp[*];rfl) ?_);refine(Xb rfl (fun h7=>?_) fun h7=>?_)
     · exact absurd h7 (by simp)
     (try simp only[BN]at h7);refine X1 ?_;exact⟨1,⟨hk1,fun j hj=>absurd hj (by omega)⟩,by omega,X5 (fun n=>n) []⟩
   have hw1:IntKind.i64.wrap ((j:Int)+1+1)=(j:Int)+1+1:=Xc (by omega) (by omega);obtain⟨a,ha⟩:=get_I (show j<l.length by omega);have hwj:IntKind.i64.wrap (j:Int)=j:=Xc (by omega) (by omega);have hri:X5s l j=decide (a<b):=by unfold X5s;rw[ha,hb]
   have hj0:(0:Int)<(j:Int)+1:=by omega
   have hj1:0≤(j:Int)+1:=by omega
   have hj2:((j:Int)+1).toNat=j+1:=by omega
   refine X0<|(QH (by kernel_rfl) (by kernel_rfl) (by rfl) (by simp[*];rfl) ?_);refine(Xb rfl (fun h7=>?_) fun h7=>?_)
   · (try simp only[BN]at h7);have hz:risB l=false:=ris_bad (i:=j) (by omega) (by rw[hri];simpa using h7);refine X2 ?_;exact Xf
   (try simp only[BN]at h7);refine X1 ?_
   exact⟨j+1+1,⟨hk1,fun i hi=>by
    rcases Nat.lt_or_eq_of_le (Nat.le_of_lt_succ hi)with h|h
    · exact hJ i (by omega)
    have:i=j:=by omega
    rw[this,hri]
    simpa using h7⟩,by omega,X5 (fun n=>n) []⟩
 (try simp only[BN]at h4);have hz:risB l=true:=ris_good fun i hi=>hJ i (by omega);refine(Xi ?_);refine X2 ?_;exact Xf
def X5w (l:List Int):Bool:=
 match l[0]? with
 |some b=>decide (0≤b)
 |none=>false
def X1P (l:List Int):Bool:=(decide (1≤l.length)&&(decide (l.length≤32)&&X5w l))&&risB l
theorem nil_or (l:List Int):l=[]∨∃b0,l[0]? =some b0:=by
 cases l with
 |nil=>exact .inl rfl
 |cons b r=>exact .inr ⟨b,rfl⟩
end Go.Proofs.YtdajceakaakdoaaGreat

namespace Go.Proofs.YtdajceakaakdoaaGreat
open Go Go.Hl
def Zf:Tm→Bool
 | .mk o n ks=>decide (o=0)&&(decide (n=0)&&decide (ks.length=0))
theorem X93 (t:Tm) (d:Nat):Con Tryz.prog 225 true [aT t] (.v (lb (Zf t))) none d:=by
 obtain⟨o,n,ks⟩:=t;refine X4 Tryz.func225 ?_;simp only[Tryz.f225];simp only[aT,Tm.enc];refine X2 ?_;refine X2 ?_;exact(XE (fun h=>⟨.inr rfl,h⟩) _ (by simp[*];rfl) (by first|rfl|(simp[*,Zf,Bool.and_assoc];done)|(simp only[XY,Zf,Bool.and_assoc];(repeat' split)<;>first|rfl|(exfalso;omega)|simp_all)) (by simp))
def uVB (d:Int):Bool:=decide (d=0)||decide (d=5)
def uNB (d:Int):Bool:=decide (d=4)||decide (d=5)
def uTB (d:Int):Bool:=decide (d=0)||(decide (d=1)||(decide (d=3)||decide (d=4)))
theorem uV_con (a:Int) (d:Nat):Con Tryz.prog 222 true [li a] (.v (lb (uVB a))) none d:=by
 refine X4 Tryz.func222 ?_;simp only[Tryz.f222];refine X2 ?_;refine X2 ?_;exact(XE (fun h=>⟨.inr rfl,h⟩) _ (by simp[*];rfl) (by first|rfl|(simp[*,uVB];done)|(simp only[XY,uVB];(repeat' split)<;>first|rfl|(exfalso;omega)|simp_all)) (by simp))
theorem uN_con (a:Int) (d:Nat):Con Tryz.prog 223 true [li a] (.v (lb (uNB a))) none d:=by
 refine X4 Tryz.func223 ?_;simp only[Tryz.f223];refine X2 ?_;refine X2 ?_;exact(XE (fun h=>⟨.inr rfl,h⟩) _ (by simp[*];rfl) (by first|rfl|(simp[*,uNB];done)|(simp only[XY,uNB];(repeat' split)<;>first|rfl|(exfalso;omega)|simp_all)) (by simp))
theorem uT_con (a:Int) (d:Nat):Con Tryz.prog 224 true [li a] (.v (lb (uTB a))) none d:=by
 refine X4 Tryz.func224 ?_;simp only[Tryz.f224];refine X2 ?_;refine X2 ?_;exact(XE (fun h=>⟨.inr rfl,h⟩) _ (by simp[*];rfl) (by first|rfl|(simp[*,uTB,Bool.or_assoc];done)|(simp only[XY,uTB,Bool.or_assoc];(repeat' split)<;>first|rfl|(exfalso;omega)|simp_all)) (by simp))
def Wy (vars:List Vr) (v:Int):Bool:=decide (0≤v)&&(match vars[v.toNat]? with|some w=>decide (w.kind=0)|none=>false)
def shB (vars:List Vr) (nh:Nat) (d v n:Int) (t:Tm) (la lb_:Nat) (bs:List Int) (last:Bool):Bool:=
 if d=0 then((decide (la=0)&&decide (lb_=0))&&Wy vars v&&decide (n=0))&&decide (bs.length=0)
 else if d=1 then((decide (la=0)&&decide (lb_=0))&&decide (v=0)&&decide (n=0))&&decide (bs.length=0)
 else if d=2 then(((decide (la=0)&&decide (lb_=0))&&decide (v=0)&&decide (n=0))&&decide (bs.length=0))&&Zf t
 else if d=3 then(decide (v=0)&&decide (n=0))&&decide (bs.length=0)
 else if d=4 then(decide (v=0)&&decide (lb_=0))&&decide (bs.length=0)
 else if d=5 then((((decide (la=0)&&decide (lb_=0))&&Wy vars v&&decide (0≤n))&&decide (n<nh))&&decide (bs.length=0))&&Zf t
 else if d=6 then((((decide (la=0)&&decide (lb_=0))&&last&&decide (v=0))&&decide (n=0))&&Zf t)&&X1P bs
 else false
end Go.Proofs.YtdajceakaakdoaaGreat

namespace Go.Proofs.YtdajceakaakdoaaGreat
open Go Go.Hl
def badP (UV UN UT P LO:Bool) (d v n:Int) (la lc nb nh:Nat):Prop:=
 d<0∨6<d∨(UV=false∧v≠0)∨(UN=false∧n≠0)∨(UT=false∧P=false)∨((d≠3∧d≠4)∧0<la)∨(d≠3∧0<lc)∨(d≠6∧0<nb)∨(UV=true∧LO=false)∨(d=5∧(n<0∨nh≤n))
instance (UV UN UT P LO:Bool) (d v n:Int) (la lc nb nh:Nat):Decidable (badP UV UN UT P LO d v n la lc nb nh):=by unfold badP;exact inferInstance
theorem sh_bad {vars:List Vr} {nh:Nat} {d v n:Int} {t:Tm} {la lc:Nat} {bs:List Int} {last:Bool} (h:badP (uVB d) (uNB d) (uTB d) (Zf t) (Wy vars v) d v n la lc bs.length nh):shB vars nh d v n t la lc bs last=false:=by
 unfold shB;generalize Zf t=P at*;generalize Wy vars v=LO at*
 have hr:X1P bs=true→1≤bs.length:=by
  intro h;unfold X1P at h;simp only[Bool.and_eq_true,decide_eq_true_eq]at h;omega
 generalize X1P bs=R at*;generalize bs.length=nb at*;unfold badP uVB uNB uTB at h
 (repeat' split)<;>(simp only[Bool.and_eq_false_iff,Bool.or_eq_false_iff,Bool.or_eq_true,decide_eq_true_eq,decide_eq_false_iff_not]at h⊢)<;>cases P<;>cases LO<;>cases last<;>cases R<;>simp at h hr⊢ <;>omega
theorem sh_good {vars:List Vr} {nh:Nat} {d v n:Int} {t:Tm} {la lc:Nat} {bs:List Int} {last:Bool} (h:¬badP (uVB d) (uNB d) (uTB d) (Zf t) (Wy vars v) d v n la lc bs.length nh):shB vars nh d v n t la lc bs last=(decide (d≠6)||(last&&X1P bs)):=by
 unfold shB;generalize Zf t=P at*;generalize Wy vars v=LO at*;generalize X1P bs=R at*;generalize bs.length=nb at*;unfold badP uVB uNB uTB at h;rw[Bool.eq_iff_iff]
 (repeat' split)<;>(simp only[not_or,not_and,Bool.or_eq_false_iff,Bool.or_eq_true,Bool.and_eq_true,decide_eq_true_eq,decide_eq_false_iff_not]at h⊢)<;>cases P<;>cases LO<;>cases last<;>cases R<;>simp at h⊢ <;>omega
end Go.Proofs.YtdajceakaakdoaaGreat

namespace Go.Proofs.YtdajceakaakdoaaGreat
open Go Go.Hl
def X5L (d:Int):Int:=if d=2 then 67108864 else 10000
def X6s (bs:List Int):Bool:=
 match bs[bs.length - 1]? with
 |some x=>decide (x≤67108864)
 |none=>true
def X44 (d c n:Int) (bs:List Int):Bool:=
 (!(decide (c<0)||decide (X5L d<c)||(decide (d=4)&&(decide (n<0)||decide (4096<n)))))&&(decide (d≠6)||X6s bs)
theorem numP_con (s:St) (hb:s.bounds.length≤1000000000) (h6:s.do_=6→s.bounds≠[]) (h5:s.do_≠6→s.bounds=[]) (e:Nat):
  Con Tryz.prog 187 true [aS s] (.v (lb (X44 s.do_ s.cost s.n s.bounds))) none e:=by
 obtain⟨d,c,v,n,⟨o,tn,ks⟩,a,b,bs⟩:=s;simp only[St.do_,St.cost,St.n,St.bounds]at hb h6 h5⊢;refine X4 Tryz.func187 ?_;simp only[Tryz.f187];simp only[aS,St.enc,Tm.enc,List.map_cons,List.map_nil,List.cons_append,List.nil_append];refine X2 ?_;refine X2 ?_;refine(Qe [1] (fun(z:Int)=>[(3,.v (li z))]) (fun(z:Int)=>[(1,.box [.c (iC d),.c (iC c),.c (iC v),.c (iC n),.c (iC o),.c (iC tn),.c (.sl 3 (XS ks)),.c (.sl 10 (X7 a)),.c (.sl 10 (X7 b)),.c (.sl 1 (Xg bs))])]) (fun(z:Int)=>z=X5L d) ?_ ?_)
 ·
  refine X2 ?_;refine(Xb rfl (fun h4=>?_) fun h4=>?_)
  · (try simp only[BN]at h4);refine X1 ?_;exact⟨67108864,by simp[X5L,h4],X5 (fun n=>n) []⟩
  (try simp only[BN]at h4);exact⟨10000,by simp[X5L,h4],X5 (fun n=>n) []⟩
 rintro M hM;simp only[upS,X6,XL]
 try simp only[X6,KN,Nat.reduceBEq,if_true,if_false,ins,Nat.reduceLT]
 refine X0<|X0<|X1 ?_;refine(Xb rfl (fun h9=>?_) fun h9=>?_)
 · try simp only[BN]at h9
   have hz:X44 d c n bs=false:=by
    unfold X44;rw[←hM];simp only[Bool.and_eq_false_iff,Bool.or_eq_true,Bool.and_eq_true,Bool.not_eq_false',decide_eq_true_eq];omega
   refine X2 ?_;exact Xf
 try simp only[BN]at h9
 have hz:X44 d c n bs=(decide (d≠6)||X6s bs):=by
  unfold X44;rw[←hM]
  rw[show(!(decide (c<0)||decide (M<c)||(decide (d=4)&&(decide (n<0)||decide (4096<n)))))=true by
   simp only[Bool.or_eq_false_iff,Bool.and_eq_false_iff,Bool.not_eq_true',decide_eq_false_iff_not]
   omega]
  rfl
 clear h9;by_cases hd6:d=6
 · have hne:=h6 hd6
   have hpos:1≤bs.length:=by
    cases bs with
    |nil=>exact absurd rfl hne
    |cons x l=>simp
   obtain⟨x,hx⟩:=get_I (show bs.length - 1<bs.length by omega);have hw1:IntKind.i64.wrap ((bs.length:Int) - 1)=(bs.length:Int) - 1:=Xc (by omega) (by omega);have hw2:0≤(bs.length:Int) - 1:=by omega
   have hw3:((bs.length:Int) - 1).toNat=bs.length - 1:=by omega
   have hw4:1≤(bs.length:Int):=by omega
   have hlo:X6s bs=decide (x≤67108864):=by unfold X6s;rw[hx]
   clear h6 h5 hne hpos;refine X2 ?_;exact Xf
 have hbs:=h5 hd6;subst hbs;have hw1:IntKind.i64.wrap (-1)=-1:=by decide
 clear h6 h5;refine X2 ?_;exact Xf
theorem X81 (f:Fl) (s:St) (last:Bool) (hv:f.vars.length≤1000000000) (hb:s.bounds.length≤1000000000) (e:Nat):
  Con Tryz.prog 186 true [aF f,aS s,lb last] (.v (lb (shB f.vars f.hats.length s.do_ s.var s.n s.term s.then_.length s.else_.length s.bounds last))) none e:=by
 obtain⟨vars,hats,body⟩:=f;obtain⟨d,c,v,n,t,a,b,bs⟩:=s;simp only[St.do_,St.var,St.n,St.term,St.then_,St.else_,St.bounds]at hb⊢;simp only at hv;have c1:=X93 t;have c2:=X7f bs hb;have c3:=uV_con d;have c4:=uN_con d;have c5:=uT_con d;have hgood:=@sh_good vars hats.length d v n t a.length b.length bs last;have hbad:=@sh_bad vars hats.length d v n t a.length b.length bs last;have hrise:X1P bs=((decide (1≤bs.length)&&(decide (bs.length≤32)&&X5w bs))&&risB bs):=rfl;rw[hrise]at hgood;clear hrise;generalize shB vars hats.length d v n t a.length b.length bs last=SH at*;generalize uVB d=UV at*;generalize uNB d=UN at*;generalize uTB d=UT at*;generalize Zf t=P at*;generalize risB bs=R at*;obtain⟨LO,hLO⟩:∃p,Wy vars v=p:=⟨_,rfl⟩;rw[hLO]at hgood hbad;obtain⟨o,tn,ks⟩:=t;obtain⟨la,hla⟩:∃k,a.length=k:=⟨_,rfl⟩;obtain⟨lc,hlc⟩:∃k,b.length=k:=⟨_,rfl⟩;obtain⟨nb,hnb⟩:∃k,bs.length=k:=⟨_,rfl⟩;obtain⟨nv,hnv⟩:∃k,vars.length=k:=⟨_,rfl⟩;obtain⟨nh,hnh⟩:∃k,hats.length=k:=⟨_,rfl⟩;rw[hla,hlc,hnb,hnh]at hgood hbad;simp only[aT,Tm.enc,List.map_cons,List.map_nil]at c1;refine X4 Tryz.func186 ?_;simp only[Tryz.f186];simp only[aF,aS,Fl.enc,St.enc,Tm.enc,List.map_cons,List.map_nil,List.cons_append,List.nil_append];refine X2 ?_;refine X2 ?_;refine(Qe [2,4,7] (fun(z:Unit)=>[]) (fun(z:Unit)=>[(4,.box [.c (iC d),.c (iC c),.c (iC v),.c (iC n),.c (iC o),.c (iC tn),.c (.sl 3 (XS ks)),.c (.sl 10 (X7 a)),.c (.sl 10 (X7 b)),.c (.sl 1 (Xg bs))])]) (fun(z:Unit)=>SH=(decide (d≠6)||(last&&((decide (0<nb)&&(decide (nb≤32)&&X5w bs))&&R)))) ?_ ?_)
 ·
  refine X3<|(Qe [2,4,7] (fun(z:Bool)=>[(10,.v (lb z))]) (fun(z:Bool)=>[(4,.box [.c (iC d),.c (iC c),.c (iC v),.c (iC n),.c (iC o),.c (iC tn),.c (.sl 3 (XS ks)),.c (.sl 10 (X7 a)),.c (.sl 10 (X7 b)),.c (.sl 1 (Xg bs))])]) (fun(z:Bool)=>z=decide (badP UV UN UT P LO d v n la lc nb nh)) ?_ ?_)
  ·
   refine X2 ?_;refine(X9 rfl (fun h5=>Xd ?_) (fun h5=>?_))
   · (try simp only[BN]at h5);exact⟨true,(decide_eq_true (h5.elim .inl (fun h=>.inr (.inl h)))).symm,X5 (fun n=>n) []⟩
   (try simp only[BN]at h5);refine Xp [⟨true,.v (lb UV),none⟩] ?_ ?_
   · first|exact c3 _|exact trivial|simpa[*]using c3 _
   refine(X9 rfl (fun h8=>Xd ?_) (fun h8=>?_))
   · (try simp only[BN]at h8);exact⟨true,(decide_eq_true (.inr (.inr (.inl h8)))).symm,X5 (fun n=>n) []⟩
   (try simp only[BN]at h8);refine Xp [⟨true,.v (lb UN),none⟩] ?_ ?_
   · first|exact c4 _|exact trivial|simpa[*]using c4 _
   refine(X9 rfl (fun h11=>Xd ?_) (fun h11=>?_))
   · (try simp only[BN]at h11);exact⟨true,(decide_eq_true (.inr (.inr (.inr (.inl h11))))).symm,X5 (fun n=>n) []⟩
   (try simp only[BN]at h11);refine Qe [2,3,4,7] (fun(z:Bool)=>[(10,.v (lb z))]) (fun(z:Bool)=>[(3,.box [.c (.sl 5 (Xt vars)),.c (.sl 6 (Xx hats)),.c (.sl 10 (X7 body))]),(4,.box [.c (iC d),.c (iC c),.c (iC v),.c (iC n),.c (iC o),.c (iC tn),.c (.sl 3 (XS ks)),.c (.sl 10 (X7 a)),.c (.sl 10 (X7 b)),.c (.sl 1 (Xg bs))])]) (fun(z:Bool)=>z=(!UT&& !P)) ?_ ?_
   · rcases(show UT=false∨UT=true by cases UT<;>simp)with hUT|hUT
     · refine Z4 [⟨true,.v (lb false),none⟩,⟨true,.v (lb P),none⟩] (by simp[*];first|exact⟨rfl,Iff.rfl⟩|exact⟨rfl,trivial⟩|rfl) ?_ ?_
       · (repeat' first|exact trivial|(simpa[hUT]using c5 _)|exact c1 _|apply And.intro)
       exact⟨!P,by simp[hUT],X5 (fun n=>n) []⟩
     refine X8r [some ⟨true,.v (lb true),none⟩,none] (by simp[*];first|exact⟨rfl,Iff.rfl⟩|exact⟨rfl,trivial⟩|rfl) ?_ ?_
     · first|exact trivial|(simpa[hUT]using c5 _)
     exact⟨false,by simp[hUT],X5 (fun n=>n) []⟩
   rintro LUT hLUT;simp only[upS,X6,XL]
   try simp only[X6,KN,Nat.reduceBEq,if_true,if_false,ins,Nat.reduceLT]
   refine(X9 rfl (fun h14=>Xd ?_) (fun h14=>?_))
   · (try simp only[BN]at h14);rw[hLUT,Bool.and_eq_true,Bool.not_eq_true',Bool.not_eq_true']at h14;exact⟨true,(decide_eq_true (.inr (.inr (.inr (.inr (.inl h14)))))).symm,X5 (fun n=>n) []⟩
   (try simp only[BN]at h14);refine X2 ?_;refine(X9 rfl (fun h17=>Xd ?_) (fun h17=>?_))
   · (try simp only[BN]at h17);exact⟨true,(decide_eq_true (.inr (.inr (.inr (.inr (.inr (.inl ⟨h17.1,by omega⟩))))))).symm,X5 (fun n=>n) []⟩
   (try simp only[BN]at h17);refine X2 ?_;refine(X9 rfl (fun h20=>Xd ?_) (fun h20=>?_))
   · (try simp only[BN]at h20);exact⟨true,(decide_eq_true (.inr (.inr (.inr (.inr (.inr (.inr (.inl ⟨h20.1,by omega⟩)))))))).symm,X5 (fun n=>n) []⟩
   (try simp only[BN]at h20);refine X2 ?_;refine(X9 rfl (fun h23=>Xd ?_) (fun h23=>?_))
   · (try simp only[BN]at h23);exact⟨true,(decide_eq_true (.inr (.inr (.inr (.inr (.inr (.inr (.inr (.inl ⟨h23.1,by omega⟩))))))))).symm,X5 (fun n=>n) []⟩
   (try simp only[BN]at h23);refine Qe [2,3,4,7] (fun(z:Bool)=>[(10,.v (lb z))]) (fun(z:Bool)=>[(3,.box [.c (.sl 5 (Xt vars)),.c (.sl 6 (Xx hats)),.c (.sl 10 (X7 body))]),(4,.box [.c (iC d),.c (iC c),.c (iC v),.c (iC n),.c (iC o),.c (iC tn),.c (.sl 3 (XS ks)),.c (.sl 10 (X7 a)),.c (.sl 10 (X7 b)),.c (.sl 1 (Xg bs))])]) (fun(z:Bool)=>z=(UV&& !LO)) ?_ ?_
   · by_cases h0:0≤v
     · have h3:¬v<0:=by omega
       by_cases h1:v<vars.length
       · obtain⟨w,hw⟩:=X8g ⟨h0,h1⟩;have h2:¬(nv:Int)≤v:=by omega
         have hz:LO=decide (w.kind=0):=by rw[←hLO];unfold Wy;rw[hw];simp[h0]
         subst hz;clear h1;refine Z4 [⟨true,.v (lb UV),none⟩] (by simp[*];first|exact⟨rfl,Iff.rfl⟩|exact⟨rfl,trivial⟩|rfl) ?_ ?_
         · first|exact c3 _|exact trivial
         exact⟨UV&& !decide (w.kind=0),rfl,X5 (fun n=>n) []⟩
       have hw:=X5a h0 h1;have h2:(nv:Int)≤v:=by omega
       have hz:LO=false:=by rw[←hLO];unfold Wy;rw[hw];simp
       subst hz;clear h1;refine Z4 [⟨true,.v (lb UV),none⟩] (by simp[*];first|exact⟨rfl,Iff.rfl⟩|exact⟨rfl,trivial⟩|rfl) ?_ ?_
       · first|exact c3 _|exact trivial
       exact⟨UV&& !false,rfl,X5 (fun n=>n) []⟩
     have h3:v<0:=by omega
     have hz:LO=false:=by rw[←hLO];unfold Wy;simp[h0]
     subst hz;refine Z4 [⟨true,.v (lb UV),none⟩] (by simp[*];first|exact⟨rfl,Iff.rfl⟩|exact⟨rfl,trivial⟩|rfl) ?_ ?_
     · first|exact c3 _|exact trivial
     exact⟨UV&& !false,rfl,X5 (fun n=>n) []⟩
   rintro LOU hLOU;simp only[upS,X6,XL]
   try simp only[X6,KN,Nat.reduceBEq,if_true,if_false,ins,Nat.reduceLT]
   refine(X9 rfl (fun h26=>Xd ?_) (fun h26=>?_))
   · (try simp only[BN]at h26);rw[hLOU,Bool.and_eq_true,Bool.not_eq_true']at h26;exact⟨true,(decide_eq_true (.inr (.inr (.inr (.inr (.inr (.inr (.inr (.inr (.inl h26)))))))))).symm,X5 (fun n=>n) []⟩
   try simp only[BN]at h26
   have hz:decide (badP UV UN UT P LO d v n la lc nb nh)=(decide (d=5)&&(decide (n<0)||decide ((nh:Int)≤n))):=by
    rw[hLOU]at h26;rw[Bool.eq_iff_iff,decide_eq_true_eq];unfold badP;simp only[Bool.and_eq_true,Bool.or_eq_true,decide_eq_true_eq];constructor
    · rintro(h|h|h|h|h|h|h|h|h|h)
      · omega
      · omega
      · exact absurd h8 (by simp[h.1,h.2])
      · exact absurd h11 (by simp[h.1,h.2])
      · rw[hLUT,h.1,h.2]at h14;cases h14
      · omega
      · omega
      · omega
      · exact absurd h26 (by simp[h.1,h.2])
      exact h
    exact fun h=>.inr (.inr (.inr (.inr (.inr (.inr (.inr (.inr (.inr h))))))))
   refine X1 ?_;exact⟨(decide (d=5)&&(decide (n<0)||decide ((nh:Int)≤n))),hz.symm,X5 (fun n=>n) []⟩
  rintro _ rfl;simp only[upS,X6,XL]
  try simp only[X6,KN,Nat.reduceBEq,if_true,if_false,ins,Nat.reduceLT]
  refine(Xb rfl (fun h30=>?_) fun h30=>?_)
  · (try simp only[BN]at h30);have hz:=hbad h30;clear hgood hbad;refine X2 ?_;exact Xf
  (try simp only[BN]at h30);have hz:=hgood h30;clear hgood hbad;exact⟨(),hz,X5 (fun n=>n) []⟩
 rintro _ hz;simp only[upS,X6,XL]
 try simp only[X6,KN,Nat.reduceBEq,if_true,if_false,ins,Nat.reduceLT]
 clear hgood hbad;rcases nil_or bs with h0|⟨b0,hb0⟩
 · subst h0;have hh:X5w []=false:=rfl;replace hnb:nb=0:=hnb.symm;subst hnb;rw[hh]at hz;refine Xp [⟨true,.v (lb R),none⟩] ?_ ?_
   · first|exact c2 _|exact trivial|simpa[*]using c2 _
   exact(XE (fun h=>⟨.inr rfl,h⟩) _ (by simp[*];rfl) (by first|(simp[*,XY,Bool.and_assoc];done)|rfl) (by simp))
 have hh:X5w bs=decide (0≤b0):=by unfold X5w;rw[hb0]
 rw[hh]at hz;have e32:decide ((nb:Int)≤32)=decide (nb≤32):=by rw[decide_eq_decide];omega
 refine Xp [⟨true,.v (lb R),none⟩] ?_ ?_
 · first|exact c2 _|exact trivial|simpa[*]using c2 _
 exact(XE (fun h=>⟨.inr rfl,h⟩) _ (by simp[*];rfl) (by rw[hz];simp[XY,e32,Bool.and_assoc]) (by simp))
end Go.Proofs.YtdajceakaakdoaaGreat

namespace Go.Proofs.YtdajceakaakdoaaGreat
open Go Go.Hl
theorem X8Z (l:List Int) (hl:l.length≤1000000000) (d:Nat):Con Tryz.prog 72 false [lI l] (.v (lI l)) none d:=by
 have hroom:QV l.length 8:=⟨by unfold maxLen;omega,by omega⟩;cases l with
 | nil=>
   refine X9y ?_ ?_
   · refine X4 Tryz.func72 ?_;simp only[Tryz.f72];refine X2 ?_;refine X0<|X0<|X1 ?_;refine(Xb rfl (fun h2=>?_) fun h2=>?_)
     · (try simp only[BN]at h2);refine X2 ?_;exact Qf ⟨.inr rfl,_,le_one 2 1 rfl,⟨⟨_,by simp;rfl,by simp[XY]⟩,by simp,fun h=>by cases h⟩⟩
     exact absurd h2 (by simp)
   intro a cap;refine X4 Tryz.func72 ?_;simp only[Tryz.f72];refine X2 ?_;refine X0<|X0<|X1 ?_;refine(Xb rfl (fun h2=>?_) fun h2=>?_)
   · exact absurd h2 (by simp)
   (try simp only[BN]at h2);refine XD (le_emp 0 1 rfl) ?_;refine X2 ?_;exact Qf ⟨.inr rfl,_,Qr 7 rfl,⟨⟨_,by simp;rfl,by simp[XY]⟩,by simp,fun h=>by cases h⟩⟩
 | cons v r=>
   refine X4 Tryz.func72 ?_;simp only[Tryz.f72];rw[List.length_cons]at hroom;refine X2 ?_;refine X0<|X0<|X1 ?_;refine(Xb rfl (fun h2=>?_) fun h2=>?_)
   · exact absurd h2 (by simp)
   (try simp only[BN]at h2);refine X2 ?_;exact Qf ⟨.inr rfl,_,Qr 7 rfl,⟨⟨_,by simp;rfl,by simp[XY]⟩,by simp,fun h=>by cases h⟩⟩
end Go.Proofs.YtdajceakaakdoaaGreat
