/- Part 4: contracts of functions of the program and of the reference, and plain facts about what they compute; used by the proof of the claimed statement. Conditions: as each theorem states. -/
import Derived.Test.YtppjennamodfdaaGreatK3
set_option linter.unusedSimpArgs false
set_option linter.unusedVariables false
set_option linter.unnecessarySimpa false
set_option maxRecDepth 100000
set_option maxHeartbeats 2000000
namespace Go.Proofs.YtppjennamodfdaaGreat
open Go Go.Hl
theorem Xc2 (vars:List Vr) (hl:vars.length≤1000000) (d:Nat):Con Tryz.prog 61 true [lV vars] (.v (li (ZF vars))) none d:=by
 obtain⟨res,hres⟩:∃r,ZF vars=r:=⟨_,rfl⟩;rw[hres];obtain⟨cd,hcd⟩:∃r,vcs [] vars=r:=⟨_,rfl⟩;have hgood:cd=0→ZZ vars:=fun h=>X3e vars [] (hcd.trans h);unfold ZF at hres;rw[hcd]at hres;refine X5 Tryz.func61 ?_;simp only[Tryz.f61];refine X2 ?_;refine X0<|X0<|X1 ?_;refine X3<|(Xb [0] (fun(x:Nat)=>[(3,.v (li x))]) (fun x=>[]) (fun x=>x≤vars.length∧vcs (vars.take x) (vars.drop x)=cd) (fun x=>vars.length - x) (0:Nat) ⟨Nat.zero_le _,hcd⟩ ?_ ?_)
 · exact X4 (fun n=>n) []
 rintro k ⟨hk,hJ⟩;simp only[upS,X6,Xw]
 try simp only[X6,KN,Nat.reduceBEq,if_true,if_false,ins,Nat.reduceLT]
 clear hcd;refine X0<|X0<|X1 ?_;refine(X7 rfl (fun h4=>X9 ?_) (fun h4=>?_))
 · (try simp only[BN]at h4);have hlt:k<vars.length:=by omega
   obtain⟨v,he,hd⟩:=Xo hlt;have hw1:=Xy hlt (by omega);have hk1:k+1≤vars.length:=hlt;have hkl:(vars.take k).length=k:=by rw[List.length_take];omega
   rw[hd]at hJ;simp only[vcs]at hJ;rw[←ZS he]at hJ;clear hlt h4 hgood hd;refine X0<|X3<|X0<|X1 ?_;refine X0<|X0<|(Xm [⟨true,.v (lb (ZL v.name)),none⟩] ?_ ?_)
   · first|exact X2d _ _|exact trivial|simpa[*]using X2d _ _
   refine(Xc rfl (fun h7=>?_) fun h7=>?_)
   · (try simp only[BN]at h7);have hc:Zb (vars.take k) v=7:=by unfold Zb;rw[if_pos h7]
     rw[hc,if_neg (by decide)]at hJ;subst hJ;rw[if_neg (by decide)]at hres;subst hres;refine X2 ?_;exact Xe
   (try simp only[BN]at h7);refine X0<|X0<|X1 ?_;refine X3<|(Xb [0,3,4] (fun(x:Nat)=>[(5,.v (li x))]) (fun x=>[(4,.box [.c (sC v.name),.c (iC v.kind),.c (iC v.low),.c (iC v.high),.c (iC v.init)])]) (fun x=>x≤k∧∀j:Nat,j<x→∀w,vars[j]? =some w→w.name≠v.name) (fun x=>k - x) (0:Nat) ⟨Nat.zero_le _,fun j hj=>absurd hj (Nat.not_lt_zero j)⟩ ?_ ?_)
   · exact X4 (fun n=>n) []
   rintro j ⟨hj,hno⟩;simp only[upS,X6,Xw]
   try simp only[X6,KN,Nat.reduceBEq,if_true,if_false,ins,Nat.reduceLT]
   refine X0<|X0<|X1 ?_;refine(X7 rfl (fun h13=>X9 ?_) (fun h13=>?_))
   · (try simp only[BN]at h13);have hjk:j<k:=by omega
     obtain⟨w,hw⟩:∃w,vars[j]? =some w:=⟨vars[j],by simp[show j<vars.length by omega]⟩;have hwj:=Xy hjk (by omega);have hj1:j+1≤k:=hjk
     have hmemw:w∈vars.take k:=by
      have:(vars.take k)[j]? =some w:=by rw[List.getElem?_take_of_lt hjk];exact hw
      exact List.mem_of_getElem? this
     clear hjk h13;refine X0<|X3<|X0<|(Q4 (by kernel_rfl) (by kernel_rfl) (by rfl) (by simp[*];rfl) ?_);refine(Xc rfl (fun h15=>?_) fun h15=>?_)
     · try simp only[BN]at h15
       have hany:((vars.take k).any fun w=>decide (w.name=v.name))=true:=by
        rw[List.any_eq_true];exact⟨w,hmemw,by simpa using h15⟩
       have hc:Zb (vars.take k) v=8:=by unfold Zb;rw[if_neg (by simp[h7]),if_pos hany]
       rw[hc,if_neg (by decide)]at hJ;subst hJ;rw[if_neg (by decide)]at hres;subst hres;refine X2 ?_;exact Xe
     (try simp only[BN]at h15);refine X1 ?_
     exact⟨j+1,⟨hj1,fun i hi u hu=>by
      rcases Nat.lt_or_eq_of_le (Nat.le_of_lt_succ hi)with h|h
      · exact hno i h u hu
      subst h;rw[hw]at hu;cases hu
      simpa using h15⟩,by omega,X4 (fun n=>n) []⟩
   (try simp only[BN]at h13);have hjk:j=k:=by omega
   subst hjk
   have hany:((vars.take j).any fun w=>decide (w.name=v.name))=false:=by
    rw[List.any_eq_false];intro w hw;obtain⟨i,hi⟩:=List.mem_iff_getElem?.1 hw;have hij:i<j:=by have:=(List.getElem?_eq_some_iff.1 hi).1;omega
    rw[List.getElem?_take_of_lt hij]at hi;simpa using hno i hij w hi
   clear hno hkl;refine(Xf ?_);refine X0<|X0<|X1 ?_;refine(Xc rfl (fun h21=>?_) fun h21=>?_)
   · (try simp only[BN]at h21);have hc:Zb (vars.take j) v=1:=by unfold Zb;rw[if_neg (by simp[h7]),if_neg (by simp[hany]),if_pos (by omega)]
     rw[hc,if_neg (by decide)]at hJ;subst hJ;rw[if_neg (by decide)]at hres;subst hres;refine X2 ?_;exact Xe
   (try simp only[BN]at h21);have hc:Zb (vars.take j) v=if WI v then 3 else 0:=by unfold Zb;rw[if_neg (by simp[h7]),if_neg (by simp[hany]),if_neg (by omega)]
   clear hany;refine X0<|X0<|(Xm [⟨true,.v (lb (QK v.low v.high)),none⟩] ?_ ?_)
   · first|exact ZO _ _ _|exact trivial|simpa[*]using ZO _ _ _
   refine(Xc rfl (fun h25=>?_) fun h25=>?_)
   · (try simp only[BN]at h25);rw[if_pos (.inl h25)]at hc;rw[hc,if_neg (by decide)]at hJ;subst hJ;rw[if_neg (by decide)]at hres;subst hres;refine X2 ?_;exact Xe
   (try simp only[BN]at h25);refine X2 ?_;refine(Xc rfl (fun h29=>?_) fun h29=>?_)
   · try simp only[BN]at h29
     have hkb:WI v:=by
      unfold WI;omega
     rw[if_pos hkb]at hc;rw[hc,if_neg (by decide)]at hJ;subst hJ;rw[if_neg (by decide)]at hres;subst hres;refine X2 ?_;exact Xe
   try simp only[BN]at h29
   have hkb:¬WI v:=by
    unfold WI;rw[h25];rintro(h|h|h)
    · cases h
    · omega
    omega
   rw[if_neg hkb]at hc;rw[hc,if_pos rfl]at hJ;refine X1 ?_;exact⟨j+1,⟨hk1,hJ⟩,by omega,X4 (fun n=>n) []⟩
 (try simp only[BN]at h4);have hkl:k=vars.length:=by omega
 rw[hkl,List.drop_length]at hJ;simp only[vcs]at hJ;have hv:=hgood hJ.symm;rw[if_pos hJ.symm]at hres;clear hgood hJ hkl hk h4;have c1:=X2C vars 1 hv (by omega);have c2:=X2C vars 2 hv (by omega);have c3:=X2C vars 3 hv (by omega);have hb1:X2r vars 1=decide (4096<spc vars 1):=by simp[X2r]
 have hb2:X2r vars 2=decide (4096<spc vars 2):=by simp[X2r]
 have hb3:X2r vars 3=(decide (4096<spc vars 3)||decide (256<spc vars 3)):=by simp[X2r]
 simp only[List.any_cons,List.any_nil,Bool.or_false,hb1,hb2,hb3]at hres;clear hb1 hb2 hb3;generalize spc vars 1=s1 at*;generalize spc vars 2=s2 at*;generalize spc vars 3=s3 at*;refine(Xf ?_);refine X0<|X0<|(Xm [⟨true,.v (li s1),none⟩,⟨true,.v (li s2),none⟩,⟨true,.v (li s3),none⟩] ?_ ?_)
 · first|exact⟨c1 _,c2 _,c3 _⟩|exact trivial|(repeat' first|exact trivial|exact c1 _|exact c2 _|exact c3 _|apply And.intro)
 refine(Xc rfl (fun h35=>?_) fun h35=>?_)
 · try simp only[BN]at h35
   have hz:(decide (4096<s1)||(decide (4096<s2)||(decide (4096<s3)||decide (256<s3))))=true:=by
    simp only[Bool.or_eq_true,decide_eq_true_eq];omega
   rw[if_pos hz]at hres;subst hres;refine X2 ?_;exact Xe
 try simp only[BN]at h35
 have hz:(decide (4096<s1)||(decide (4096<s2)||(decide (4096<s3)||decide (256<s3))))=false:=by
  simp only[Bool.or_eq_false_iff,decide_eq_false_iff_not];omega
 rw[hz,if_neg (by decide)]at hres;subst hres;refine X2 ?_;exact Xe
end Go.Proofs.YtppjennamodfdaaGreat

namespace Go.Proofs.YtppjennamodfdaaGreat
open Go Go.Hl
@[simp] theorem take_encH (l:List Ht) (i:Nat):(Xs l).take i=Xs (l.take i):=by simp[Xs]
theorem idxH_con (l:List Ht) (g:FuncId) (cap:List CD) (p:Ht→Bool) (hl:l.length≤1000000000) (hp:∀v∈l,∀d,Con Tryz.prog g true (aH v::cap.map fun c=>.one (.c c)) (.v (lb (p v))) none d) (d:Nat):
  ∃r:Int,(∀d,Con Tryz.prog 187 true [.one (.c (.sl 6 (Xs l))),.one (.c (.fn g cap))] (.v (li r)) none d)∧(0≤r↔l.any p=true):=by
 refine⟨(match l.findIdx? p with|some i=>(i:Int)|none=>-1),fun d=>?_,?_⟩
 · have hstep:∀k:Nat,(∀j:Nat,j<k→∀v,l[j]? =some v→p v=false)→∀v,l[k]? =some v→p v=true→l.findIdx? p=some k:=by
    intro k hno v hv hpv;rw[List.findIdx?_eq_some_iff_getElem];have hk:k<l.length:=(List.getElem?_eq_some_iff.1 hv).1;refine⟨hk,?_,fun j hj=>?_⟩
    · simp only[List.getElem?_eq_getElem hk,Option.some.injEq]at hv;rw[hv];exact hpv
    have:=hno j hj l[j] (by simp);simp[this]
   have hnone:(∀j:Nat,j<l.length→∀v,l[j]? =some v→p v=false)→l.findIdx? p=none:=by
    intro hno;rw[List.findIdx?_eq_none_iff];intro v hv;obtain⟨j,hj⟩:=List.mem_iff_getElem?.1 hv;exact hno j (List.getElem?_eq_some_iff.1 hj).1 v hj
   refine X5 Tryz.func187 ?_;simp only[Tryz.f187];refine X2 ?_;refine X0<|X0<|X1 ?_;refine X3<|(Xb [0,1,7] (fun(x:Nat)=>[(8,.v (li x))]) (fun x=>[]) (fun x=>x≤l.length∧∀j:Nat,j<x→∀v,l[j]? =some v→p v=false) (fun x=>l.length - x) (0:Nat) ⟨Nat.zero_le _,fun j hj=>absurd hj (Nat.not_lt_zero j)⟩ ?_ ?_)
   · exact X4 (fun n=>n) []
   rintro k ⟨hk,hJ⟩;simp only[upS,X6,Xw]
   try simp only[X6,KN,Nat.reduceBEq,if_true,if_false,ins,Nat.reduceLT]
   refine X2 ?_;refine X0<|(X7 rfl (fun h4=>X9 ?_) (fun h4=>?_))
   · (try simp only[BN]at h4);have hlt:k<l.length:=by omega
     obtain⟨⟨nm,lo,hi,⟨o,tn,ks⟩⟩,he,hd⟩:=Xo hlt;have hw1:=Xy hlt (by omega);have hk1:k+1≤l.length:=hlt;have hpv:=hp _ (List.mem_of_getElem? he);have hs:=hstep k hJ _ he;clear hlt h4 hstep hnone hp;refine X0<|X3<|X0<|X1 ?_;refine Xh [⟨true,.v (lb (p ⟨nm,lo,hi,.mk o tn ks⟩)),none⟩] ?_ ?_
     · first|exact hpv _|exact trivial|simpa[*]using hpv _
     refine(Xc rfl (fun h7=>?_) fun h7=>?_)
     · (try simp only[BN]at h7);rw[hs h7];refine X2 ?_;exact Xe
     (try simp only[BN]at h7);refine X1 ?_;exact⟨k+1,⟨hk1,fun j hj w hw=>(Nat.lt_succ_iff_lt_or_eq.1 hj).elim (fun h=>hJ j h w hw) (fun e=>by subst e;rw[he]at hw;cases hw;exact h7)⟩,by omega,X4 (fun n=>n) []⟩
   (try simp only[BN]at h4);rw[hnone fun j hj=>hJ j (by omega)];refine(Xf ?_);refine X2 ?_;exact Xe
 rw[List.any_eq];cases h:l.findIdx? p with
 | none=>
   rw[List.findIdx?_eq_none_iff]at h;simp only[decide_eq_true_eq];constructor
   · intro h;omega
   rintro⟨v,hv,hpv⟩;have:=h v hv;rw[hpv]at this;cases this
 | some i=>
   rw[List.findIdx?_eq_some_iff_getElem]at h;obtain⟨hi,hpi,_⟩:=h;simp only[decide_eq_true_eq];exact⟨fun _=>⟨l[i],List.getElem_mem _,hpi⟩,fun _=>by omega⟩
theorem conH_con (l:List Ht) (g:FuncId) (cap:List CD) (p:Ht→Bool) (hl:l.length≤1000000000) (hp:∀v∈l,∀d,Con Tryz.prog g true (aH v::cap.map fun c=>.one (.c c)) (.v (lb (p v))) none d) (d:Nat):
  Con Tryz.prog 179 true [.one (.c (.sl 6 (Xs l))),.one (.c (.fn g cap))] (.v (lb (l.any p))) none d:=by
 obtain⟨r,hr,hi⟩:=idxH_con l g cap p hl hp 0;have hd:decide (0≤r)=l.any p:=by rw[Bool.eq_iff_iff,decide_eq_true_eq];exact hi
 clear hi hp;refine X5 Tryz.func179 ?_;simp only[Tryz.f179];refine X2 ?_;refine Xh [⟨true,.v (li r),none⟩] ?_ ?_
 · first|exact hr _|exact trivial|simpa[*]using hr _
 exact Xe
theorem XbU (w v:Ht) (d:Nat):Con Tryz.prog 178 true [aH w,.one (.c (.ptr v.enc))] (.v (lb (decide (w.name=v.name)))) none d:=by
 obtain⟨n1,l1,h1,⟨o1,t1,k1⟩⟩:=w;obtain⟨n2,l2,h2,⟨o2,t2,k2⟩⟩:=v;refine X5 Tryz.func178 ?_;simp only[Tryz.f178];simp only[aH,Ht.enc,Tm.enc,List.cons_append,List.nil_append];refine X2 ?_;refine X2 ?_;exact Xe
def X5V (vars:List Vr) (seen:List Ht) (h:Ht):Int:=
 if ZL h.name=false then 7 else if(seen.any fun w=>decide (w.name=h.name))=true then 8 else if QK h.low h.high=false then 3 else X0F vars true h.term
def hcs (vars:List Vr):List Ht→List Ht→Int
 |_,[]=>0
 |seen,h::l=>if X5V vars seen h=0 then hcs vars (seen++[h]) l else X5V vars seen h
theorem XcL (f:Fl) (hv:X0a f.vars) (hl:f.vars.length≤1000000) (hh:f.hats.length≤1000000) (hn:∀h∈f.hats,h.term.nodes≤1000000000) (d:Nat):
  Con Tryz.prog 165 true [aF f] (.v (li (hcs f.vars [] f.hats))) none d:=by
 obtain⟨vars,hats,body⟩:=f;simp only at hv hl hh hn⊢;obtain⟨res,hres⟩:∃r,hcs vars [] hats=r:=⟨_,rfl⟩;rw[hres];refine X5 Tryz.func165 ?_;simp only[Tryz.f165];simp only[aF,Fl.enc,List.map_cons,List.map_nil];refine X2 ?_;refine X0<|X0<|X1 ?_;refine X3<|(Xb [1,8,9] (fun(x:Nat)=>[(10,.v (li x))]) (fun x=>[(1,.box [.c (.sl 5 (Xr vars)),.c (.sl 6 (Xs hats)),.c (.sl 10 (X8 body))])]) (fun x=>x≤hats.length∧hcs vars (hats.take x) (hats.drop x)=res) (fun x=>hats.length - x) (0:Nat) ⟨Nat.zero_le _,hres⟩ ?_ ?_)
 · exact X4 (fun n=>n) []
 rintro k ⟨hk,hJ⟩;simp only[upS,X6,Xw]
 try simp only[X6,KN,Nat.reduceBEq,if_true,if_false,ins,Nat.reduceLT]
 clear hres;refine X2 ?_;refine X0<|(X7 rfl (fun h4=>X9 ?_) (fun h4=>?_))
 · (try simp only[BN]at h4);have hlt:k<hats.length:=by omega
   obtain⟨h,he,hd⟩:=Xo hlt;have hw1:=Xy hlt (by omega);have hk1:k+1≤hats.length:=hlt;have hkl:(hats.take k).length≤1000000000:=by rw[List.length_take];omega
   rw[hd]at hJ;simp only[hcs]at hJ;rw[←ZS he]at hJ;have ct:=X6P vars true hv (by omega) h.term (hn h (List.mem_of_getElem? he));have cc:=conH_con (hats.take k) 178 [.ptr h.enc] (fun w=>decide (w.name=h.name)) hkl (fun w _ d=>XbU w h d);obtain⟨nm,lo,hi,⟨o,tn,ks⟩⟩:=h;obtain⟨HC,hHC⟩:∃x,X5V vars (hats.take k) ⟨nm,lo,hi,.mk o tn ks⟩=x:=⟨_,rfl⟩;rw[hHC]at hJ;simp only[X5V]at hHC;simp only[Ht.enc,Tm.enc,List.cons_append,List.nil_append]at cc;simp only at ct;obtain⟨TC,hTC⟩:∃r,X0F vars true (.mk o tn ks)=r:=⟨_,rfl⟩;rw[hTC]at ct hHC;clear hlt h4 hd hn hTC;refine X0<|X3<|X0<|X1 ?_;refine X2 ?_;refine X0<|X3<|X0<|(Xm [⟨true,.v (lb (ZL nm)),none⟩] ?_ ?_)
   · first|exact X20 _ _|exact trivial|simpa[*]using X20 _ _
   refine(X7 rfl (fun h8=>?_) (fun h8=>?_))
   · (try simp only[BN]at h8);rw[if_pos h8]at hHC;subst hHC;rw[if_neg (by decide)]at hJ;subst hJ;refine X2 ?_;exact Xe
   (try simp only[BN]at h8);refine Xh [⟨true,.v (lb ((hats.take k).any fun w=>decide (w.name=nm))),none⟩] ?_ ?_
   · first|exact cc _|exact trivial|simpa[*]using cc _
   refine(X7 rfl (fun h12=>?_) (fun h12=>?_))
   · (try simp only[BN]at h12);rw[if_neg (by simp[h8]),if_pos h12]at hHC;subst hHC;rw[if_neg (by decide)]at hJ;subst hJ;refine X2 ?_;exact Xe
   (try simp only[BN]at h12);refine Xh [⟨true,.v (lb (QK lo hi)),none⟩] ?_ ?_
   · first|exact ZM _ _ _|exact trivial|simpa[*]using ZM _ _ _
   refine(Xc rfl (fun h16=>?_) fun h16=>?_)
   · (try simp only[BN]at h16);rw[if_neg (by simp[h8]),if_neg (by simp[h12]),if_pos h16]at hHC;subst hHC;rw[if_neg (by decide)]at hJ;subst hJ;refine X2 ?_;exact Xe
   (try simp only[BN]at h16);rw[if_neg (by simp[h8]),if_neg (by simp[h12]),if_neg (by simp[h16])]at hHC;subst hHC;refine Xh [⟨true,.v (li TC),none⟩] ?_ ?_
   · first|exact ct _|exact trivial|simpa[*]using ct _
   refine X2 ?_;refine(Xc rfl (fun h21=>?_) fun h21=>?_)
   · (try simp only[BN]at h21);rw[if_neg h21]at hJ;subst hJ;refine X2 ?_;exact Xe
   (try simp only[BN]at h21);rw[if_pos (by simpa using h21)]at hJ;refine X1 ?_;exact⟨k+1,⟨hk1,hJ⟩,by omega,X4 (fun n=>n) []⟩
 (try simp only[BN]at h4);have hkl:k=hats.length:=by omega
 rw[hkl,List.drop_length]at hJ;simp only[hcs]at hJ;subst hJ;refine(Xf ?_);refine X2 ?_;exact Xe
end Go.Proofs.YtppjennamodfdaaGreat

namespace Go.Proofs.YtppjennamodfdaaGreat
open Go Go.Hl
def X2k (l:List Int) (i:Nat):Bool:=
 match l[i]?,l[i+1]? with
 |some a,some b=>decide (a<b)
 |_,_=>true
def X3W (l:List Int):Bool:=(List.range l.length).all (X2k l)
theorem Xb2 {l:List Int} {i:Nat} (hi:i<l.length) (h:X2k l i=false):X3W l=false:=by
 unfold X3W;rw[List.all_eq_false];exact⟨i,by simpa using hi,by simp[h]⟩
theorem X8L {l:List Int} (h:∀i:Nat,i+1<l.length→X2k l i=true):X3W l=true:=by
 unfold X3W;rw[List.all_eq_true];intro i hi;simp only[List.mem_range]at hi;by_cases h2:i+1<l.length
 · exact h i h2
 unfold X2k;rw[List.getElem?_eq_none (i:=i+1) (by omega)];cases l[i]? <;>rfl
theorem X7b {l:List Int} {k:Nat} (h:k<l.length):∃b,l[k]? =some b:=⟨l[k],by simp[h]⟩
theorem X93 (l:List Int) (hl:l.length≤1000000000) (d:Nat):Con Tryz.prog 194 true [lI l] (.v (lb (X3W l))) none d:=by
 refine X5 Tryz.func194 ?_;simp only[Tryz.f194];refine X2 ?_;refine X0<|X0<|X1 ?_;refine X3<|(Xb [0,5] (fun(x:Nat)=>[(6,.v (li x))]) (fun x=>[]) (fun x=>x≤l.length∧∀j:Nat,j+1<x→X2k l j=true) (fun x=>l.length - x) (0:Nat) ⟨Nat.zero_le _,fun j hj=>absurd hj (by omega)⟩ ?_ ?_)
 · exact X4 (fun n=>n) []
 rintro k ⟨hk,hJ⟩;simp only[upS,X6,Xw]
 try simp only[X6,KN,Nat.reduceBEq,if_true,if_false,ins,Nat.reduceLT]
 refine X2 ?_;refine X0<|(X7 rfl (fun h4=>X9 ?_) (fun h4=>?_))
 · (try simp only[BN]at h4);have hlt:k<l.length:=by omega
   obtain⟨b,hb⟩:=X7b hlt;have hw:=Xy hlt hl;have hk1:k+1≤l.length:=hlt;have hk9:k≤1000000000:=by omega
   clear hlt h4;refine X0<|X3<|X0<|X1 ?_;rcases k with _|j
   · have hw1:IntKind.i64.wrap 1=1:=Xa (by omega) (by omega);refine X0<|(Q4 (by kernel_rfl) (by kernel_rfl) (by rfl) (by simp[*];rfl) ?_);refine(Xc rfl (fun h7=>?_) fun h7=>?_)
     · exact absurd h7 (by simp)
     (try simp only[BN]at h7);refine X1 ?_;exact⟨1,⟨hk1,fun j hj=>absurd hj (by omega)⟩,by omega,X4 (fun n=>n) []⟩
   have hw1:IntKind.i64.wrap ((j:Int)+1+1)=(j:Int)+1+1:=Xa (by omega) (by omega);obtain⟨a,ha⟩:=X7b (show j<l.length by omega);have hwj:IntKind.i64.wrap (j:Int)=j:=Xa (by omega) (by omega);have hri:X2k l j=decide (a<b):=by unfold X2k;rw[ha,hb]
   have hj0:(0:Int)<(j:Int)+1:=by omega
   have hj1:0≤(j:Int)+1:=by omega
   have hj2:((j:Int)+1).toNat=j+1:=by omega
   refine X0<|(Q4 (by kernel_rfl) (by kernel_rfl) (by rfl) (by simp[*];rfl) ?_);refine(Xc rfl (fun h7=>?_) fun h7=>?_)
   · (try simp only[BN]at h7);have hz:X3W l=false:=Xb2 (i:=j) (by omega) (by rw[hri];simpa using h7);refine X2 ?_;exact Xe
   (try simp only[BN]at h7);refine X1 ?_
   exact⟨j+1+1,⟨hk1,fun i hi=>by
    rcases Nat.lt_or_eq_of_le (Nat.le_of_lt_succ hi)with h|h
    · exact hJ i (by omega)
    have:i=j:=by omega
    rw[this,hri]
    simpa using h7⟩,by omega,X4 (fun n=>n) []⟩
 (try simp only[BN]at h4);have hz:X3W l=true:=X8L fun i hi=>hJ i (by omega);refine(Xf ?_);refine X2 ?_;exact Xe
def X4K (l:List Int):Bool:=
 match l[0]? with
 |some b=>decide (0≤b)
 |none=>false
def Zz (l:List Int):Bool:=(decide (1≤l.length)&&(decide (l.length≤32)&&X4K l))&&X3W l
theorem Xa9 (l:List Int):l=[]∨∃b0,l[0]? =some b0:=by
 cases l with
 |nil=>exact .inl rfl
 |cons b r=>exact .inr ⟨b,rfl⟩
theorem X8k (l:List Int) (hl:l.length≤1000000000) (d:Nat):Con Tryz.prog 131 true [lI l] (.v (lb (Zz l))) none d:=by
 obtain⟨res,hres⟩:∃r,Zz l=r:=⟨_,rfl⟩;rw[hres];refine X5 Tryz.func131 ?_;simp only[Tryz.f131];refine X2 ?_;rcases Xa9 l with h0|⟨b0,hb0⟩
 · subst h0;replace hres:false=res:=hres;refine X0<|X0<|X1 ?_;refine(Xc rfl (fun h2=>?_) fun h2=>?_)
   · (try simp only[BN]at h2);subst hres;refine X2 ?_;exact Xe
   exact absurd h2 (by simp)
 have hh:X4K l=decide (0≤b0):=by unfold X4K;rw[hb0]
 have hpos:1≤l.length:=(List.getElem?_eq_some_iff.1 hb0).1;refine X0<|X0<|X1 ?_;refine(Xc rfl (fun h2=>?_) fun h2=>?_)
 · try simp only[BN]at h2
   have hz:Zz l=false:=by
    unfold Zz;rw[hh];simp only[Bool.and_eq_false_iff,decide_eq_false_iff_not];omega
   rw[hz]at hres;subst hres;refine X2 ?_;exact Xe
 try simp only[BN]at h2
 have hz:Zz l=X3W l:=by
  unfold Zz;rw[hh];rw[decide_eq_true (by omega),decide_eq_true (by omega),decide_eq_true (by omega)];rfl
 rw[hz]at hres;have hl32:l.length≤32:=by omega
 clear hz hh h2 hb0;refine X0<|X0<|X1 ?_;refine X3<|(Xb [0] (fun(x:Nat)=>[(3,.v (li ((x:Int)+1)))]) (fun x=>[]) (fun x=>x+1≤l.length∧∀j:Nat,j<x→X2k l j=true) (fun x=>l.length - x) (0:Nat) ⟨hpos,fun j hj=>absurd hj (Nat.not_lt_zero j)⟩ ?_ ?_)
 · exact X4 (fun n=>n) []
 rintro k ⟨hk,hJ⟩;simp only[upS,X6,Xw]
 try simp only[X6,KN,Nat.reduceBEq,if_true,if_false,ins,Nat.reduceLT]
 refine X0<|X0<|X1 ?_;refine(X7 rfl (fun h8=>X9 ?_) (fun h8=>?_))
 · (try simp only[BN]at h8);have hlt:k+1<l.length:=by omega
   obtain⟨b,hb⟩:=X7b hlt;obtain⟨a,ha⟩:=X7b (show k<l.length by omega);have hw:IntKind.i64.wrap ((k:Int)+1+1)=(k:Int)+1+1:=Xa (by omega) (by omega);have hwj:IntKind.i64.wrap (k:Int)=k:=Xa (by omega) (by omega);have hri:X2k l k=decide (a<b):=by unfold X2k;rw[ha,hb]
   have hj1:0≤(k:Int)+1:=by omega
   have hj2:((k:Int)+1).toNat=k+1:=by omega
   have hk1:k+1+1≤l.length:=hlt;clear hlt h8;refine X0<|X3<|X0<|(Q4 (by kernel_rfl) (by kernel_rfl) (by rfl) (by simp[*];rfl) ?_);refine(Xc rfl (fun h10=>?_) fun h10=>?_)
   · (try simp only[BN]at h10);have hz:X3W l=false:=Xb2 (i:=k) (by omega) (by rw[hri];simpa using h10);refine X2 ?_;exact Xe
   (try simp only[BN]at h10);refine X1 ?_
   exact⟨k+1,⟨hk1,fun i hi=>by
    rcases Nat.lt_or_eq_of_le (Nat.le_of_lt_succ hi)with h|h
    · exact hJ i h
    rw[h,hri]
    simpa using h10⟩,by omega,X4 (fun n=>n) []⟩
 (try simp only[BN]at h8);have hz:X3W l=true:=X8L fun i hi=>hJ i (by omega);refine(Xf ?_);refine X2 ?_;exact Xe
end Go.Proofs.YtppjennamodfdaaGreat

namespace Go.Proofs.YtppjennamodfdaaGreat
open Go Go.Hl
def Z0:Tm→Bool
 | .mk o n ks=>decide (o=0)&&(decide (n=0)&&decide (ks.length=0))
theorem Xal (t:Tm) (d:Nat):Con Tryz.prog 130 true [aT t] (.v (lb (Z0 t))) none d:=by
 obtain⟨o,n,ks⟩:=t;refine X5 Tryz.func130 ?_;simp only[Tryz.f130];simp only[aT,Tm.enc];refine X2 ?_;refine X2 ?_;exact(Xk (fun h=>⟨.inr rfl,h⟩) _ (by simp[*];rfl) (by first|rfl|(simp[*,Z0,Bool.and_assoc];done)|(simp only[XK,Z0,Bool.and_assoc];(repeat' split)<;>first|rfl|(exfalso;omega)|simp_all)) (by simp))
theorem Xa4 (t:Tm) (d:Nat):Con Tryz.prog 193 true [aT t] (.v (lb (Z0 t))) none d:=by
 obtain⟨o,n,ks⟩:=t;refine X5 Tryz.func193 ?_;simp only[Tryz.f193];simp only[aT,Tm.enc];refine X2 ?_;refine X2 ?_;exact(Xk (fun h=>⟨.inr rfl,h⟩) _ (by simp[*];rfl) (by first|rfl|(simp[*,Z0,Bool.and_assoc];done)|(simp only[XK,Z0,Bool.and_assoc];(repeat' split)<;>first|rfl|(exfalso;omega)|simp_all)) (by simp))
def uVB (d:Int):Bool:=decide (d=0)||decide (d=5)
def uNB (d:Int):Bool:=decide (d=4)||decide (d=5)
def uTB (d:Int):Bool:=decide (d=0)||(decide (d=1)||(decide (d=3)||decide (d=4)))
theorem uV_con (a:Int) (d:Nat):Con Tryz.prog 190 true [li a] (.v (lb (uVB a))) none d:=by
 refine X5 Tryz.func190 ?_;simp only[Tryz.f190];refine X2 ?_;refine X2 ?_;exact(Xk (fun h=>⟨.inr rfl,h⟩) _ (by simp[*];rfl) (by first|rfl|(simp[*,uVB];done)|(simp only[XK,uVB];(repeat' split)<;>first|rfl|(exfalso;omega)|simp_all)) (by simp))
theorem uN_con (a:Int) (d:Nat):Con Tryz.prog 191 true [li a] (.v (lb (uNB a))) none d:=by
 refine X5 Tryz.func191 ?_;simp only[Tryz.f191];refine X2 ?_;refine X2 ?_;exact(Xk (fun h=>⟨.inr rfl,h⟩) _ (by simp[*];rfl) (by first|rfl|(simp[*,uNB];done)|(simp only[XK,uNB];(repeat' split)<;>first|rfl|(exfalso;omega)|simp_all)) (by simp))
theorem uT_con (a:Int) (d:Nat):Con Tryz.prog 192 true [li a] (.v (lb (uTB a))) none d:=by
 refine X5 Tryz.func192 ?_;simp only[Tryz.f192];refine X2 ?_;refine X2 ?_;exact(Xk (fun h=>⟨.inr rfl,h⟩) _ (by simp[*];rfl) (by first|rfl|(simp[*,uTB,Bool.or_assoc];done)|(simp only[XK,uTB,Bool.or_assoc];(repeat' split)<;>first|rfl|(exfalso;omega)|simp_all)) (by simp))
def QR (vars:List Vr) (v:Int):Bool:=decide (0≤v)&&(match vars[v.toNat]? with|some w=>decide (w.kind=0)|none=>false)
def shB (vars:List Vr) (nh:Nat) (d v n:Int) (t:Tm) (la lb_:Nat) (bs:List Int) (last:Bool):Bool:=
 if d=0 then((decide (la=0)&&decide (lb_=0))&&QR vars v&&decide (n=0))&&decide (bs.length=0)
 else if d=1 then((decide (la=0)&&decide (lb_=0))&&decide (v=0)&&decide (n=0))&&decide (bs.length=0)
 else if d=2 then(((decide (la=0)&&decide (lb_=0))&&decide (v=0)&&decide (n=0))&&decide (bs.length=0))&&Z0 t
 else if d=3 then(decide (v=0)&&decide (n=0))&&decide (bs.length=0)
 else if d=4 then(decide (v=0)&&decide (lb_=0))&&decide (bs.length=0)
 else if d=5 then((((decide (la=0)&&decide (lb_=0))&&QR vars v&&decide (0≤n))&&decide (n<nh))&&decide (bs.length=0))&&Z0 t
 else if d=6 then((((decide (la=0)&&decide (lb_=0))&&last&&decide (v=0))&&decide (n=0))&&Z0 t)&&Zz bs
 else false
theorem X9y (f:Fl) (s:St) (last:Bool) (hv:f.vars.length≤1000000000) (hb:s.bounds.length≤1000000000) (e:Nat):
  Con Tryz.prog 98 true [aF f,aS s,lb last] (.v (lb (shB f.vars f.hats.length s.do_ s.var s.n s.term s.then_.length s.else_.length s.bounds last))) none e:=by
 obtain⟨vars,hats,body⟩:=f;obtain⟨d,c,v,n,t,a,b,bs⟩:=s;simp only[St.do_,St.var,St.n,St.term,St.then_,St.else_,St.bounds]at hb⊢;simp only at hv;have c1:=Xal t;have c2:=X8k bs hb;obtain⟨P,hP⟩:∃p,Z0 t=p:=⟨_,rfl⟩;obtain⟨R,hR⟩:∃p,Zz bs=p:=⟨_,rfl⟩;obtain⟨la,hla⟩:∃k,a.length=k:=⟨_,rfl⟩;obtain⟨lc,hlc⟩:∃k,b.length=k:=⟨_,rfl⟩;obtain⟨nb,hnb⟩:∃k,bs.length=k:=⟨_,rfl⟩;obtain⟨nv,hnv⟩:∃k,vars.length=k:=⟨_,rfl⟩;obtain⟨nh,hnh⟩:∃k,hats.length=k:=⟨_,rfl⟩;obtain⟨res,hres⟩:∃r,shB vars hats.length d v n t a.length b.length bs last=r:=⟨_,rfl⟩;rw[hres];simp only[shB,hP,hR,hla,hlc,hnb,hnh]at hres;rw[hP]at c1;rw[hR]at c2;obtain⟨o,tn,ks⟩:=t;clear hP hR;simp only[aT,Tm.enc,List.map_cons,List.map_nil]at c1;refine X5 Tryz.func98 ?_;simp only[Tryz.f98];simp only[aF,aS,Fl.enc,St.enc,Tm.enc,List.map_cons,List.map_nil,List.cons_append,List.nil_append];refine X2 ?_;refine X2 ?_;refine XL [2,3,4,7] (fun(z:Bool)=>[(8,.v (lb z))]) (fun(z:Bool)=>[(3,.box [.c (.sl 5 (Xr vars)),.c (.sl 6 (Xs hats)),.c (.sl 10 (X8 body))]),(4,.box [.c (iC d),.c (iC c),.c (iC v),.c (iC n),.c (iC o),.c (iC tn),.c (.sl 3 (Xn ks)),.c (.sl 10 (X8 a)),.c (.sl 10 (X8 b)),.c (.sl 1 (Xi bs))])]) (fun(z:Bool)=>z=QR vars v) ?_ ?_
 · by_cases h0:0≤v
   · by_cases h1:v<vars.length
     · obtain⟨w,hw⟩:=X3k ⟨h0,h1⟩;have h2:decide (v<(nv:Int))=true:=decide_eq_true (by omega);have hz:QR vars v=decide (w.kind=0):=by unfold QR;rw[hw];simp[h0]
       clear h1;refine Xl (by simp[*];rfl) ?_;exact⟨decide (w.kind=0),hz.symm,X4 (fun n=>n) []⟩
     have hw:=X0P h0 h1;have h2:¬v<(nv:Int):=by omega
     have hz:QR vars v=false:=by unfold QR;rw[hw];simp
     clear h1;refine Xl (by simp[*];rfl) ?_;exact⟨false,hz.symm,X4 (fun n=>n) []⟩
   have hz:QR vars v=false:=by unfold QR;simp[h0]
   refine Xl (by simp[*];rfl) ?_;exact⟨false,hz.symm,X4 (fun n=>n) []⟩
 rintro LO hLO;simp only[upS,X6,Xw]
 try simp only[X6,KN,Nat.reduceBEq,if_true,if_false,ins,Nat.reduceLT]
 rw[←hLO]at hres;clear hLO;refine X0<|X0<|X1 ?_;refine X3<|X0<|X1 ?_;refine(X7 rfl (fun h5=>?_) (fun h5=>?_))
 · (try simp only[BN]at h5);refine X2 ?_;exact(Xk (fun h=>⟨.inr rfl,h⟩) _ (by simp[*];rfl) (by rw[←hres];simp[*,XK,Bool.and_assoc]) (by simp))
 (try simp only[BN]at h5);refine X2 ?_;refine(X7 rfl (fun h9=>?_) (fun h9=>?_))
 · (try simp only[BN]at h9);refine X2 ?_;exact(Xk (fun h=>⟨.inr rfl,h⟩) _ (by simp[*];rfl) (by rw[←hres];simp[*,XK,Bool.and_assoc]) (by simp))
 (try simp only[BN]at h9);refine X2 ?_;refine(X7 rfl (fun h13=>?_) (fun h13=>?_))
 · (try simp only[BN]at h13);by_cases hg:(la=0∧lc=0)∧v=0∧n=0∧nb=0
   · obtain⟨⟨g1,g2⟩,g3,g4,g5⟩:=hg;refine Xh [⟨true,.v (lb P),none⟩] ?_ ?_
     · first|exact c1 _|exact trivial|simpa[*]using c1 _
     exact(Xk (fun h=>⟨.inr rfl,h⟩) _ (by simp[*];rfl) (by rw[←hres];simp[*,XK,Bool.and_assoc]) (by simp))
   have hgb:(decide (la=0)&&decide (lc=0)&&decide (v=0)&&decide (n=0)&&decide (nb=0))=false:=by simp only[Bool.and_eq_false_iff,decide_eq_false_iff_not];omega
   clear hg
   have hr:false=res:=by
    rw[←hres,if_neg h5,if_neg h9,if_pos h13];rw[hgb];rfl
   subst hr;refine X0<|(X00 [none] (by simp[*];first|exact⟨rfl,trivial⟩|exact⟨rfl,Iff.rfl⟩|rfl) ?_ ?_)
   · trivial
   exact(Xk (fun h=>⟨.inr rfl,h⟩) _ (by simp[*];rfl) (by rfl) (by simp))
 (try simp only[BN]at h13);refine X2 ?_;refine(X7 rfl (fun h17=>?_) (fun h17=>?_))
 · (try simp only[BN]at h17);refine X2 ?_;exact(Xk (fun h=>⟨.inr rfl,h⟩) _ (by simp[*];rfl) (by rw[←hres];simp[*,XK,Bool.and_assoc]) (by simp))
 (try simp only[BN]at h17);refine X2 ?_;refine(X7 rfl (fun h21=>?_) (fun h21=>?_))
 · (try simp only[BN]at h21);refine X2 ?_;exact(Xk (fun h=>⟨.inr rfl,h⟩) _ (by simp[*];rfl) (by rw[←hres];simp[*,XK,Bool.and_assoc]) (by simp))
 (try simp only[BN]at h21);refine X2 ?_;refine(X7 rfl (fun h25=>?_) (fun h25=>?_))
 · (try simp only[BN]at h25);by_cases hg:(la=0∧lc=0)∧LO=true∧0≤n∧n<nh∧nb=0
   · obtain⟨⟨g1,g2⟩,g3,g4,g5,g6⟩:=hg;refine Xh [⟨true,.v (lb P),none⟩] ?_ ?_
     · first|exact c1 _|exact trivial|simpa[*]using c1 _
     exact(Xk (fun h=>⟨.inr rfl,h⟩) _ (by simp[*];rfl) (by rw[←hres];simp[*,XK,Bool.and_assoc]) (by simp))
   have hgb:(decide (la=0)&&decide (lc=0)&&LO&&decide (0≤n)&&decide (n<(nh:Int))&&decide (nb=0))=false:=by
    cases LO
    · simp
    simp only[Bool.and_eq_false_iff,decide_eq_false_iff_not];simp only[true_and]at hg;omega
   clear hg
   have hr:false=res:=by
    rw[←hres,if_neg h5,if_neg h9,if_neg h13,if_neg h17,if_neg h21,if_pos h25];rw[hgb];rfl
   subst hr;refine X0<|(X00 [none] (by simp[*];first|exact⟨rfl,trivial⟩|exact⟨rfl,Iff.rfl⟩|rfl) ?_ ?_)
   · trivial
   exact(Xk (fun h=>⟨.inr rfl,h⟩) _ (by simp[*];rfl) (by rfl) (by simp))
 (try simp only[BN]at h25);refine X2 ?_;refine(Xc rfl (fun h29=>?_) fun h29=>?_)
 · (try simp only[BN]at h29);by_cases hg:(la=0∧lc=0)∧last=true∧v=0∧n=0
   · obtain⟨⟨g1,g2⟩,g3,g4,g5⟩:=hg;refine Xh [⟨true,.v (lb P),none⟩,⟨true,.v (lb R),none⟩] ?_ ?_
     · first|exact⟨c1 _,c2 _⟩|exact trivial|(repeat' first|exact trivial|exact c1 _|exact c2 _|apply And.intro)
     exact(Xk (fun h=>⟨.inr rfl,h⟩) _ (by simp[*];rfl) (by rw[←hres];simp[*,XK,Bool.and_assoc]) (by simp))
   have hgb:(decide (la=0)&&decide (lc=0)&&last&&decide (v=0)&&decide (n=0))=false:=by
    cases last
    · simp
    simp only[Bool.and_eq_false_iff,decide_eq_false_iff_not];simp only[true_and]at hg;omega
   clear hg
   have hr:false=res:=by
    rw[←hres,if_neg h5,if_neg h9,if_neg h13,if_neg h17,if_neg h21,if_neg h25,if_pos h29];rw[hgb];rfl
   subst hr;refine X0<|(X00 [none,none] (by simp[*];first|exact⟨rfl,trivial⟩|exact⟨rfl,Iff.rfl⟩|rfl) ?_ ?_)
   · trivial
   exact(Xk (fun h=>⟨.inr rfl,h⟩) _ (by simp[*];rfl) (by rfl) (by simp))
 (try simp only[BN]at h29);refine X2 ?_;exact(Xk (fun h=>⟨.inr rfl,h⟩) _ (by simp[*];rfl) (by rw[←hres];simp[*,XK,Bool.and_assoc]) (by simp))
end Go.Proofs.YtppjennamodfdaaGreat

namespace Go.Proofs.YtppjennamodfdaaGreat
open Go Go.Hl
def badP (UV UN UT P LO:Bool) (d v n:Int) (la lc nb nh:Nat):Prop:=
 d<0∨6<d∨(UV=false∧v≠0)∨(UN=false∧n≠0)∨(UT=false∧P=false)∨((d≠3∧d≠4)∧0<la)∨(d≠3∧0<lc)∨(d≠6∧0<nb)∨(UV=true∧LO=false)∨(d=5∧(n<0∨nh≤n))
instance (UV UN UT P LO:Bool) (d v n:Int) (la lc nb nh:Nat):Decidable (badP UV UN UT P LO d v n la lc nb nh):=by unfold badP;exact inferInstance
theorem sh_bad {vars:List Vr} {nh:Nat} {d v n:Int} {t:Tm} {la lc:Nat} {bs:List Int} {last:Bool} (h:badP (uVB d) (uNB d) (uTB d) (Z0 t) (QR vars v) d v n la lc bs.length nh):shB vars nh d v n t la lc bs last=false:=by
 unfold shB;generalize Z0 t=P at*;generalize QR vars v=LO at*
 have hr:Zz bs=true→1≤bs.length:=by
  intro h;unfold Zz at h;simp only[Bool.and_eq_true,decide_eq_true_eq]at h;omega
 generalize Zz bs=R at*;generalize bs.length=nb at*;unfold badP uVB uNB uTB at h
 (repeat' split)<;>(simp only[Bool.and_eq_false_iff,Bool.or_eq_false_iff,Bool.or_eq_true,decide_eq_true_eq,decide_eq_false_iff_not]at h⊢)<;>cases P<;>cases LO<;>cases last<;>cases R<;>simp at h hr⊢ <;>omega
theorem sh_good {vars:List Vr} {nh:Nat} {d v n:Int} {t:Tm} {la lc:Nat} {bs:List Int} {last:Bool} (h:¬badP (uVB d) (uNB d) (uTB d) (Z0 t) (QR vars v) d v n la lc bs.length nh):shB vars nh d v n t la lc bs last=(decide (d≠6)||(last&&Zz bs)):=by
 unfold shB;generalize Z0 t=P at*;generalize QR vars v=LO at*;generalize Zz bs=R at*;generalize bs.length=nb at*;unfold badP uVB uNB uTB at h;rw[Bool.eq_iff_iff]
 (repeat' split)<;>(simp only[not_or,not_and,Bool.or_eq_false_iff,Bool.or_eq_true,Bool.and_eq_true,decide_eq_true_eq,decide_eq_false_iff_not]at h⊢)<;>cases P<;>cases LO<;>cases last<;>cases R<;>simp at h⊢ <;>omega
end Go.Proofs.YtppjennamodfdaaGreat

namespace Go.Proofs.YtppjennamodfdaaGreat
open Go Go.Hl
def X32 (d:Int):Int:=if d=2 then 67108864 else 10000
def X3S (bs:List Int):Bool:=
 match bs[bs.length - 1]? with
 |some x=>decide (x≤67108864)
 |none=>true
def X2E (d c n:Int) (bs:List Int):Bool:=
 (!(decide (c<0)||decide (X32 d<c)||(decide (d=4)&&(decide (n<0)||decide (4096<n)))))&&(decide (d≠6)||X3S bs)
theorem numP_con (s:St) (hb:s.bounds.length≤1000000000) (h6:s.do_=6→s.bounds≠[]) (h5:s.do_≠6→s.bounds=[]) (e:Nat):
  Con Tryz.prog 182 true [aS s] (.v (lb (X2E s.do_ s.cost s.n s.bounds))) none e:=by
 obtain⟨d,c,v,n,⟨o,tn,ks⟩,a,b,bs⟩:=s;simp only[St.do_,St.cost,St.n,St.bounds]at hb h6 h5⊢;refine X5 Tryz.func182 ?_;simp only[Tryz.f182];simp only[aS,St.enc,Tm.enc,List.map_cons,List.map_nil,List.cons_append,List.nil_append];refine X2 ?_;refine X2 ?_;refine(XL [1] (fun(z:Int)=>[(3,.v (li z))]) (fun(z:Int)=>[(1,.box [.c (iC d),.c (iC c),.c (iC v),.c (iC n),.c (iC o),.c (iC tn),.c (.sl 3 (Xn ks)),.c (.sl 10 (X8 a)),.c (.sl 10 (X8 b)),.c (.sl 1 (Xi bs))])]) (fun(z:Int)=>z=X32 d) ?_ ?_)
 ·
  refine X2 ?_;refine(Xc rfl (fun h4=>?_) fun h4=>?_)
  · (try simp only[BN]at h4);refine X1 ?_;exact⟨67108864,by simp[X32,h4],X4 (fun n=>n) []⟩
  (try simp only[BN]at h4);exact⟨10000,by simp[X32,h4],X4 (fun n=>n) []⟩
 rintro M hM;simp only[upS,X6,Xw]
 try simp only[X6,KN,Nat.reduceBEq,if_true,if_false,ins,Nat.reduceLT]
 refine X0<|X0<|X1 ?_;refine(Xc rfl (fun h9=>?_) fun h9=>?_)
 · try simp only[BN]at h9
   have hz:X2E d c n bs=false:=by
    unfold X2E;rw[←hM];simp only[Bool.and_eq_false_iff,Bool.or_eq_true,Bool.and_eq_true,Bool.not_eq_false',decide_eq_true_eq];omega
   refine X2 ?_;exact Xe
 try simp only[BN]at h9
 have hz:X2E d c n bs=(decide (d≠6)||X3S bs):=by
  unfold X2E;rw[←hM]
  rw[show(!(decide (c<0)||decide (M<c)||(decide (d=4)&&(decide (n<0)||decide (4096<n)))))=true by
   simp only[Bool.or_eq_false_iff,Bool.and_eq_false_iff,Bool.not_eq_true',decide_eq_false_iff_not]
   omega]
  rfl
 clear h9;by_cases hd6:d=6
 · have hne:=h6 hd6
   have hpos:1≤bs.length:=by
    cases bs with
    |nil=>exact absurd rfl hne
    |cons x l=>simp
   obtain⟨x,hx⟩:=X7b (show bs.length - 1<bs.length by omega);have hw1:IntKind.i64.wrap ((bs.length:Int) - 1)=(bs.length:Int) - 1:=Xa (by omega) (by omega);have hw2:0≤(bs.length:Int) - 1:=by omega
   have hw3:((bs.length:Int) - 1).toNat=bs.length - 1:=by omega
   have hw4:1≤(bs.length:Int):=by omega
   have hlo:X3S bs=decide (x≤67108864):=by unfold X3S;rw[hx]
   clear h6 h5 hne hpos;refine X2 ?_;exact Xe
 have hbs:=h5 hd6;subst hbs;have hw1:IntKind.i64.wrap (-1)=-1:=by decide
 clear h6 h5;refine X2 ?_;exact Xe
theorem X8d (f:Fl) (s:St) (last:Bool) (hv:f.vars.length≤1000000000) (hb:s.bounds.length≤1000000000) (e:Nat):
  Con Tryz.prog 181 true [aF f,aS s,lb last] (.v (lb (shB f.vars f.hats.length s.do_ s.var s.n s.term s.then_.length s.else_.length s.bounds last))) none e:=by
 obtain⟨vars,hats,body⟩:=f;obtain⟨d,c,v,n,t,a,b,bs⟩:=s;simp only[St.do_,St.var,St.n,St.term,St.then_,St.else_,St.bounds]at hb⊢;simp only at hv;have c1:=Xa4 t;have c2:=X93 bs hb;have c3:=uV_con d;have c4:=uN_con d;have c5:=uT_con d;have hgood:=@sh_good vars hats.length d v n t a.length b.length bs last;have hbad:=@sh_bad vars hats.length d v n t a.length b.length bs last;have hrise:Zz bs=((decide (1≤bs.length)&&(decide (bs.length≤32)&&X4K bs))&&X3W bs):=rfl;rw[hrise]at hgood;clear hrise;generalize shB vars hats.length d v n t a.length b.length bs last=SH at*;generalize uVB d=UV at*;generalize uNB d=UN at*;generalize uTB d=UT at*;generalize Z0 t=P at*;generalize X3W bs=R at*;obtain⟨LO,hLO⟩:∃p,QR vars v=p:=⟨_,rfl⟩;rw[hLO]at hgood hbad;obtain⟨o,tn,ks⟩:=t;obtain⟨la,hla⟩:∃k,a.length=k:=⟨_,rfl⟩;obtain⟨lc,hlc⟩:∃k,b.length=k:=⟨_,rfl⟩;obtain⟨nb,hnb⟩:∃k,bs.length=k:=⟨_,rfl⟩;obtain⟨nv,hnv⟩:∃k,vars.length=k:=⟨_,rfl⟩;obtain⟨nh,hnh⟩:∃k,hats.length=k:=⟨_,rfl⟩;rw[hla,hlc,hnb,hnh]at hgood hbad;simp only[aT,Tm.enc,List.map_cons,List.map_nil]at c1;refine X5 Tryz.func181 ?_;simp only[Tryz.f181];simp only[aF,aS,Fl.enc,St.enc,Tm.enc,List.map_cons,List.map_nil,List.cons_append,List.nil_append];refine X2 ?_;refine X2 ?_;refine(XL [2,4,7] (fun(z:Unit)=>[]) (fun(z:Unit)=>[(4,.box [.c (iC d),.c (iC c),.c (iC v),.c (iC n),.c (iC o),.c (iC tn),.c (.sl 3 (Xn ks)),.c (.sl 10 (X8 a)),.c (.sl 10 (X8 b)),.c (.sl 1 (Xi bs))])]) (fun(z:Unit)=>SH=(decide (d≠6)||(last&&((decide (0<nb)&&(decide (nb≤32)&&X4K bs))&&R)))) ?_ ?_)
 ·
  refine X3<|(XL [2,4,7] (fun(z:Bool)=>[(10,.v (lb z))]) (fun(z:Bool)=>[(4,.box [.c (iC d),.c (iC c),.c (iC v),.c (iC n),.c (iC o),.c (iC tn),.c (.sl 3 (Xn ks)),.c (.sl 10 (X8 a)),.c (.sl 10 (X8 b)),.c (.sl 1 (Xi bs))])]) (fun(z:Bool)=>z=decide (badP UV UN UT P LO d v n la lc nb nh)) ?_ ?_)
  ·
   refine X2 ?_;refine(X7 rfl (fun h5=>X9 ?_) (fun h5=>?_))
   · (try simp only[BN]at h5);exact⟨true,(decide_eq_true (h5.elim .inl (fun h=>.inr (.inl h)))).symm,X4 (fun n=>n) []⟩
   (try simp only[BN]at h5);refine Xh [⟨true,.v (lb UV),none⟩] ?_ ?_
   · first|exact c3 _|exact trivial|simpa[*]using c3 _
   refine(X7 rfl (fun h8=>X9 ?_) (fun h8=>?_))
   · (try simp only[BN]at h8);exact⟨true,(decide_eq_true (.inr (.inr (.inl h8)))).symm,X4 (fun n=>n) []⟩
   (try simp only[BN]at h8);refine Xh [⟨true,.v (lb UN),none⟩] ?_ ?_
   · first|exact c4 _|exact trivial|simpa[*]using c4 _
   refine(X7 rfl (fun h11=>X9 ?_) (fun h11=>?_))
   · (try simp only[BN]at h11);exact⟨true,(decide_eq_true (.inr (.inr (.inr (.inl h11))))).symm,X4 (fun n=>n) []⟩
   (try simp only[BN]at h11);refine XL [2,3,4,7] (fun(z:Bool)=>[(10,.v (lb z))]) (fun(z:Bool)=>[(3,.box [.c (.sl 5 (Xr vars)),.c (.sl 6 (Xs hats)),.c (.sl 10 (X8 body))]),(4,.box [.c (iC d),.c (iC c),.c (iC v),.c (iC n),.c (iC o),.c (iC tn),.c (.sl 3 (Xn ks)),.c (.sl 10 (X8 a)),.c (.sl 10 (X8 b)),.c (.sl 1 (Xi bs))])]) (fun(z:Bool)=>z=(!UT&& !P)) ?_ ?_
   · rcases(show UT=false∨UT=true by cases UT<;>simp)with hUT|hUT
     · refine QS [⟨true,.v (lb false),none⟩,⟨true,.v (lb P),none⟩] (by simp[*];first|exact⟨rfl,Iff.rfl⟩|exact⟨rfl,trivial⟩|rfl) ?_ ?_
       · (repeat' first|exact trivial|(simpa[hUT]using c5 _)|exact c1 _|apply And.intro)
       exact⟨!P,by simp[hUT],X4 (fun n=>n) []⟩
     refine X00 [some ⟨true,.v (lb true),none⟩,none] (by simp[*];first|exact⟨rfl,Iff.rfl⟩|exact⟨rfl,trivial⟩|rfl) ?_ ?_
     · first|exact trivial|(simpa[hUT]using c5 _)
     exact⟨false,by simp[hUT],X4 (fun n=>n) []⟩
   rintro LUT hLUT;simp only[upS,X6,Xw]
   try simp only[X6,KN,Nat.reduceBEq,if_true,if_false,ins,Nat.reduceLT]
   refine(X7 rfl (fun h14=>X9 ?_) (fun h14=>?_))
   · (try simp only[BN]at h14);rw[hLUT,Bool.and_eq_true,Bool.not_eq_true',Bool.not_eq_true']at h14;exact⟨true,(decide_eq_true (.inr (.inr (.inr (.inr (.inl h14)))))).symm,X4 (fun n=>n) []⟩
   (try simp only[BN]at h14);refine X2 ?_;refine(X7 rfl (fun h17=>X9 ?_) (fun h17=>?_))
   · (try simp only[BN]at h17);exact⟨true,(decide_eq_true (.inr (.inr (.inr (.inr (.inr (.inl ⟨h17.1,by omega⟩))))))).symm,X4 (fun n=>n) []⟩
   (try simp only[BN]at h17);refine X2 ?_;refine(X7 rfl (fun h20=>X9 ?_) (fun h20=>?_))
   · (try simp only[BN]at h20);exact⟨true,(decide_eq_true (.inr (.inr (.inr (.inr (.inr (.inr (.inl ⟨h20.1,by omega⟩)))))))).symm,X4 (fun n=>n) []⟩
   (try simp only[BN]at h20);refine X2 ?_;refine(X7 rfl (fun h23=>X9 ?_) (fun h23=>?_))
   · (try simp only[BN]at h23);exact⟨true,(decide_eq_true (.inr (.inr (.inr (.inr (.inr (.inr (.inr (.inl ⟨h23.1,by omega⟩))))))))).symm,X4 (fun n=>n) []⟩
   (try simp only[BN]at h23);refine XL [2,3,4,7] (fun(z:Bool)=>[(10,.v (lb z))]) (fun(z:Bool)=>[(3,.box [.c (.sl 5 (Xr vars)),.c (.sl 6 (Xs hats)),.c (.sl 10 (X8 body))]),(4,.box [.c (iC d),.c (iC c),.c (iC v),.c (iC n),.c (iC o),.c (iC tn),.c (.sl 3 (Xn ks)),.c (.sl 10 (X8 a)),.c (.sl 10 (X8 b)),.c (.sl 1 (Xi bs))])]) (fun(z:Bool)=>z=(UV&& !LO)) ?_ ?_
   · by_cases h0:0≤v
     · have h3:¬v<0:=by omega
       by_cases h1:v<vars.length
       · obtain⟨w,hw⟩:=X3k ⟨h0,h1⟩;have h2:¬(nv:Int)≤v:=by omega
         have hz:LO=decide (w.kind=0):=by rw[←hLO];unfold QR;rw[hw];simp[h0]
         subst hz;clear h1;refine QS [⟨true,.v (lb UV),none⟩] (by simp[*];first|exact⟨rfl,Iff.rfl⟩|exact⟨rfl,trivial⟩|rfl) ?_ ?_
         · first|exact c3 _|exact trivial
         exact⟨UV&& !decide (w.kind=0),rfl,X4 (fun n=>n) []⟩
       have hw:=X0P h0 h1;have h2:(nv:Int)≤v:=by omega
       have hz:LO=false:=by rw[←hLO];unfold QR;rw[hw];simp
       subst hz;clear h1;refine QS [⟨true,.v (lb UV),none⟩] (by simp[*];first|exact⟨rfl,Iff.rfl⟩|exact⟨rfl,trivial⟩|rfl) ?_ ?_
       · first|exact c3 _|exact trivial
       exact⟨UV&& !false,rfl,X4 (fun n=>n) []⟩
     have h3:v<0:=by omega
     have hz:LO=false:=by rw[←hLO];unfold QR;simp[h0]
     subst hz;refine QS [⟨true,.v (lb UV),none⟩] (by simp[*];first|exact⟨rfl,Iff.rfl⟩|exact⟨rfl,trivial⟩|rfl) ?_ ?_
     · first|exact c3 _|exact trivial
     exact⟨UV&& !false,rfl,X4 (fun n=>n) []⟩
   rintro LOU hLOU;simp only[upS,X6,Xw]
   try simp only[X6,KN,Nat.reduceBEq,if_true,if_false,ins,Nat.reduceLT]
   refine(X7 rfl (fun h26=>X9 ?_) (fun h26=>?_))
   · (try simp only[BN]at h26);rw[hLOU,Bool.and_eq_true,Bool.not_eq_true']at h26;exact⟨true,(decide_eq_true (.inr (.inr (.inr (.inr (.inr (.inr (.inr (.inr (.inl h26)))))))))).symm,X4 (fun n=>n) []⟩
   try simp only[BN]at h26
   have hz:decide (badP UV UN UT P LO d v n la lc nb nh)=(decide (d=5)&&(decide (n<0)||decide ((nh:Int)≤n))):=by
    rw[hLOU]at h26;rw[Bool.eq_iff_iff,decide_eq_true_eq];unfold badP;simp only[Bool.and_eq_true,Bool.or_eq_true,decide_eq_true_eq];constructor
    · rintro(h|h|h|h|h|h|h|h|h|h)
      · omega
      · omega
      · exact absurd h8 (by simp[h.1,h.2])
      · exact absurd h11 (by simp[h.1,h.2])
      · rw[hLUT,h.1,h.2]at h14;cases h14
      · omega
      · omega
      · omega
      · exact absurd h26 (by simp[h.1,h.2])
      exact h
    exact fun h=>.inr (.inr (.inr (.inr (.inr (.inr (.inr (.inr (.inr h))))))))
   refine X1 ?_;exact⟨(decide (d=5)&&(decide (n<0)||decide ((nh:Int)≤n))),hz.symm,X4 (fun n=>n) []⟩
  rintro _ rfl;simp only[upS,X6,Xw]
  try simp only[X6,KN,Nat.reduceBEq,if_true,if_false,ins,Nat.reduceLT]
  refine(Xc rfl (fun h30=>?_) fun h30=>?_)
  · (try simp only[BN]at h30);have hz:=hbad h30;clear hgood hbad;refine X2 ?_;exact Xe
  (try simp only[BN]at h30);have hz:=hgood h30;clear hgood hbad;exact⟨(),hz,X4 (fun n=>n) []⟩
 rintro _ hz;simp only[upS,X6,Xw]
 try simp only[X6,KN,Nat.reduceBEq,if_true,if_false,ins,Nat.reduceLT]
 clear hgood hbad;rcases Xa9 bs with h0|⟨b0,hb0⟩
 · subst h0;have hh:X4K []=false:=rfl;replace hnb:nb=0:=hnb.symm;subst hnb;rw[hh]at hz;refine Xh [⟨true,.v (lb R),none⟩] ?_ ?_
   · first|exact c2 _|exact trivial|simpa[*]using c2 _
   exact(Xk (fun h=>⟨.inr rfl,h⟩) _ (by simp[*];rfl) (by first|(simp[*,XK,Bool.and_assoc];done)|rfl) (by simp))
 have hh:X4K bs=decide (0≤b0):=by unfold X4K;rw[hb0]
 rw[hh]at hz;have e32:decide ((nb:Int)≤32)=decide (nb≤32):=by rw[decide_eq_decide];omega
 refine Xh [⟨true,.v (lb R),none⟩] ?_ ?_
 · first|exact c2 _|exact trivial|simpa[*]using c2 _
 exact(Xk (fun h=>⟨.inr rfl,h⟩) _ (by simp[*];rfl) (by rw[hz];simp[XK,e32,Bool.and_assoc]) (by simp))
end Go.Proofs.YtppjennamodfdaaGreat

namespace Go.Proofs.YtppjennamodfdaaGreat
open Go Go.Hl
def stC (vars:List Vr) (nh:Nat) (d c v n:Int) (t:Tm) (la lc:Nat) (bs:List Int) (last:Bool):Int:=
 if shB vars nh d v n t la lc bs last=false then 1 else if X2E d c n bs=false then 3 else X0F vars false t
def ssC (vars:List Vr) (nh:Nat):List St→Bool→Int
 |[],_=>0
 | .mk d c v n t a b bs::l,top=>
   if stC vars nh d c v n t a.length b.length bs (top&&l.isEmpty)=0 then
    (if ssC vars nh a false=0 then(if ssC vars nh b false=0 then ssC vars nh l top else ssC vars nh b false)else ssC vars nh a false)
   else stC vars nh d c v n t a.length b.length bs (top&&l.isEmpty)
mutual
def X0G:St→Bool
 | .mk _ _ _ _ _ a b bs=>decide (bs.length≤1000000000)&&(Wj a&&Wj b)
def Wj:List St→Bool
 |[]=>true
 |s::l=>X0G s&&Wj l
end
theorem X1Q {l:List St} (h:Wj l=true) {s:St} (hs:s∈l):X0G s=true:=by
 induction l with
 |nil=>cases hs
 | cons x l ih=>
   simp only[Wj,Bool.and_eq_true]at h;rcases List.mem_cons.1 hs with rfl|h1
   · exact h.1
   exact ih h.2 h1
theorem X6s {vars:List Vr} {nh:Nat} {d v n:Int} {t:Tm} {la lc:Nat} {bs:List Int} {last:Bool} (h:shB vars nh d v n t la lc bs last=true):(d=6→bs≠[])∧(d≠6→bs=[])∧(n<0→d=4):=by
 have hr:Zz bs=true→1≤bs.length:=by
  intro h;unfold Zz at h;simp only[Bool.and_eq_true,decide_eq_true_eq]at h;omega
 have hb:bs≠[]↔1≤bs.length:=by cases bs<;>simp
 have hb2:bs=[]↔bs.length=0:=by cases bs<;>simp
 rw[hb,hb2];unfold shB at h;generalize Zz bs=R at*;generalize bs.length=nb at*
 (repeat' split at h)<;>(try simp only[Bool.and_eq_true,decide_eq_true_eq]at h)<;>(try have:=hr h.2)<;>(try cases h)<;>refine⟨fun h=>?_,fun h=>?_,fun h=>?_⟩<;>omega
theorem X6R {l:List St} {k:Nat} (h:k+1≤l.length):(l.drop (k+1)).isEmpty=decide ((k:Int)=(l.length:Int) - 1):=by
 rw[Bool.eq_iff_iff,List.isEmpty_iff,List.drop_eq_nil_iff,decide_eq_true_eq];omega
def fnz (vars:List Vr) (nh:Nat):List (List St)→Int
 |[]=>0
 |x::r=>if ssC vars nh x false=0 then fnz vars nh r else ssC vars nh x false
theorem Xa7 (f:Fl) (hv:X0a f.vars) (hl:f.vars.length≤1000000) (l:List St):Xj l≤1000000000→Wj l=true→∀(top:Bool) (d:Nat),
  Con Tryz.prog 166 true [aF f,lS l,lb top] (.v (li (ssC f.vars f.hats.length l top))) none d:=by
 revert l
 apply St.lists;intro l ih hn hbn top d;have hlen:=Q5 l;obtain⟨res,hres⟩:∃r,ssC f.vars f.hats.length l top=r:=⟨_,rfl⟩;rw[hres];have csh:=fun s last hb=>X8d f s last (by omega) hb;obtain⟨vars,hats,body⟩:=f;simp only at hv hl hres ih csh;refine X5 Tryz.func166 ?_;simp only[Tryz.f166];simp only[aF,Fl.enc,List.map_cons,List.map_nil];refine X2 ?_;refine X0<|X0<|X1 ?_;refine X3<|(Xb [1,2,3,13,14] (fun(x:Nat)=>[(15,.v (li x))]) (fun x=>[(3,.box [.c (.sl 5 (Xr vars)),.c (.sl 6 (Xs hats)),.c (.sl 10 (X8 body))])]) (fun x=>x≤l.length∧ssC vars hats.length (l.drop x) top=res) (fun x=>l.length - x) (0:Nat) ⟨Nat.zero_le _,hres⟩ ?_ ?_)
 · exact X4 (fun n=>n) []
 rintro k ⟨hk,hJ⟩;simp only[upS,X6,Xw]
 try simp only[X6,KN,Nat.reduceBEq,if_true,if_false,ins,Nat.reduceLT]
 clear hres;refine X2 ?_;refine X0<|(X7 rfl (fun h4=>X9 ?_) (fun h4=>?_))
 · (try simp only[BN]at h4);have hlt:k<l.length:=by omega
   obtain⟨s,he,hd⟩:=Xo hlt;have hmem:s∈l:=List.mem_of_getElem? he;have hnm:=Qk hmem;have hbm:=X1Q hbn hmem;have iha:=fun h h2=>(ih s hmem).1 h h2;have ihb:=fun h h2=>(ih s hmem).2 h h2;have hw1:=Xy hlt (by omega);have hw2:IntKind.i64.wrap ((l.length:Int) - 1)=(l.length:Int) - 1:=Xa (by omega) (by omega);have hk1:k+1≤l.length:=hlt;have hla:=X6R hk1;rw[hd]at hJ;have ct:=X6P vars false hv (by omega) s.term;have csh1:=csh s (top&&decide ((k:Int)=(l.length:Int) - 1));have cnu:=numP_con s;obtain⟨sd,sc,sv,sn,⟨so,stn,sks⟩,sa,sb,sbs⟩:=s;simp only[St.then_,St.else_,St.term,St.bounds,St.do_,St.var,St.n,St.cost]at iha ihb hnm ct csh1 cnu;simp only[X0G,Bool.and_eq_true,decide_eq_true_eq]at hbm;simp only[ssC,hla]at hJ;have ca:=iha (by omega) hbm.2.1;have cb:=ihb (by omega) hbm.2.2;have ct:=ct (by omega);have csh1:=csh1 hbm.1;have cnu:=cnu hbm.1;have he':=XX he;simp only[St.enc,Tm.enc,List.cons_append,List.nil_append]at he';simp only[aF,Fl.enc,aS,St.enc,Tm.enc,List.map_cons,List.map_nil,List.cons_append,List.nil_append]at csh1 ca cb cnu;have hshb:=@X6s vars hats.length sd sv sn (.mk so stn sks) sa.length sb.length sbs (top&&decide ((k:Int)=(l.length:Int) - 1));obtain⟨SH,hSH⟩:∃x,shB vars hats.length sd sv sn (.mk so stn sks) sa.length sb.length sbs (top&&decide ((k:Int)=(l.length:Int) - 1))=x:=⟨_,rfl⟩;obtain⟨NU,hNU⟩:∃x,X2E sd sc sn sbs=x:=⟨_,rfl⟩;obtain⟨TC,hTC⟩:∃x,X0F vars false (.mk so stn sks)=x:=⟨_,rfl⟩;obtain⟨SC,hSC⟩:∃x,stC vars hats.length sd sc sv sn (.mk so stn sks) sa.length sb.length sbs (top&&decide ((k:Int)=(l.length:Int) - 1))=x:=⟨_,rfl⟩;rw[hSC]at hJ;unfold stC at hSC;rw[hSH]at csh1 hshb hSC;rw[hNU]at cnu hSC;rw[hTC]at ct hSC
   have hlc2:∀x∈[sa,sb],∀d,Con Tryz.prog 166 true [.agg [.c (.sl 5 (Xr vars)),.c (.sl 6 (Xs hats)),.c (.sl 10 (X8 body))],lS x,lb false] (.v (li (ssC vars hats.length x false))) none d:=by
    intro x hx;simp only[List.mem_cons,List.not_mem_nil,or_false]at hx;rcases hx with rfl|rfl
    · exact ca false
    exact cb false
   have hfn:(if ssC vars hats.length sa false=0 then(if ssC vars hats.length sb false=0 then ssC vars hats.length (l.drop (k+1)) top else ssC vars hats.length sb false)else ssC vars hats.length sa false)=(if fnz vars hats.length [sa,sb]=0 then ssC vars hats.length (l.drop (k+1)) top else fnz vars hats.length [sa,sb]):=by
    simp only[fnz];by_cases h1:ssC vars hats.length sa false=0<;>by_cases h2:ssC vars hats.length sb false=0<;>simp[h1,h2]
   rw[hfn]at hJ;obtain⟨LL,hLL⟩:∃x,x=[sa,sb]:=⟨_,rfl⟩;rw[←hLL]at hJ hlc2;obtain⟨FN,hFN⟩:∃x,fnz vars hats.length LL=x:=⟨_,rfl⟩;rw[hFN]at hJ;have hrows:LL.map (fun x=>[CD.sl 10 (X8 x)])=[[.sl 10 (X8 sa)],[.sl 10 (X8 sb)]]:=by rw[hLL];rfl
   have hL2:LL.length=2:=by rw[hLL];rfl
   clear hlt h4 iha ihb ih hmem hnm hd he hbm hSH hNU hTC ca cb hfn hLL csh hla;refine X0<|X3<|X0<|X1 ?_;refine X0<|X0<|(Xm [⟨true,.v (lb SH),none⟩] ?_ ?_)
   · first|exact csh1 _|exact trivial|simpa[*]using csh1 _
   refine(Xc rfl (fun h7=>?_) fun h7=>?_)
   · (try simp only[BN]at h7);rw[if_pos h7]at hSC;subst hSC;rw[if_neg (by decide)]at hJ;subst hJ;refine X2 ?_;exact Xe
   (try simp only[BN]at h7);rw[if_neg (by simp[h7])]at hSC;have hsb:=hshb h7;have cnu2:=cnu hsb.1 hsb.2.1;clear cnu hshb csh1;refine X0<|X0<|(Xm [⟨true,.v (lb NU),none⟩] ?_ ?_)
   · first|exact cnu2 _|exact trivial|simpa[*]using cnu2 _
   refine(Xc rfl (fun h11=>?_) fun h11=>?_)
   · (try simp only[BN]at h11);rw[if_pos h11]at hSC;subst hSC;rw[if_neg (by decide)]at hJ;subst hJ;refine X2 ?_;exact Xe
   (try simp only[BN]at h11);rw[if_neg (by simp[h11])]at hSC;subst hSC;clear cnu2 hsb;refine X0<|X0<|(Xm [⟨true,.v (li TC),none⟩] ?_ ?_)
   · first|exact ct _|exact trivial|simpa[*]using ct _
   refine X2 ?_;refine(Xc rfl (fun h16=>?_) fun h16=>?_)
   · (try simp only[BN]at h16);rw[if_neg h16]at hJ;subst hJ;refine X2 ?_;exact Xe
   (try simp only[BN]at h16);rw[if_pos (by simpa using h16)]at hJ;clear ct;refine X2 ?_;refine X3<|(Xb [1,2,3,13,14,15,47,48] (fun(x:Nat)=>[(49,.v (li x))]) (fun x=>[(3,.box [.c (.sl 5 (Xr vars)),.c (.sl 6 (Xs hats)),.c (.sl 10 (X8 body))]),(47,.row 24 1 (LL.map fun x=>[CD.sl 10 (X8 x)]))]) (fun x=>x≤2∧fnz vars hats.length (LL.drop x)=FN) (fun x=>2 - x) (0:Nat) ⟨Nat.zero_le _,hFN⟩ ?_ ?_)
   · exact X4 (fun n=>n) []
   rintro q ⟨hq,hJ2⟩;simp only[upS,X6,Xw]
   try simp only[X6,KN,Nat.reduceBEq,if_true,if_false,ins,Nat.reduceLT]
   clear hFN hrows;refine X2 ?_;refine X0<|(X7 rfl (fun h22=>X9 ?_) (fun h22=>?_))
   · (try simp only[BN]at h22);have hlt2:q<LL.length:=by omega
     obtain⟨y,hy,hdy⟩:=Xo hlt2;have hwq:=Xy hlt2 (by omega);have hq1:q+1≤2:=by omega
     have cy:=hlc2 y (List.mem_of_getElem? hy);rw[hdy]at hJ2;simp only[fnz]at hJ2;generalize ssC vars hats.length y false=SY at*;clear hlt2 h22 hdy hlc2;refine X0<|X3<|X0<|X1 ?_;refine Xh [⟨true,.v (li SY),none⟩] ?_ ?_
     · first|exact cy _|exact trivial|simpa[*]using cy _
     refine X2 ?_;refine(Xc rfl (fun h26=>?_) fun h26=>?_)
     · (try simp only[BN]at h26);rw[if_neg h26]at hJ2;subst hJ2;rw[if_neg h26]at hJ;subst hJ;refine X2 ?_;exact Xe
     (try simp only[BN]at h26);rw[if_pos (by simpa using h26)]at hJ2;refine X1 ?_;exact⟨q+1,⟨hq1,hJ2⟩,by omega,X4 (fun n=>n) []⟩
   (try simp only[BN]at h22);have hq2:q=LL.length:=by omega
   rw[hq2,List.drop_length]at hJ2;simp only[fnz]at hJ2;rw[if_pos hJ2.symm]at hJ;refine(Xf ?_);refine X1 ?_;exact⟨k+1,⟨hk1,hJ⟩,by omega,X4 (fun n=>n) []⟩
 (try simp only[BN]at h4);have hkl:k=l.length:=by omega
 rw[hkl,List.drop_length]at hJ;simp only[ssC]at hJ;subst hJ;refine(Xf ?_);refine X2 ?_;exact Xe
end Go.Proofs.YtppjennamodfdaaGreat

namespace Go.Proofs.YtppjennamodfdaaGreat
open Go Go.Hl
theorem X1G {ks:List Tm} {t:Tm} (ht:t∈ks):t.nodes≤Qp ks:=X0O ht
theorem X6m (t:Tm):t.nodes≤1000000000→∀d:Nat,Con Tryz.prog 91 true [aT t] (.v (li t.nodes)) none d:=by
 induction t using Tm.ind with
 |h o n ks ih=>
 intro hn d;simp only[Tm.nodes]at hn⊢;have hlen:=W5 ks;obtain⟨res,hres⟩:∃r,Qp ks=r:=⟨_,rfl⟩;rw[hres]at hn⊢;refine X5 Tryz.func91 ?_;simp only[Tryz.f91];simp only[aT,Tm.enc];refine X2 ?_;refine X2 ?_;refine X0<|X0<|X1 ?_;refine X3<|(Xb [1] (fun(x:Nat×Nat)=>[(3,.v (li ((x.2:Nat):Int))),(4,.v (li x.1))]) (fun x=>[(1,.box [.c (iC o),.c (iC n),.c (.sl 3 (Xn ks))])]) (fun x=>x.1≤ks.length∧x.2+Qp (ks.drop x.1)=1+res) (fun x=>ks.length - x.1) (0,1) ⟨Nat.zero_le _,by simp[hres]⟩ ?_ ?_)
 · exact X4 (fun n=>n) []
 rintro⟨k,m⟩ ⟨hk,hJ⟩;simp only[upS,X6,Xw]
 try simp only[X6,KN,Nat.reduceBEq,if_true,if_false,ins,Nat.reduceLT]
 simp only at hk hJ;refine X0<|X0<|X1 ?_;refine(X7 rfl (fun h5=>X9 ?_) (fun h5=>?_))
 · (try simp only[BN]at h5);have hlt:k<ks.length:=by omega
   obtain⟨⟨eo,en,ek⟩,he,hd⟩:=Xo hlt;have he':=Wn he;simp only[Tm.enc]at he';have hmem:Tm.mk eo en ek∈ks:=List.mem_of_getElem? he;have hnm:=X0O hmem;have c:=ih _ hmem (by omega);have hw1:=Xy hlt (by omega);have hk1:k+1≤ks.length:=hlt;rw[hd]at hJ;simp only[Qp]at hJ;generalize Tm.nodes (.mk eo en ek)=q at*;have hw2:IntKind.i64.wrap ((m:Int)+(q:Int))=(m:Int)+(q:Int):=Xa (by omega) (by omega);clear hlt h5 ih hmem;refine X0<|X3<|(Xm [⟨true,.v (li (q:Int)),none⟩] ?_ ?_)
   · first|exact c _|exact trivial|simpa[*]using c _
   refine X1 ?_;exact⟨(k+1,m+q),⟨hk1,by simp only;omega⟩,by simp only;omega,X4 (fun n=>n) []⟩
 (try simp only[BN]at h5);have hkl:k=ks.length:=by omega
 rw[hkl,List.drop_length]at hJ;simp only[Qp]at hJ;have hm:(m:Int)=1+(res:Int):=by omega
 refine(Xf ?_);refine X2 ?_;exact Xe
theorem XbR (l:List St):Xj l≤1000000000→∀d:Nat,Con Tryz.prog 90 true [lS l] (.v (li (Xj l))) none d:=by
 revert l
 apply St.lists;intro l ih hn d;have hlen:=Q5 l;obtain⟨res,hres⟩:∃r,Xj l=r:=⟨_,rfl⟩;rw[hres];refine X5 Tryz.func90 ?_;simp only[Tryz.f90];refine X2 ?_;refine X2 ?_;refine X0<|X0<|X1 ?_;refine X3<|(Xb [0] (fun(x:Nat×Nat)=>[(3,.v (li ((x.2:Nat):Int))),(4,.v (li x.1))]) (fun x=>[]) (fun x=>x.1≤l.length∧x.2+Xj (l.drop x.1)=res) (fun x=>l.length - x.1) (0,0) ⟨Nat.zero_le _,by simp[hres]⟩ ?_ ?_)
 · exact X4 (fun n=>n) []
 rintro⟨k,m⟩ ⟨hk,hJ⟩;simp only[upS,X6,Xw]
 try simp only[X6,KN,Nat.reduceBEq,if_true,if_false,ins,Nat.reduceLT]
 simp only at hk hJ;refine X0<|X0<|X1 ?_;refine(X7 rfl (fun h5=>X9 ?_) (fun h5=>?_))
 · (try simp only[BN]at h5);have hlt:k<l.length:=by omega
   obtain⟨s,he,hd⟩:=Xo hlt;have hmem:s∈l:=List.mem_of_getElem? he;have hnm:=Qk hmem;have iha:=fun h=>(ih s hmem).1 h;have ihb:=fun h=>(ih s hmem).2 h;have hw1:=Xy hlt (by omega);have hk1:k+1≤l.length:=hlt;have ct:=X6m s.term;rw[hd]at hJ;obtain⟨sd,sc,sv,sn,⟨so,stn,sks⟩,sa,sb,sbs⟩:=s;simp only[St.then_,St.else_,St.term]at iha ihb hnm ct;simp only[Xj,St.nodes]at hJ;have ca:=iha (by omega);have cb:=ihb (by omega);have ct:=ct (by omega);have he':=XX he;simp only[St.enc,Tm.enc,List.cons_append,List.nil_append]at he';generalize Tm.nodes (.mk so stn sks)=q at*;generalize Xj sa=na at*;generalize Xj sb=nb at*;have hw2:IntKind.i64.wrap ((m:Int)+1)=(m:Int)+1:=Xa (by omega) (by omega);have hw3:IntKind.i64.wrap ((m:Int)+1+(q:Int))=(m:Int)+1+(q:Int):=Xa (by omega) (by omega);have hw4:IntKind.i64.wrap ((m:Int)+1+(q:Int)+(na:Int))=(m:Int)+1+(q:Int)+(na:Int):=Xa (by omega) (by omega);have hw5:IntKind.i64.wrap ((m:Int)+1+(q:Int)+(na:Int)+(nb:Int))=(m:Int)+1+(q:Int)+(na:Int)+(nb:Int):=Xa (by omega) (by omega);clear hlt h5 ih hmem iha ihb;refine X0<|X3<|(Q7 [⟨true,.v (li (q:Int)),none⟩,⟨true,.v (li (na:Int)),none⟩,⟨true,.v (li (nb:Int)),none⟩] (by kernel_rfl) (by kernel_rfl) (by rfl) (by simp[*];first|exact⟨rfl,Iff.rfl⟩|exact⟨rfl,trivial⟩|rfl) ?_ ?_)
   · first|exact⟨ct _,ca _,cb _⟩|exact trivial|(repeat' first|exact trivial|exact ct _|exact ca _|exact cb _|apply And.intro)
   refine X1 ?_;exact⟨(k+1,m+1+q+na+nb),⟨hk1,by simp only;omega⟩,by simp only;omega,X4 (fun n=>n) []⟩
 (try simp only[BN]at h5);have hkl:k=l.length:=by omega
 rw[hkl,List.drop_length]at hJ;simp only[Xj]at hJ;have hm:m=res:=by omega
 refine(Xf ?_);refine X2 ?_;exact Xe
mutual
def tdT:Tm→Nat
 | .mk _ _ ks=>X43 ks+1
def X43:List Tm→Nat
 |[]=>0
 |t::l=>max (tdT t) (X43 l)
end
mutual
theorem td_le:∀t:Tm,tdT t≤t.nodes
 | .mk o n ks=>by have:=Xae ks;simp only[tdT,Tm.nodes];omega
theorem Xae:∀l:List Tm,X43 l≤Qp l
 |[]=>by simp[X43]
 |t::l=>by have:=td_le t;have:=Xae l;simp only[X43,Qp];omega
end
theorem X5o (t:Tm):t.nodes≤1000000000→∀d:Nat,Con Tryz.prog 92 true [aT t] (.v (li (tdT t))) none d:=by
 induction t using Tm.ind with
 |h o n ks ih=>
 intro hn d;simp only[Tm.nodes]at hn;simp only[tdT];have hlen:=W5 ks;have htl:=Xae ks;obtain⟨res,hres⟩:∃r,X43 ks=r:=⟨_,rfl⟩;rw[hres]at htl⊢;refine X5 Tryz.func92 ?_;simp only[Tryz.f92];simp only[aT,Tm.enc];refine X2 ?_;refine X2 ?_;refine X0<|X0<|X1 ?_;refine X3<|(Xb [1] (fun(x:Nat×Nat)=>[(3,.v (li ((x.2:Nat):Int))),(4,.v (li x.1))]) (fun x=>[(1,.box [.c (iC o),.c (iC n),.c (.sl 3 (Xn ks))])]) (fun x=>x.1≤ks.length∧max x.2 (X43 (ks.drop x.1))=res) (fun x=>ks.length - x.1) (0,0) ⟨Nat.zero_le _,by simp[hres]⟩ ?_ ?_)
 · exact X4 (fun n=>n) []
 rintro⟨k,m⟩ ⟨hk,hJ⟩;simp only[upS,X6,Xw]
 try simp only[X6,KN,Nat.reduceBEq,if_true,if_false,ins,Nat.reduceLT]
 simp only at hk hJ;refine X0<|X0<|X1 ?_;refine(X7 rfl (fun h5=>X9 ?_) (fun h5=>?_))
 · (try simp only[BN]at h5);have hlt:k<ks.length:=by omega
   obtain⟨⟨eo,en,ek⟩,he,hd⟩:=Xo hlt;have he':=Wn he;simp only[Tm.enc]at he';have hmem:Tm.mk eo en ek∈ks:=List.mem_of_getElem? he;have hnm:=X0O hmem;have c:=ih _ hmem (by omega);have hw1:=Xy hlt (by omega);have hk1:k+1≤ks.length:=hlt;rw[hd]at hJ;simp only[X43]at hJ;generalize tdT (.mk eo en ek)=q at*;clear hlt h5 ih hmem;refine X0<|X3<|X0<|(Xm [⟨true,.v (li (q:Int)),none⟩] ?_ ?_)
   · first|exact c _|exact trivial|simpa[*]using c _
   refine X2 ?_;refine(Xc rfl (fun h8=>?_) fun h8=>?_)
   · (try simp only[BN]at h8);refine X1 ?_;refine X1 ?_;exact⟨(k+1,q),⟨hk1,by simp only;omega⟩,by simp only;omega,X4 (fun n=>n) []⟩
   (try simp only[BN]at h8);refine X1 ?_;exact⟨(k+1,m),⟨hk1,by simp only;omega⟩,by simp only;omega,X4 (fun n=>n) []⟩
 (try simp only[BN]at h5);have hkl:k=ks.length:=by omega
 rw[hkl,List.drop_length]at hJ;simp only[X43]at hJ;have hm:m=res:=by omega
 subst hm;have hw:IntKind.i64.wrap ((m:Int)+1)=(m:Int)+1:=Xa (by omega) (by omega);refine(Xf ?_);refine X2 ?_;exact Xe
def sdL:List St→Nat
 |[]=>0
 | .mk _ _ _ _ _ a b _::l=>max (max (sdL a+1) (sdL b+1)) (sdL l)
theorem X8h:∀l:List St,sdL l≤Xj l
 |[]=>by simp[sdL]
 | .mk _ _ _ _ t a b _::l=>by have:=X8h a;have:=X8h b;have:=X8h l;have:=X7m t;simp only[sdL,Xj,St.nodes];omega
theorem Xab (l:List St):Xj l≤1000000000→∀d:Nat,Con Tryz.prog 93 true [lS l] (.v (li (sdL l))) none d:=by
 revert l
 apply St.lists;intro l ih hn d;have hlen:=Q5 l;obtain⟨res,hres⟩:∃r,sdL l=r:=⟨_,rfl⟩;rw[hres];refine X5 Tryz.func93 ?_;simp only[Tryz.f93];refine X2 ?_;refine X2 ?_;refine X0<|X0<|X1 ?_;refine X3<|(Xb [0] (fun(x:Nat×Nat)=>[(3,.v (li ((x.2:Nat):Int))),(4,.v (li x.1))]) (fun x=>[]) (fun x=>x.1≤l.length∧max x.2 (sdL (l.drop x.1))=res) (fun x=>l.length - x.1) (0,0) ⟨Nat.zero_le _,by simp[hres]⟩ ?_ ?_)
 · exact X4 (fun n=>n) []
 rintro⟨k,m⟩ ⟨hk,hJ⟩;simp only[upS,X6,Xw]
 try simp only[X6,KN,Nat.reduceBEq,if_true,if_false,ins,Nat.reduceLT]
 simp only at hk hJ;refine X0<|X0<|X1 ?_;refine(X7 rfl (fun h5=>X9 ?_) (fun h5=>?_))
 · (try simp only[BN]at h5);have hlt:k<l.length:=by omega
   obtain⟨s,he,hd⟩:=Xo hlt;have hmem:s∈l:=List.mem_of_getElem? he;have hnm:=Qk hmem;have iha:=fun h=>(ih s hmem).1 h;have ihb:=fun h=>(ih s hmem).2 h;have hw1:=Xy hlt (by omega);have hk1:k+1≤l.length:=hlt;rw[hd]at hJ;obtain⟨sd,sc,sv,sn,⟨so,stn,sks⟩,sa,sb,sbs⟩:=s;simp only[St.then_,St.else_,St.term]at iha ihb hnm;simp only[sdL]at hJ;have ca:=iha (by omega);have cb:=ihb (by omega);have ha:=X8h sa;have hb:=X8h sb;have he':=XX he;simp only[St.enc,Tm.enc,List.cons_append,List.nil_append]at he';generalize sdL sa=na at*;generalize sdL sb=nb at*;have hw2:IntKind.i64.wrap ((na:Int)+1)=(na:Int)+1:=Xa (by omega) (by omega);have hw3:IntKind.i64.wrap ((nb:Int)+1)=(nb:Int)+1:=Xa (by omega) (by omega);clear hlt h5 ih hmem iha ihb;refine X0<|X3<|X0<|(Xm [⟨true,.v (li (na:Int)),none⟩] ?_ ?_)
   · first|exact ca _|exact trivial|simpa[*]using ca _
   refine Xh [⟨true,.v (li (nb:Int)),none⟩] ?_ ?_
   · first|exact cb _|exact trivial|simpa[*]using cb _
   refine(XL [0,4,6] (fun(z:Nat)=>[(3,.v (li (z:Int)))]) (fun(z:Nat)=>[]) (fun(z:Nat)=>z=max m (na+1)) ?_ ?_)
   ·
    refine X2 ?_;refine(Xc rfl (fun h10=>?_) fun h10=>?_)
    · (try simp only[BN]at h10);have hz:max m (na+1)=na+1:=by omega
      refine X1 ?_;exact⟨na+1,hz.symm,X4 (fun n=>n) []⟩
    (try simp only[BN]at h10);have hz:max m (na+1)=m:=by omega
    exact⟨m,hz.symm,X4 (fun n=>n) []⟩
   rintro z hz;simp only[upS,X6,Xw]
   try simp only[X6,KN,Nat.reduceBEq,if_true,if_false,ins,Nat.reduceLT]
   refine X2 ?_;refine(Xc rfl (fun h15=>?_) fun h15=>?_)
   · (try simp only[BN]at h15);refine X1 ?_;refine X1 ?_;exact⟨(k+1,nb+1),⟨hk1,by simp only;omega⟩,by simp only;omega,X4 (fun n=>n) []⟩
   (try simp only[BN]at h15);refine X1 ?_;exact⟨(k+1,z),⟨hk1,by simp only;omega⟩,by simp only;omega,X4 (fun n=>n) []⟩
 (try simp only[BN]at h5);have hkl:k=l.length:=by omega
 rw[hkl,List.drop_length]at hJ;simp only[sdL]at hJ;have hm:m=res:=by omega
 refine(Xf ?_);refine X2 ?_;exact Xe
def Ww:List St→Bool
 |[]=>false
 | .mk _ _ _ _ t a b _::l=>((decide (12<tdT t)||Ww a)||Ww b)||Ww l
theorem Xcx (l:List St):Xj l≤1000000000→∀d:Nat,Con Tryz.prog 94 true [lS l] (.v (lb (Ww l))) none d:=by
 revert l
 apply St.lists;intro l ih hn d;have hlen:=Q5 l;obtain⟨res,hres⟩:∃r,Ww l=r:=⟨_,rfl⟩;rw[hres];refine X5 Tryz.func94 ?_;simp only[Tryz.f94];refine X2 ?_;refine X0<|X0<|X1 ?_;refine X3<|(Xb [0] (fun(x:Nat)=>[(3,.v (li x))]) (fun x=>[]) (fun x=>x≤l.length∧Ww (l.drop x)=res) (fun x=>l.length - x) (0:Nat) ⟨Nat.zero_le _,hres⟩ ?_ ?_)
 · exact X4 (fun n=>n) []
 rintro k ⟨hk,hJ⟩;simp only[upS,X6,Xw]
 try simp only[X6,KN,Nat.reduceBEq,if_true,if_false,ins,Nat.reduceLT]
 refine X0<|X0<|X1 ?_;refine(X7 rfl (fun h4=>X9 ?_) (fun h4=>?_))
 · (try simp only[BN]at h4);have hlt:k<l.length:=by omega
   obtain⟨s,he,hd⟩:=Xo hlt;have hmem:s∈l:=List.mem_of_getElem? he;have hnm:=Qk hmem;have iha:=fun h=>(ih s hmem).1 h;have ihb:=fun h=>(ih s hmem).2 h;have hw1:=Xy hlt (by omega);have hk1:k+1≤l.length:=hlt;have ct:=X5o s.term;rw[hd]at hJ;obtain⟨sd,sc,sv,sn,⟨so,stn,sks⟩,sa,sb,sbs⟩:=s;simp only[St.then_,St.else_,St.term]at iha ihb hnm ct;simp only[Ww]at hJ;have ca:=iha (by omega);have cb:=ihb (by omega);have ct:=ct (by omega);have he':=XX he;simp only[St.enc,Tm.enc,List.cons_append,List.nil_append]at he';generalize tdT (.mk so stn sks)=q at*;generalize Ww sa=na at*;generalize Ww sb=nb at*;clear hlt h4 ih hmem iha ihb;refine X0<|X3<|X0<|(Xm [⟨true,.v (li (q:Int)),none⟩,⟨true,.v (lb na),none⟩,⟨true,.v (lb nb),none⟩] ?_ ?_)
   · first|exact⟨ct _,ca _,cb _⟩|exact trivial|(repeat' first|exact trivial|exact ct _|exact ca _|exact cb _|apply And.intro)
   refine(Xc rfl (fun h6=>?_) fun h6=>?_)
   · try simp only[BN]at h6
     have hz:res=true:=by
      rw[←hJ];simp only[Bool.or_eq_true,decide_eq_true_eq];rcases h6 with(h|h)|h
      · exact .inl (.inl (.inl (by omega)))
      · exact .inl (.inl (.inr h))
      exact .inl (.inr h)
     refine X2 ?_;exact Xe
   try simp only[BN]at h6
   have hz:Ww (l.drop (k+1))=res:=by
    rw[←hJ];have h12:decide (12<q)=false:=decide_eq_false (by omega);rw[h12,h6.1.2,h6.2];rfl
   clear hJ;refine X1 ?_;exact⟨k+1,⟨hk1,hz⟩,by omega,X4 (fun n=>n) []⟩
 (try simp only[BN]at h4);have hkl:k=l.length:=by omega
 rw[hkl,List.drop_length]at hJ;simp only[Ww]at hJ;subst hJ;refine(Xf ?_);refine X2 ?_;exact Xe
end Go.Proofs.YtppjennamodfdaaGreat
